-- Printed by this session's own program (wip/tools/mkprint.py) out of the translation. Not trusted: Lean checks it.
import Derived.Test.YthdbijjkcoafiaaP0
import Derived.Test.YthdbijjkcoafiaaPf53
import Derived.Test.YthdbijjkcoafiaaPf54
import Derived.Test.YthdbijjkcoafiaaPf55
namespace Go.Proofs.Ythdbijjkcoafiaa.P
open Go.RowKit Go.Proofs.YthdbijjkcoafiaaW.PrintWords Go.Proofs.YthdbijjkcoafiaaW.PrintLast Go.Proofs.YthdbijjkcoafiaaW.PrintMore
attribute [local go_sem] max2_int min2_int max_two min_two max_three min_three max_four min_four   -- for this text's walks alone
set_option linter.unusedVariables false
set_option linter.unusedSimpArgs false

/-! ### impl_isView: function 70 -/
mutual
def impl_isView.j0 : Nat → List Bool → Bool → Int → List Int → List Int → List Bool → Option (Bool)
  | 0, _, _, _, _, _, _ => none
  | k + 1, x1, x15, x882000, x882001, x882002, x882003 => if x15 = true then (some false) else (impl_isView.l0 k x1 0 x882000 x882001 x882002 x882003)
def impl_isView.l0 : Nat → List Bool → Int → Int → List Int → List Int → List Bool → Option (Bool)
  | 0, _, _, _, _, _, _ => none
  | k + 1, x1, x5, x882000, x882001, x882002, x882003 => if x5 < x882000 then (impl_isView.l1 k x1 x5 0 x882000 x882001 x882002 x882003) else (some true)
def impl_isView.l1 : Nat → List Bool → Int → Int → Int → List Int → List Int → List Bool → Option (Bool)
  | 0, _, _, _, _, _, _, _ => none
  | k + 1, x1, x5, x6, x882000, x882001, x882002, x882003 => if x6 < x882000 then ((impl_System_plus.f x882000 x882001 x882002 x882003 x5 x6).bind fun t884 => (if 0 ≤ t884 then (if t884 < (x1.length : Int) then (if 0 ≤ x5 then (if x5 < (x1.length : Int) then (if rdOf false x1 x5 = true then (if ((rdOf false x1 t884) != true) = true then (some false) else ((impl_System_times.f x882000 x882001 x882002 x882003 x5 x6).bind fun t887 => (if 0 ≤ t887 then (if t887 < (x1.length : Int) then (if 0 ≤ x6 then (if x6 < (x1.length : Int) then (if ((rdOf false x1 t887) != (rdOf false x1 x6)) = true then (some false) else ((impl_System_below.f x882000 x882001 x882002 x882003 x5 x6).bind fun t892 => (if t892 = true then (if rdOf false x1 x6 = true then (impl_isView.l1 k x1 x5 (wrap64 (x6 + 1)) x882000 x882001 x882002 x882003) else (some false)) else (impl_isView.l1 k x1 x5 (wrap64 (x6 + 1)) x882000 x882001 x882002 x882003)))) else (none)) else (none)) else (none)) else (none)))) else (if 0 ≤ x6 then (if x6 < (x1.length : Int) then (if ((rdOf false x1 t884) != (rdOf false x1 x6)) = true then (some false) else ((impl_System_times.f x882000 x882001 x882002 x882003 x5 x6).bind fun t895 => (if 0 ≤ t895 then (if t895 < (x1.length : Int) then (if ((rdOf false x1 t895) != false) = true then (some false) else (impl_isView.l1 k x1 x5 (wrap64 (x6 + 1)) x882000 x882001 x882002 x882003)) else (none)) else (none)))) else (none)) else (none))) else (none)) else (none)) else (none)) else (none))) else (impl_isView.l0 k x1 (wrap64 (x5 + 1)) x882000 x882001 x882002 x882003)
end
def impl_isView.f (k : Nat) (a0_0 : Int) (l0_1 : List Int) (l0_2 : List Int) (l0_3 : List Bool) (l1 : List Bool) : Option (Bool) := if 1 < (l1.length : Int) then (if rdOf false l1 1 = true then (if 0 < (l1.length : Int) then (impl_isView.j0 k l1 (rdOf false l1 0) a0_0 l0_1 l0_2 l0_3) else (none)) else (impl_isView.j0 k l1 true a0_0 l0_1 l0_2 l0_3)) else (none)
set_option maxHeartbeats 8000000 in
set_option maxRecDepth 100000 in
theorem impl_isView.calls (k : Nat) (a0_0 : Int) (A0_1 : Option Addr) (c0_1 : Nat) (l0_1 : List Int) (A0_2 : Option Addr) (c0_2 : Nat) (l0_2 : List Int) (A0_3 : Option Addr) (c0_3 : Nat) (l0_3 : List Bool) (A1 : Option Addr) (c1 : Nat) (l1 : List Bool) (r : Bool) (w : World) (hr0_1 : Kd.C (Kd.int .i64) w A0_1 l0_1.length l0_1) (hc0_1 : l0_1.length ≤ c0_1) (hr0_2 : Kd.C (Kd.int .i64) w A0_2 l0_2.length l0_2) (hc0_2 : l0_2.length ≤ c0_2) (hr0_3 : Kd.C Kd.bool w A0_3 l0_3.length l0_3) (hc0_3 : l0_3.length ≤ c0_3) (hr1 : Kd.C Kd.bool w A1 l1.length l1) (hc1 : l1.length ≤ c1) (h : impl_isView.f k a0_0 l0_1 l0_2 l0_3 l1 = some r) :
    Calls Try.prog 70 #[.agg #[.int .i64 a0_0, .slice A0_1 l0_1.length c0_1, .slice A0_2 l0_2.length c0_2, .slice A0_3 l0_3.length c0_3], .slice A1 l1.length c1] w fun e w' => e = .returned (.bool r) ∧ Below w.heap.size w w' := by
  have hu28 := Try.underlying28
  have HR0_1 := Aside0.mk hr0_1
  have HC0_1 := Aside0.mk hc0_1
  clear hr0_1 hc0_1
  have HR0_2 := Aside0.mk hr0_2
  have HC0_2 := Aside0.mk hc0_2
  clear hr0_2 hc0_2
  have HR0_3 := Aside0.mk hr0_3
  have HC0_3 := Aside0.mk hc0_3
  clear hr0_3 hc0_3
  have HR1 := Aside0.mk hr1
  have HC1 := Aside0.mk hc1
  clear hr1 hc1
  have HB := Aside0.mk (Below.refl w.heap.size w)
  have H : (if 1 < (l1.length : Int) then (if rdOf false l1 1 = true then (if 0 < (l1.length : Int) then (impl_isView.j0 k l1 (rdOf false l1 0) a0_0 l0_1 l0_2 l0_3) else (none)) else (impl_isView.j0 k l1 true a0_0 l0_1 l0_2 l0_3)) else (none)) = some r := h
  clear h
  have HC3 := Aside0.mk H
  clear H
  go_enter Try.func70, Try.ntmps70
  go_upto_region 1 with (first | ((with_reducible refine gate_dst (N := 2) rfl ?_); refine box_event ?hg (N := 2) ?hd (cs := #[.int .i64 a0_0, .slice A0_1 l0_1.length c0_1, .slice A0_2 l0_2.length c0_2, .slice A0_3 l0_3.length c0_3]) (t := 28) ?hr ?_; (case hd => rfl); (case hg => rfl); (case hr => first | (go_simp; done) | (go_simp; rfl)); intro gb881 hg w4 hbox hb; have n0_ := Aside0.mk (below_step (by repeat (first | (with_reducible first | exact HB.out | apply below_alloc | apply pw_below_drewN | apply below_drew1) | exact HB.out)) hb); have n1_ := Aside0.mk (hbox); have n2_ := Aside0.mk ((by rw [hg]; exact (below_size (by repeat (first | (with_reducible first | exact HB.out | apply below_alloc | apply pw_below_drewN | apply below_drew1) | exact HB.out))) : w.heap.size ≤ gb881)); have n3_ := Aside0.mk ((by rw [hg]; exact (below_size (by repeat (first | (with_reducible first | exact HB.out | apply below_alloc | apply pw_below_drewN | apply below_drew1) | exact HB.out))) : w.heap.size ≤ gb881)); clear HB; have HB := n0_; have BK881 := n1_; have GW881 := n2_; have GE881 := n3_; clear n0_ n1_ n2_ n3_; clear hb hbox hg))
  (try simp only [Act.put, List.setIfInBounds_toArray, List.set_cons_zero, List.set_cons_succ])
  go_cut [15] (fun v15 wc => ∃ (kq : Nat) (x15_2 : Bool), v15 = .bool x15_2 ∧ Aside0 (impl_isView.j0 kq l1 x15_2 a0_0 l0_1 l0_2 l0_3 = some r) ∧ Aside0 (kq ≤ k) ∧ Aside0 (wc.heap[gb881]? = some (.cells #[.int .i64 a0_0, (.slice A0_1 l0_1.length c0_1), (.slice A0_2 l0_2.length c0_2), (.slice A0_3 l0_3.length c0_3)] 28 (0, 0))) ∧ Aside0 (Below w.heap.size w wc))
  case first =>
    have H := HC3.out
    clear HC3
    by_cases c5 : 1 < (l1.length : Int)
    · rw [if_pos c5] at H
      have c5b0 : decide (1 < (l1.length : Int)) = true := decide_eq_true c5
      have c5b1 : decide (1 < l1.length) = true := decide_eq_true (by omega)
      clear c5
      (first | rw [c5b0] | (simp only [i64_w, i32_w]; rw [c5b0]) | skip)
      obtain ⟨bq6, hbq6⟩ : ∃ b_ : Bool, b_ = (rdOf false l1 1) := ⟨_, rfl⟩
      replace H : (if bq6 = true then (if 0 < (l1.length : Int) then (impl_isView.j0 k l1 (rdOf false l1 0) a0_0 l0_1 l0_2 l0_3) else (none)) else (impl_isView.j0 k l1 true a0_0 l0_1 l0_2 l0_3)) = some r := by rw [← hbq6] at H; exact H
      have Nbq6 := Aside0.mk hbq6
      clear hbq6
      by_cases c7 : bq6 = true
      · subst c7
        have H1 : (if 0 < (l1.length : Int) then (impl_isView.j0 k l1 (rdOf false l1 0) a0_0 l0_1 l0_2 l0_3) else (none)) = some r := by rw [if_pos rfl] at H; exact H
        clear H
        have H := H1
        clear H1
        by_cases c8 : 0 < (l1.length : Int)
        · rw [if_pos c8] at H
          have c8b0 : decide (0 < (l1.length : Int)) = true := decide_eq_true c8
          have c8b1 : decide (0 < l1.length) = true := decide_eq_true (by omega)
          clear c8
          have H' := Aside0.mk H
          clear H
          have p882 : 0 ≤ (1 : Int) := (by omega)
          have q882 : 1 < (l1.length : Int) := of_decide_eq_true (by first | (with_reducible assumption) | assumption)
          obtain ⟨ad882, e882, hx882_0⟩ := Kd.at_bool HR1.out 1 p882 q882
          (try rw [← Nbq6.out] at hx882_0)
          cases e882
          (try simp only [show (1 : Int).toNat = 1 from rfl, Nat.reduceMul, Nat.reduceEqDiff, Go.Addr.add, ↓reduceIte] at hx882_0)
          have qi882 : (1 < l1.length) = True := eq_true (by omega)
          (try rw [show ((1 : Int)).toNat = 1 from rfl] at hx882_0)
          replace hx882_0 := (HB.out.cell (World.block_lt_of_cell? w _ hx882_0)).trans hx882_0
          replace p882 := eq_true p882
          replace q882 := eq_true q882
          have p883 : 0 ≤ (0 : Int) := (by omega)
          have q883 : 0 < (l1.length : Int) := of_decide_eq_true (by first | (with_reducible assumption) | assumption)
          obtain ⟨ad883, e883, hx883_0⟩ := Kd.at_bool HR1.out 0 p883 q883
          (try rw [← Nbq6.out] at hx883_0)
          obtain rfl : ad882 = ad883 := (by injection e883)
          have qi883 : (0 < l1.length) = True := eq_true (by omega)
          (try rw [show ((0 : Int)).toNat = 0 from rfl] at hx883_0)
          (try rw [Addr.add_zero'] at hx883_0)
          replace hx883_0 := (HB.out.cell (World.block_lt_of_cell? w _ hx883_0)).trans hx883_0
          replace p883 := eq_true p883
          replace q883 := eq_true q883
          go_wp2
          go_meet
          case rel => exact ⟨_, (rdOf false l1 0), (by first | rfl | (simp; done) | (simp [*]; done)), H', ⟨by first | omega | exact Nat.le_refl _⟩, ⟨by (with_reducible repeat (first | refine blk_drewN ?_ _ | refine blk_drew ?_ | refine blk_alloc ?_ _)); exact BK881.out⟩, ⟨by repeat (first | (with_reducible first | exact HB.out | apply below_alloc | apply pw_below_drewN | apply below_drew1 | refine below_set ?_ GE881.out) | exact HB.out)⟩⟩
        · rw [if_neg c8] at H
          exact absurd H (by simp)
      · replace c7 := Bool.eq_false_iff.mpr c7
        subst c7
        have H1 : (impl_isView.j0 k l1 true a0_0 l0_1 l0_2 l0_3) = some r := by rw [if_neg (show ¬ (false = true) by decide)] at H; exact H
        clear H
        have H := H1
        clear H1
        have H' := Aside0.mk H
        clear H
        have p882 : 0 ≤ (1 : Int) := (by omega)
        have q882 : 1 < (l1.length : Int) := of_decide_eq_true (by first | (with_reducible assumption) | assumption)
        obtain ⟨ad882, e882, hx882_0⟩ := Kd.at_bool HR1.out 1 p882 q882
        (try rw [← Nbq6.out] at hx882_0)
        cases e882
        (try simp only [show (1 : Int).toNat = 1 from rfl, Nat.reduceMul, Nat.reduceEqDiff, Go.Addr.add, ↓reduceIte] at hx882_0)
        have qi882 : (1 < l1.length) = True := eq_true (by omega)
        (try rw [show ((1 : Int)).toNat = 1 from rfl] at hx882_0)
        replace hx882_0 := (HB.out.cell (World.block_lt_of_cell? w _ hx882_0)).trans hx882_0
        replace p882 := eq_true p882
        replace q882 := eq_true q882
        go_wp2
        go_meet
        case rel => exact ⟨_, (true), (by first | rfl | (simp; done) | (simp [*]; done)), H', ⟨by first | omega | exact Nat.le_refl _⟩, ⟨by (with_reducible repeat (first | refine blk_drewN ?_ _ | refine blk_drew ?_ | refine blk_alloc ?_ _)); exact BK881.out⟩, ⟨by repeat (first | (with_reducible first | exact HB.out | apply below_alloc | apply pw_below_drewN | apply below_drew1 | refine below_set ?_ GE881.out) | exact HB.out)⟩⟩
    · rw [if_neg c5] at H
      exact absurd H (by simp)
  case rest =>
    clear HC3
    try clear c1
    try clear c7
    obtain ⟨kq, x15_2, rfl, HA, HJ2, BK881, HB⟩ := hcut
    cases kq with
    | zero => exact absurd HA.out (by simp [impl_isView.j0])
    | succ kj2 =>
      have H := HA.out
      clear HA
      simp only [impl_isView.j0] at H
      by_cases c9 : x15_2 = true
      · subst c9
        have H1 : (some false) = some r := by rw [if_pos rfl] at H; exact H
        clear H
        have H := H1
        clear H1
        obtain rfl := Option.some.inj H
        go_wp2
        go_ret
        exact ⟨by first | rfl | (simp [errW_none, errW_some] <;> rfl) | (simp [*, errW_none, errW_some] <;> rfl), by repeat (first | (with_reducible first | exact HB.out | apply below_alloc | apply pw_below_drewN | apply below_drew1 | refine below_set ?_ GE881.out) | exact HB.out)⟩
      · replace c9 := Bool.eq_false_iff.mpr c9
        subst c9
        have H1 : (impl_isView.l0 kj2 l1 0 a0_0 l0_1 l0_2 l0_3) = some r := by rw [if_neg (show ¬ (false = true) by decide)] at H; exact H
        clear H
        have H := H1
        clear H1
        have H' := Aside0.mk H
        clear H
        go_wp2
        go_loopg [5] kj2 (fun kq v5 w' => ∃ (x5_2 : Int), v5 = .int .i64 x5_2 ∧ Aside0 (impl_isView.l0 kq l1 x5_2 a0_0 l0_1 l0_2 l0_3 = some r) ∧ Aside0 (kq ≤ kj2) ∧ Aside0 (w'.heap[gb881]? = some (.cells #[.int .i64 a0_0, (.slice A0_1 l0_1.length c0_1), (.slice A0_2 l0_2.length c0_2), (.slice A0_3 l0_3.length c0_3)] 28 (0, 0))) ∧ Aside0 (Below w.heap.size w w'))
        case atStart => exact ⟨(0), (by first | rfl | (simp; done) | (simp [*]; done)), H', ⟨Nat.le_refl _⟩, ⟨by (with_reducible repeat (first | refine blk_drewN ?_ _ | refine blk_drew ?_ | refine blk_alloc ?_ _)); exact BK881.out⟩, ⟨by repeat (first | (with_reducible first | exact HB.out | apply below_alloc | apply pw_below_drewN | apply below_drew1 | refine below_set ?_ GE881.out) | exact HB.out)⟩⟩
        case round =>
          clear H'
          try clear c1
          try clear p2
          try clear c7
          try clear c9
          obtain ⟨x5_2, rfl, HA, HK2, BK881, HB⟩ := hrel
          cases gk with
          | zero => exact absurd HA.out (by simp [impl_isView.l0])
          | succ k2 =>
            have H := HA.out
            clear HA
            simp only [impl_isView.l0] at H
            by_cases c10 : x5_2 < a0_0
            · rw [if_pos c10] at H
              have c10b0 : decide (x5_2 < a0_0) = true := decide_eq_true c10
              clear c10
              have H' := Aside0.mk H
              clear H
              have hcz11_0 : wr.cell? ⟨gb881, 0, none⟩ = some (.int .i64 a0_0) := (blk_cell BK881.out 0).trans rfl
              have hcz11_1 : wr.cell? ⟨gb881, 1, none⟩ = some (.slice A0_1 l0_1.length c0_1) := (blk_cell BK881.out 1).trans rfl
              have hcz11_2 : wr.cell? ⟨gb881, 2, none⟩ = some (.slice A0_2 l0_2.length c0_2) := (blk_cell BK881.out 2).trans rfl
              have hcz11_3 : wr.cell? ⟨gb881, 3, none⟩ = some (.slice A0_3 l0_3.length c0_3) := (blk_cell BK881.out 3).trans rfl
              have hfz11_0 := blk_frozen BK881.out 0
              have hfz11_1 := blk_frozen BK881.out 1
              have hfz11_2 := blk_frozen BK881.out 2
              have hfz11_3 := blk_frozen BK881.out 3
              go_wp2
              go_loopg [6] k2 (fun kq v6 w' => ∃ (x6_3 : Int), v6 = .int .i64 x6_3 ∧ Aside0 (impl_isView.l1 kq l1 x5_2 x6_3 a0_0 l0_1 l0_2 l0_3 = some r) ∧ Aside0 (kq ≤ k2) ∧ Aside0 (w'.heap[gb881]? = some (.cells #[.int .i64 a0_0, (.slice A0_1 l0_1.length c0_1), (.slice A0_2 l0_2.length c0_2), (.slice A0_3 l0_3.length c0_3)] 28 (0, 0))) ∧ Aside0 (Below w.heap.size w w'))
              case atStart => exact ⟨(0), (by first | rfl | (simp; done) | (simp [*]; done)), H', ⟨Nat.le_refl _⟩, ⟨by (with_reducible repeat (first | refine blk_drewN ?_ _ | refine blk_drew ?_ | refine blk_alloc ?_ _)); exact BK881.out⟩, ⟨by repeat (first | (with_reducible first | exact HB.out | apply below_alloc | apply pw_below_drewN | apply below_drew1 | refine below_set ?_ GE881.out) | exact HB.out)⟩⟩
              case round =>
                clear H'
                try clear c1
                try clear p2
                try clear c7
                try clear c9
                try clear c10
                try clear c10b0
                try clear hcz11_0
                try clear hcz11_1
                try clear hcz11_2
                try clear hcz11_3
                try clear hfz11_0
                try clear hfz11_1
                try clear hfz11_2
                try clear hfz11_3
                try clear p2
                obtain ⟨x6_3, rfl, HA, HK3, BK881, HB⟩ := hrel
                cases gk with
                | zero => exact absurd HA.out (by simp [impl_isView.l1])
                | succ k3 =>
                  have H := HA.out
                  clear HA
                  simp only [impl_isView.l1] at H
                  by_cases c12 : x6_3 < a0_0
                  · rw [if_pos c12] at H
                    have c12b0 : decide (x6_3 < a0_0) = true := decide_eq_true c12
                    clear c12
                    replace H := Option.bind_eq_some_iff.mp H
                    obtain ⟨t884, A130, H⟩ := H
                    replace H : (if 0 ≤ t884 then (if t884 < (l1.length : Int) then (if 0 ≤ x5_2 then (if x5_2 < (l1.length : Int) then (if rdOf false l1 x5_2 = true then (if ((rdOf false l1 t884) != true) = true then (some false) else ((impl_System_times.f a0_0 l0_1 l0_2 l0_3 x5_2 x6_3).bind fun t887 => (if 0 ≤ t887 then (if t887 < (l1.length : Int) then (if 0 ≤ x6_3 then (if x6_3 < (l1.length : Int) then (if ((rdOf false l1 t887) != (rdOf false l1 x6_3)) = true then (some false) else ((impl_System_below.f a0_0 l0_1 l0_2 l0_3 x5_2 x6_3).bind fun t892 => (if t892 = true then (if rdOf false l1 x6_3 = true then (impl_isView.l1 k3 l1 x5_2 (wrap64 (x6_3 + 1)) a0_0 l0_1 l0_2 l0_3) else (some false)) else (impl_isView.l1 k3 l1 x5_2 (wrap64 (x6_3 + 1)) a0_0 l0_1 l0_2 l0_3)))) else (none)) else (none)) else (none)) else (none)))) else (if 0 ≤ x6_3 then (if x6_3 < (l1.length : Int) then (if ((rdOf false l1 t884) != (rdOf false l1 x6_3)) = true then (some false) else ((impl_System_times.f a0_0 l0_1 l0_2 l0_3 x5_2 x6_3).bind fun t895 => (if 0 ≤ t895 then (if t895 < (l1.length : Int) then (if ((rdOf false l1 t895) != false) = true then (some false) else (impl_isView.l1 k3 l1 x5_2 (wrap64 (x6_3 + 1)) a0_0 l0_1 l0_2 l0_3)) else (none)) else (none)))) else (none)) else (none))) else (none)) else (none)) else (none)) else (none)) = some r := H
                    have A13 := Aside0.mk A130
                    clear A130
                    by_cases c14 : 0 ≤ t884
                    · rw [if_pos c14] at H
                      have c14b0 : decide (0 ≤ t884) = true := decide_eq_true c14
                      clear c14
                      by_cases c15 : t884 < (l1.length : Int)
                      · rw [if_pos c15] at H
                        have c15b0 : decide (t884 < (l1.length : Int)) = true := decide_eq_true c15
                        clear c15
                        by_cases c16 : 0 ≤ x5_2
                        · rw [if_pos c16] at H
                          have c16b0 : decide (0 ≤ x5_2) = true := decide_eq_true c16
                          clear c16
                          by_cases c17 : x5_2 < (l1.length : Int)
                          · rw [if_pos c17] at H
                            have c17b0 : decide (x5_2 < (l1.length : Int)) = true := decide_eq_true c17
                            clear c17
                            obtain ⟨bq18, hbq18⟩ : ∃ b_ : Bool, b_ = (rdOf false l1 x5_2) := ⟨_, rfl⟩
                            replace H : (if bq18 = true then (if ((rdOf false l1 t884) != true) = true then (some false) else ((impl_System_times.f a0_0 l0_1 l0_2 l0_3 x5_2 x6_3).bind fun t887 => (if 0 ≤ t887 then (if t887 < (l1.length : Int) then (if 0 ≤ x6_3 then (if x6_3 < (l1.length : Int) then (if ((rdOf false l1 t887) != (rdOf false l1 x6_3)) = true then (some false) else ((impl_System_below.f a0_0 l0_1 l0_2 l0_3 x5_2 x6_3).bind fun t892 => (if t892 = true then (if rdOf false l1 x6_3 = true then (impl_isView.l1 k3 l1 x5_2 (wrap64 (x6_3 + 1)) a0_0 l0_1 l0_2 l0_3) else (some false)) else (impl_isView.l1 k3 l1 x5_2 (wrap64 (x6_3 + 1)) a0_0 l0_1 l0_2 l0_3)))) else (none)) else (none)) else (none)) else (none)))) else (if 0 ≤ x6_3 then (if x6_3 < (l1.length : Int) then (if ((rdOf false l1 t884) != (rdOf false l1 x6_3)) = true then (some false) else ((impl_System_times.f a0_0 l0_1 l0_2 l0_3 x5_2 x6_3).bind fun t895 => (if 0 ≤ t895 then (if t895 < (l1.length : Int) then (if ((rdOf false l1 t895) != false) = true then (some false) else (impl_isView.l1 k3 l1 x5_2 (wrap64 (x6_3 + 1)) a0_0 l0_1 l0_2 l0_3)) else (none)) else (none)))) else (none)) else (none))) = some r := by rw [← hbq18] at H; exact H
                            have Nbq18 := Aside0.mk hbq18
                            clear hbq18
                            by_cases c19 : bq18 = true
                            · subst c19
                              have H1 : (if ((rdOf false l1 t884) != true) = true then (some false) else ((impl_System_times.f a0_0 l0_1 l0_2 l0_3 x5_2 x6_3).bind fun t887 => (if 0 ≤ t887 then (if t887 < (l1.length : Int) then (if 0 ≤ x6_3 then (if x6_3 < (l1.length : Int) then (if ((rdOf false l1 t887) != (rdOf false l1 x6_3)) = true then (some false) else ((impl_System_below.f a0_0 l0_1 l0_2 l0_3 x5_2 x6_3).bind fun t892 => (if t892 = true then (if rdOf false l1 x6_3 = true then (impl_isView.l1 k3 l1 x5_2 (wrap64 (x6_3 + 1)) a0_0 l0_1 l0_2 l0_3) else (some false)) else (impl_isView.l1 k3 l1 x5_2 (wrap64 (x6_3 + 1)) a0_0 l0_1 l0_2 l0_3)))) else (none)) else (none)) else (none)) else (none)))) = some r := by rw [if_pos rfl] at H; exact H
                              clear H
                              have H := H1
                              clear H1
                              by_cases c20 : ((rdOf false l1 t884) != true) = true
                              · rw [if_pos c20] at H
                                have c20b0 : ((rdOf false l1 t884) != true) = true := c20
                                (try (have c20b1 : decide ((rdOf false l1 t884) = true) = false := by simpa using c20))
                                (try (have c20b2 : ((rdOf false l1 t884) == true) = false := by simpa using c20))
                                (try (have c20b3 : ¬ ((rdOf false l1 t884) = true) := by simpa using c20))
                                clear c20
                                obtain rfl := Option.some.inj H
                                have hcz21_0 : wr.cell? ⟨gb881, 0, none⟩ = some (.int .i64 a0_0) := (blk_cell BK881.out 0).trans rfl
                                have hcz21_1 : wr.cell? ⟨gb881, 1, none⟩ = some (.slice A0_1 l0_1.length c0_1) := (blk_cell BK881.out 1).trans rfl
                                have hcz21_2 : wr.cell? ⟨gb881, 2, none⟩ = some (.slice A0_2 l0_2.length c0_2) := (blk_cell BK881.out 2).trans rfl
                                have hcz21_3 : wr.cell? ⟨gb881, 3, none⟩ = some (.slice A0_3 l0_3.length c0_3) := (blk_cell BK881.out 3).trans rfl
                                have hfz21_0 := blk_frozen BK881.out 0
                                have hfz21_1 := blk_frozen BK881.out 1
                                have hfz21_2 := blk_frozen BK881.out 2
                                have hfz21_3 := blk_frozen BK881.out 3
                                try go_wp2
                                (try (have c20s := c20b0; (try simp only [← Nbq18.out] at c20s); (try simp at c20s)))
                                have p885 : 0 ≤ (t884 : Int) := of_decide_eq_true (by first | (with_reducible assumption) | assumption)
                                have q885 : t884 < (l1.length : Int) := of_decide_eq_true (by first | (with_reducible assumption) | assumption)
                                obtain ⟨ad885, e885, hx885_0⟩ := Kd.at_bool HR1.out t884 p885 q885
                                (try rw [← Nbq18.out] at hx885_0)
                                cases e885
                                replace hx885_0 := (HB.out.cell (World.block_lt_of_cell? w _ hx885_0)).trans hx885_0
                                replace p885 := eq_true p885
                                replace q885 := eq_true q885
                                have p886 : 0 ≤ (x5_2 : Int) := of_decide_eq_true (by first | (with_reducible assumption) | assumption)
                                have q886 : x5_2 < (l1.length : Int) := of_decide_eq_true (by first | (with_reducible assumption) | assumption)
                                obtain ⟨ad886, e886, hx886_0⟩ := Kd.at_bool HR1.out x5_2 p886 q886
                                (try rw [← Nbq18.out] at hx886_0)
                                obtain rfl : ad885 = ad886 := (by injection e886)
                                replace hx886_0 := (HB.out.cell (World.block_lt_of_cell? w _ hx886_0)).trans hx886_0
                                replace p886 := eq_true p886
                                replace q886 := eq_true q886
                                refine qb_region (by kernel_rfl) (by kernel_rfl) ?_
                                have HQ := fun (wq : World) (hq : Below wr.heap.size wr wq) => below_step HB.out hq
                                repeat ((first | (apply qb_skip; (focus rfl)) | (refine qb_callN 32 rfl ?_; apply qb_call 32 rfl Try.func53 (by kernel_rfl) rfl rfl; (focus rfl); (focus (exact fun wq9 hb9 => qb_b hb9 (impl_System_plus.calls a0_0 _ _ l0_1 _ _ l0_2 _ _ l0_3 x5_2 x6_3 t884 _ (Kd.C_below HR0_1.out (HQ _ hb9)) HC0_1.out (Kd.C_below HR0_2.out (HQ _ hb9)) HC0_2.out (Kd.C_below HR0_3.out (HQ _ hb9)) HC0_3.out A13.out))); (focus (rfl))) | (apply qb_val; (focus rfl); (focus (intro wq9 _; go_simp; with_reducible rfl))) | (apply qb_val; (focus rfl); (focus (intro wq9 hb9_; have hb9 : Below wr.heap.size wr wq9 := hb9_; have BK881 := Aside0.mk (blk_below BK881.out hb9); have hc9_881_0 : wq9.cell? ⟨gb881, 0, none⟩ = some (.int .i64 a0_0) := (blk_cell BK881.out 0).trans rfl; have hc9_881_1 : wq9.cell? ⟨gb881, 1, none⟩ = some (.slice A0_1 l0_1.length c0_1) := (blk_cell BK881.out 1).trans rfl; have hc9_881_2 : wq9.cell? ⟨gb881, 2, none⟩ = some (.slice A0_2 l0_2.length c0_2) := (blk_cell BK881.out 2).trans rfl; have hc9_881_3 : wq9.cell? ⟨gb881, 3, none⟩ = some (.slice A0_3 l0_3.length c0_3) := (blk_cell BK881.out 3).trans rfl; have hx885_0 := (hb9.cell (World.block_lt_of_cell? _ _ hx885_0)).trans hx885_0; have hx886_0 := (hb9.cell (World.block_lt_of_cell? _ _ hx886_0)).trans hx886_0; go_simp; with_reducible rfl)))); (focus (simp only [Act.put, List.setIfInBounds_toArray, List.set_cons_zero, List.set_cons_succ, i64_w, i32_w]; rfl)))
                                refine qb_nil ?_
                                intro w23 hb
                                have n0_ := Aside0.mk (blk_below BK881.out hb)
                                have n1_ := Aside0.mk (below_step HB.out hb)
                                clear BK881
                                clear HB
                                have BK881 := n0_
                                have HB := n1_
                                clear n0_ n1_
                                clear hb
                                (try clear HQ)
                                try go_wp2
                                go_ret
                                exact ⟨by first | rfl | (simp [errW_none, errW_some] <;> rfl) | (simp [*, errW_none, errW_some] <;> rfl), by repeat (first | (with_reducible first | exact HB.out | apply below_alloc | apply pw_below_drewN | apply below_drew1 | refine below_set ?_ GE881.out) | exact HB.out)⟩
                              · rw [if_neg c20] at H
                                have c20b0 : ((rdOf false l1 t884) != true) = false := by simpa using c20
                                (try (have c20b1 : decide ((rdOf false l1 t884) = true) = true := by simpa using c20))
                                (try (have c20b2 : ((rdOf false l1 t884) == true) = true := by simpa using c20))
                                clear c20
                                replace H := Option.bind_eq_some_iff.mp H
                                obtain ⟨t887, A240, H⟩ := H
                                replace H : (if 0 ≤ t887 then (if t887 < (l1.length : Int) then (if 0 ≤ x6_3 then (if x6_3 < (l1.length : Int) then (if ((rdOf false l1 t887) != (rdOf false l1 x6_3)) = true then (some false) else ((impl_System_below.f a0_0 l0_1 l0_2 l0_3 x5_2 x6_3).bind fun t892 => (if t892 = true then (if rdOf false l1 x6_3 = true then (impl_isView.l1 k3 l1 x5_2 (wrap64 (x6_3 + 1)) a0_0 l0_1 l0_2 l0_3) else (some false)) else (impl_isView.l1 k3 l1 x5_2 (wrap64 (x6_3 + 1)) a0_0 l0_1 l0_2 l0_3)))) else (none)) else (none)) else (none)) else (none)) = some r := H
                                have A24 := Aside0.mk A240
                                clear A240
                                by_cases c25 : 0 ≤ t887
                                · rw [if_pos c25] at H
                                  have c25b0 : decide (0 ≤ t887) = true := decide_eq_true c25
                                  clear c25
                                  by_cases c26 : t887 < (l1.length : Int)
                                  · rw [if_pos c26] at H
                                    have c26b0 : decide (t887 < (l1.length : Int)) = true := decide_eq_true c26
                                    clear c26
                                    by_cases c27 : 0 ≤ x6_3
                                    · rw [if_pos c27] at H
                                      have c27b0 : decide (0 ≤ x6_3) = true := decide_eq_true c27
                                      clear c27
                                      by_cases c28 : x6_3 < (l1.length : Int)
                                      · rw [if_pos c28] at H
                                        have c28b0 : decide (x6_3 < (l1.length : Int)) = true := decide_eq_true c28
                                        clear c28
                                        by_cases c29 : ((rdOf false l1 t887) != (rdOf false l1 x6_3)) = true
                                        · rw [if_pos c29] at H
                                          have c29b0 : ((rdOf false l1 t887) != (rdOf false l1 x6_3)) = true := c29
                                          (try (have c29b1 : decide ((rdOf false l1 t887) = (rdOf false l1 x6_3)) = false := by simpa using c29))
                                          (try (have c29b2 : ((rdOf false l1 t887) == (rdOf false l1 x6_3)) = false := by simpa using c29))
                                          (try (have c29b3 : ¬ ((rdOf false l1 t887) = (rdOf false l1 x6_3)) := by simpa using c29))
                                          clear c29
                                          obtain rfl := Option.some.inj H
                                          have hcz30_0 : wr.cell? ⟨gb881, 0, none⟩ = some (.int .i64 a0_0) := (blk_cell BK881.out 0).trans rfl
                                          have hcz30_1 : wr.cell? ⟨gb881, 1, none⟩ = some (.slice A0_1 l0_1.length c0_1) := (blk_cell BK881.out 1).trans rfl
                                          have hcz30_2 : wr.cell? ⟨gb881, 2, none⟩ = some (.slice A0_2 l0_2.length c0_2) := (blk_cell BK881.out 2).trans rfl
                                          have hcz30_3 : wr.cell? ⟨gb881, 3, none⟩ = some (.slice A0_3 l0_3.length c0_3) := (blk_cell BK881.out 3).trans rfl
                                          have hfz30_0 := blk_frozen BK881.out 0
                                          have hfz30_1 := blk_frozen BK881.out 1
                                          have hfz30_2 := blk_frozen BK881.out 2
                                          have hfz30_3 := blk_frozen BK881.out 3
                                          try go_wp2
                                          (try (have c20s := c20b0; (try simp only [← Nbq18.out] at c20s); (try simp at c20s)))
                                          (try (have c29s := c29b0; (try simp only [← Nbq18.out] at c29s); (try simp at c29s)))
                                          have p885 : 0 ≤ (t884 : Int) := of_decide_eq_true (by first | (with_reducible assumption) | assumption)
                                          have q885 : t884 < (l1.length : Int) := of_decide_eq_true (by first | (with_reducible assumption) | assumption)
                                          obtain ⟨ad885, e885, hx885_0⟩ := Kd.at_bool HR1.out t884 p885 q885
                                          (try rw [← Nbq18.out] at hx885_0)
                                          cases e885
                                          replace hx885_0 := (HB.out.cell (World.block_lt_of_cell? w _ hx885_0)).trans hx885_0
                                          replace p885 := eq_true p885
                                          replace q885 := eq_true q885
                                          have p886 : 0 ≤ (x5_2 : Int) := of_decide_eq_true (by first | (with_reducible assumption) | assumption)
                                          have q886 : x5_2 < (l1.length : Int) := of_decide_eq_true (by first | (with_reducible assumption) | assumption)
                                          obtain ⟨ad886, e886, hx886_0⟩ := Kd.at_bool HR1.out x5_2 p886 q886
                                          (try rw [← Nbq18.out] at hx886_0)
                                          obtain rfl : ad885 = ad886 := (by injection e886)
                                          replace hx886_0 := (HB.out.cell (World.block_lt_of_cell? w _ hx886_0)).trans hx886_0
                                          replace p886 := eq_true p886
                                          replace q886 := eq_true q886
                                          have p888 : 0 ≤ (t887 : Int) := of_decide_eq_true (by first | (with_reducible assumption) | assumption)
                                          have q888 : t887 < (l1.length : Int) := of_decide_eq_true (by first | (with_reducible assumption) | assumption)
                                          obtain ⟨ad888, e888, hx888_0⟩ := Kd.at_bool HR1.out t887 p888 q888
                                          (try rw [← Nbq18.out] at hx888_0)
                                          obtain rfl : ad885 = ad888 := (by injection e888)
                                          replace hx888_0 := (HB.out.cell (World.block_lt_of_cell? w _ hx888_0)).trans hx888_0
                                          replace p888 := eq_true p888
                                          replace q888 := eq_true q888
                                          have p889 : 0 ≤ (x5_2 : Int) := of_decide_eq_true (by first | (with_reducible assumption) | assumption)
                                          have q889 : x5_2 < (l1.length : Int) := of_decide_eq_true (by first | (with_reducible assumption) | assumption)
                                          obtain ⟨ad889, e889, hx889_0⟩ := Kd.at_bool HR1.out x5_2 p889 q889
                                          (try rw [← Nbq18.out] at hx889_0)
                                          obtain rfl : ad885 = ad889 := (by injection e889)
                                          replace hx889_0 := (HB.out.cell (World.block_lt_of_cell? w _ hx889_0)).trans hx889_0
                                          replace p889 := eq_true p889
                                          replace q889 := eq_true q889
                                          have p890 : 0 ≤ (x6_3 : Int) := of_decide_eq_true (by first | (with_reducible assumption) | assumption)
                                          have q890 : x6_3 < (l1.length : Int) := of_decide_eq_true (by first | (with_reducible assumption) | assumption)
                                          obtain ⟨ad890, e890, hx890_0⟩ := Kd.at_bool HR1.out x6_3 p890 q890
                                          (try rw [← Nbq18.out] at hx890_0)
                                          obtain rfl : ad885 = ad890 := (by injection e890)
                                          replace hx890_0 := (HB.out.cell (World.block_lt_of_cell? w _ hx890_0)).trans hx890_0
                                          replace p890 := eq_true p890
                                          replace q890 := eq_true q890
                                          refine qb_region (by kernel_rfl) (by kernel_rfl) ?_
                                          have HQ := fun (wq : World) (hq : Below wr.heap.size wr wq) => below_step HB.out hq
                                          repeat ((first | (apply qb_skip; (focus rfl)) | (refine qb_callN 32 rfl ?_; apply qb_call 32 rfl Try.func53 (by kernel_rfl) rfl rfl; (focus rfl); (focus (exact fun wq9 hb9 => qb_b hb9 (impl_System_plus.calls a0_0 _ _ l0_1 _ _ l0_2 _ _ l0_3 x5_2 x6_3 t884 _ (Kd.C_below HR0_1.out (HQ _ hb9)) HC0_1.out (Kd.C_below HR0_2.out (HQ _ hb9)) HC0_2.out (Kd.C_below HR0_3.out (HQ _ hb9)) HC0_3.out A13.out))); (focus (rfl))) | (refine qb_callN 51 rfl ?_; apply qb_call 51 rfl Try.func54 (by kernel_rfl) rfl rfl; (focus rfl); (focus (exact fun wq9 hb9 => qb_b hb9 (impl_System_times.calls a0_0 _ _ l0_1 _ _ l0_2 _ _ l0_3 x5_2 x6_3 t887 _ (Kd.C_below HR0_1.out (HQ _ hb9)) HC0_1.out (Kd.C_below HR0_2.out (HQ _ hb9)) HC0_2.out (Kd.C_below HR0_3.out (HQ _ hb9)) HC0_3.out A24.out))); (focus (rfl))) | (apply qb_val; (focus rfl); (focus (intro wq9 _; go_simp; with_reducible rfl))) | (apply qb_val; (focus rfl); (focus (intro wq9 hb9_; have hb9 : Below wr.heap.size wr wq9 := hb9_; have BK881 := Aside0.mk (blk_below BK881.out hb9); have hc9_881_0 : wq9.cell? ⟨gb881, 0, none⟩ = some (.int .i64 a0_0) := (blk_cell BK881.out 0).trans rfl; have hc9_881_1 : wq9.cell? ⟨gb881, 1, none⟩ = some (.slice A0_1 l0_1.length c0_1) := (blk_cell BK881.out 1).trans rfl; have hc9_881_2 : wq9.cell? ⟨gb881, 2, none⟩ = some (.slice A0_2 l0_2.length c0_2) := (blk_cell BK881.out 2).trans rfl; have hc9_881_3 : wq9.cell? ⟨gb881, 3, none⟩ = some (.slice A0_3 l0_3.length c0_3) := (blk_cell BK881.out 3).trans rfl; have hx885_0 := (hb9.cell (World.block_lt_of_cell? _ _ hx885_0)).trans hx885_0; have hx886_0 := (hb9.cell (World.block_lt_of_cell? _ _ hx886_0)).trans hx886_0; have hx888_0 := (hb9.cell (World.block_lt_of_cell? _ _ hx888_0)).trans hx888_0; have hx889_0 := (hb9.cell (World.block_lt_of_cell? _ _ hx889_0)).trans hx889_0; have hx890_0 := (hb9.cell (World.block_lt_of_cell? _ _ hx890_0)).trans hx890_0; go_simp; with_reducible rfl)))); (focus (simp only [Act.put, List.setIfInBounds_toArray, List.set_cons_zero, List.set_cons_succ, i64_w, i32_w]; rfl)))
                                          refine qb_nil ?_
                                          intro w33 hb
                                          have n0_ := Aside0.mk (blk_below BK881.out hb)
                                          have n1_ := Aside0.mk (below_step HB.out hb)
                                          clear BK881
                                          clear HB
                                          have BK881 := n0_
                                          have HB := n1_
                                          clear n0_ n1_
                                          clear hb
                                          (try clear HQ)
                                          try go_wp2
                                          go_ret
                                          exact ⟨by first | rfl | (simp [errW_none, errW_some] <;> rfl) | (simp [*, errW_none, errW_some] <;> rfl), by repeat (first | (with_reducible first | exact HB.out | apply below_alloc | apply pw_below_drewN | apply below_drew1 | refine below_set ?_ GE881.out) | exact HB.out)⟩
                                        · rw [if_neg c29] at H
                                          have c29b0 : ((rdOf false l1 t887) != (rdOf false l1 x6_3)) = false := by simpa using c29
                                          (try (have c29b1 : decide ((rdOf false l1 t887) = (rdOf false l1 x6_3)) = true := by simpa using c29))
                                          (try (have c29b2 : ((rdOf false l1 t887) == (rdOf false l1 x6_3)) = true := by simpa using c29))
                                          clear c29
                                          replace H := Option.bind_eq_some_iff.mp H
                                          obtain ⟨t892, A340, H⟩ := H
                                          replace H : (if t892 = true then (if rdOf false l1 x6_3 = true then (impl_isView.l1 k3 l1 x5_2 (wrap64 (x6_3 + 1)) a0_0 l0_1 l0_2 l0_3) else (some false)) else (impl_isView.l1 k3 l1 x5_2 (wrap64 (x6_3 + 1)) a0_0 l0_1 l0_2 l0_3)) = some r := H
                                          have A34 := Aside0.mk A340
                                          clear A340
                                          by_cases c35 : t892 = true
                                          · subst c35
                                            have H1 : (if rdOf false l1 x6_3 = true then (impl_isView.l1 k3 l1 x5_2 (wrap64 (x6_3 + 1)) a0_0 l0_1 l0_2 l0_3) else (some false)) = some r := by rw [if_pos rfl] at H; exact H
                                            clear H
                                            have H := H1
                                            clear H1
                                            obtain ⟨bq36, hbq36⟩ : ∃ b_ : Bool, b_ = (rdOf false l1 x6_3) := ⟨_, rfl⟩
                                            replace H : (if bq36 = true then (impl_isView.l1 k3 l1 x5_2 (wrap64 (x6_3 + 1)) a0_0 l0_1 l0_2 l0_3) else (some false)) = some r := by rw [← hbq36] at H; exact H
                                            have Nbq36 := Aside0.mk hbq36
                                            clear hbq36
                                            by_cases c37 : bq36 = true
                                            · subst c37
                                              have H1 : (impl_isView.l1 k3 l1 x5_2 (wrap64 (x6_3 + 1)) a0_0 l0_1 l0_2 l0_3) = some r := by rw [if_pos rfl] at H; exact H
                                              clear H
                                              have H := H1
                                              clear H1
                                              have H' := Aside0.mk H
                                              clear H
                                              have hcz38_0 : wr.cell? ⟨gb881, 0, none⟩ = some (.int .i64 a0_0) := (blk_cell BK881.out 0).trans rfl
                                              have hcz38_1 : wr.cell? ⟨gb881, 1, none⟩ = some (.slice A0_1 l0_1.length c0_1) := (blk_cell BK881.out 1).trans rfl
                                              have hcz38_2 : wr.cell? ⟨gb881, 2, none⟩ = some (.slice A0_2 l0_2.length c0_2) := (blk_cell BK881.out 2).trans rfl
                                              have hcz38_3 : wr.cell? ⟨gb881, 3, none⟩ = some (.slice A0_3 l0_3.length c0_3) := (blk_cell BK881.out 3).trans rfl
                                              have hfz38_0 := blk_frozen BK881.out 0
                                              have hfz38_1 := blk_frozen BK881.out 1
                                              have hfz38_2 := blk_frozen BK881.out 2
                                              have hfz38_3 := blk_frozen BK881.out 3
                                              try go_wp2
                                              (try (have c20s := c20b0; (try simp only [← Nbq18.out, ← Nbq36.out] at c20s); (try simp at c20s)))
                                              (try (have c29s := c29b0; (try simp only [← Nbq18.out, ← Nbq36.out] at c29s); (try simp at c29s)))
                                              have p885 : 0 ≤ (t884 : Int) := of_decide_eq_true (by first | (with_reducible assumption) | assumption)
                                              have q885 : t884 < (l1.length : Int) := of_decide_eq_true (by first | (with_reducible assumption) | assumption)
                                              obtain ⟨ad885, e885, hx885_0⟩ := Kd.at_bool HR1.out t884 p885 q885
                                              (try rw [← Nbq18.out] at hx885_0)
                                              (try rw [← Nbq36.out] at hx885_0)
                                              cases e885
                                              replace hx885_0 := (HB.out.cell (World.block_lt_of_cell? w _ hx885_0)).trans hx885_0
                                              replace p885 := eq_true p885
                                              replace q885 := eq_true q885
                                              have p886 : 0 ≤ (x5_2 : Int) := of_decide_eq_true (by first | (with_reducible assumption) | assumption)
                                              have q886 : x5_2 < (l1.length : Int) := of_decide_eq_true (by first | (with_reducible assumption) | assumption)
                                              obtain ⟨ad886, e886, hx886_0⟩ := Kd.at_bool HR1.out x5_2 p886 q886
                                              (try rw [← Nbq18.out] at hx886_0)
                                              (try rw [← Nbq36.out] at hx886_0)
                                              obtain rfl : ad885 = ad886 := (by injection e886)
                                              replace hx886_0 := (HB.out.cell (World.block_lt_of_cell? w _ hx886_0)).trans hx886_0
                                              replace p886 := eq_true p886
                                              replace q886 := eq_true q886
                                              have p888 : 0 ≤ (t887 : Int) := of_decide_eq_true (by first | (with_reducible assumption) | assumption)
                                              have q888 : t887 < (l1.length : Int) := of_decide_eq_true (by first | (with_reducible assumption) | assumption)
                                              obtain ⟨ad888, e888, hx888_0⟩ := Kd.at_bool HR1.out t887 p888 q888
                                              (try rw [← Nbq18.out] at hx888_0)
                                              (try rw [← Nbq36.out] at hx888_0)
                                              obtain rfl : ad885 = ad888 := (by injection e888)
                                              replace hx888_0 := (HB.out.cell (World.block_lt_of_cell? w _ hx888_0)).trans hx888_0
                                              replace p888 := eq_true p888
                                              replace q888 := eq_true q888
                                              have p889 : 0 ≤ (x5_2 : Int) := of_decide_eq_true (by first | (with_reducible assumption) | assumption)
                                              have q889 : x5_2 < (l1.length : Int) := of_decide_eq_true (by first | (with_reducible assumption) | assumption)
                                              obtain ⟨ad889, e889, hx889_0⟩ := Kd.at_bool HR1.out x5_2 p889 q889
                                              (try rw [← Nbq18.out] at hx889_0)
                                              (try rw [← Nbq36.out] at hx889_0)
                                              obtain rfl : ad885 = ad889 := (by injection e889)
                                              replace hx889_0 := (HB.out.cell (World.block_lt_of_cell? w _ hx889_0)).trans hx889_0
                                              replace p889 := eq_true p889
                                              replace q889 := eq_true q889
                                              have p890 : 0 ≤ (x6_3 : Int) := of_decide_eq_true (by first | (with_reducible assumption) | assumption)
                                              have q890 : x6_3 < (l1.length : Int) := of_decide_eq_true (by first | (with_reducible assumption) | assumption)
                                              obtain ⟨ad890, e890, hx890_0⟩ := Kd.at_bool HR1.out x6_3 p890 q890
                                              (try rw [← Nbq18.out] at hx890_0)
                                              (try rw [← Nbq36.out] at hx890_0)
                                              obtain rfl : ad885 = ad890 := (by injection e890)
                                              replace hx890_0 := (HB.out.cell (World.block_lt_of_cell? w _ hx890_0)).trans hx890_0
                                              replace p890 := eq_true p890
                                              replace q890 := eq_true q890
                                              have p891 : 0 ≤ (x5_2 : Int) := of_decide_eq_true (by first | (with_reducible assumption) | assumption)
                                              have q891 : x5_2 < (l1.length : Int) := of_decide_eq_true (by first | (with_reducible assumption) | assumption)
                                              obtain ⟨ad891, e891, hx891_0⟩ := Kd.at_bool HR1.out x5_2 p891 q891
                                              (try rw [← Nbq18.out] at hx891_0)
                                              (try rw [← Nbq36.out] at hx891_0)
                                              obtain rfl : ad885 = ad891 := (by injection e891)
                                              replace hx891_0 := (HB.out.cell (World.block_lt_of_cell? w _ hx891_0)).trans hx891_0
                                              replace p891 := eq_true p891
                                              replace q891 := eq_true q891
                                              have p893 : 0 ≤ (x6_3 : Int) := of_decide_eq_true (by first | (with_reducible assumption) | assumption)
                                              have q893 : x6_3 < (l1.length : Int) := of_decide_eq_true (by first | (with_reducible assumption) | assumption)
                                              obtain ⟨ad893, e893, hx893_0⟩ := Kd.at_bool HR1.out x6_3 p893 q893
                                              (try rw [← Nbq18.out] at hx893_0)
                                              (try rw [← Nbq36.out] at hx893_0)
                                              obtain rfl : ad885 = ad893 := (by injection e893)
                                              replace hx893_0 := (HB.out.cell (World.block_lt_of_cell? w _ hx893_0)).trans hx893_0
                                              replace p893 := eq_true p893
                                              replace q893 := eq_true q893
                                              refine qb_region (by kernel_rfl) (by kernel_rfl) ?_
                                              have HQ := fun (wq : World) (hq : Below wr.heap.size wr wq) => below_step HB.out hq
                                              repeat ((first | (apply qb_skip; (focus rfl)) | (refine qb_callN 32 rfl ?_; apply qb_call 32 rfl Try.func53 (by kernel_rfl) rfl rfl; (focus rfl); (focus (exact fun wq9 hb9 => qb_b hb9 (impl_System_plus.calls a0_0 _ _ l0_1 _ _ l0_2 _ _ l0_3 x5_2 x6_3 t884 _ (Kd.C_below HR0_1.out (HQ _ hb9)) HC0_1.out (Kd.C_below HR0_2.out (HQ _ hb9)) HC0_2.out (Kd.C_below HR0_3.out (HQ _ hb9)) HC0_3.out A13.out))); (focus (rfl))) | (refine qb_callN 51 rfl ?_; apply qb_call 51 rfl Try.func54 (by kernel_rfl) rfl rfl; (focus rfl); (focus (exact fun wq9 hb9 => qb_b hb9 (impl_System_times.calls a0_0 _ _ l0_1 _ _ l0_2 _ _ l0_3 x5_2 x6_3 t887 _ (Kd.C_below HR0_1.out (HQ _ hb9)) HC0_1.out (Kd.C_below HR0_2.out (HQ _ hb9)) HC0_2.out (Kd.C_below HR0_3.out (HQ _ hb9)) HC0_3.out A24.out))); (focus (rfl))) | (refine qb_callN 75 rfl ?_; apply qb_call 75 rfl Try.func55 (by kernel_rfl) rfl rfl; (focus rfl); (focus (exact fun wq9 hb9 => qb_b hb9 (impl_System_below.calls a0_0 _ _ l0_1 _ _ l0_2 _ _ l0_3 x5_2 x6_3 true _ (Kd.C_below HR0_1.out (HQ _ hb9)) HC0_1.out (Kd.C_below HR0_2.out (HQ _ hb9)) HC0_2.out (Kd.C_below HR0_3.out (HQ _ hb9)) HC0_3.out A34.out))); (focus (rfl))) | (apply qb_val; (focus rfl); (focus (intro wq9 _; go_simp; with_reducible rfl))) | (apply qb_val; (focus rfl); (focus (intro wq9 hb9_; have hb9 : Below wr.heap.size wr wq9 := hb9_; have BK881 := Aside0.mk (blk_below BK881.out hb9); have hc9_881_0 : wq9.cell? ⟨gb881, 0, none⟩ = some (.int .i64 a0_0) := (blk_cell BK881.out 0).trans rfl; have hc9_881_1 : wq9.cell? ⟨gb881, 1, none⟩ = some (.slice A0_1 l0_1.length c0_1) := (blk_cell BK881.out 1).trans rfl; have hc9_881_2 : wq9.cell? ⟨gb881, 2, none⟩ = some (.slice A0_2 l0_2.length c0_2) := (blk_cell BK881.out 2).trans rfl; have hc9_881_3 : wq9.cell? ⟨gb881, 3, none⟩ = some (.slice A0_3 l0_3.length c0_3) := (blk_cell BK881.out 3).trans rfl; have hx885_0 := (hb9.cell (World.block_lt_of_cell? _ _ hx885_0)).trans hx885_0; have hx886_0 := (hb9.cell (World.block_lt_of_cell? _ _ hx886_0)).trans hx886_0; have hx888_0 := (hb9.cell (World.block_lt_of_cell? _ _ hx888_0)).trans hx888_0; have hx889_0 := (hb9.cell (World.block_lt_of_cell? _ _ hx889_0)).trans hx889_0; have hx890_0 := (hb9.cell (World.block_lt_of_cell? _ _ hx890_0)).trans hx890_0; have hx891_0 := (hb9.cell (World.block_lt_of_cell? _ _ hx891_0)).trans hx891_0; have hx893_0 := (hb9.cell (World.block_lt_of_cell? _ _ hx893_0)).trans hx893_0; go_simp; with_reducible rfl)))); (focus (simp only [Act.put, List.setIfInBounds_toArray, List.set_cons_zero, List.set_cons_succ, i64_w, i32_w]; rfl)))
                                              refine qb_nil ?_
                                              intro w42 hb
                                              have n0_ := Aside0.mk (blk_below BK881.out hb)
                                              have n1_ := Aside0.mk (below_step HB.out hb)
                                              clear BK881
                                              clear HB
                                              have BK881 := n0_
                                              have HB := n1_
                                              clear n0_ n1_
                                              clear hb
                                              (try clear HQ)
                                              try go_wp2
                                              go_roundg k3
                                              case measure => have := HJ2.out; have := HK2.out; have := HK3.out; omega
                                              case rel => exact ⟨(wrap64 (x6_3 + 1)), (by first | rfl | (simp; done) | (simp [*]; done)), H', ⟨by have := HJ2.out; have := HK2.out; have := HK3.out; omega⟩, ⟨by (with_reducible repeat (first | refine blk_drewN ?_ _ | refine blk_drew ?_ | refine blk_alloc ?_ _)); exact BK881.out⟩, ⟨by repeat (first | (with_reducible first | exact HB.out | apply below_alloc | apply pw_below_drewN | apply below_drew1 | refine below_set ?_ GE881.out) | exact HB.out)⟩⟩
                                            · replace c37 := Bool.eq_false_iff.mpr c37
                                              subst c37
                                              have H1 : (some false) = some r := by rw [if_neg (show ¬ (false = true) by decide)] at H; exact H
                                              clear H
                                              have H := H1
                                              clear H1
                                              obtain rfl := Option.some.inj H
                                              have hcz43_0 : wr.cell? ⟨gb881, 0, none⟩ = some (.int .i64 a0_0) := (blk_cell BK881.out 0).trans rfl
                                              have hcz43_1 : wr.cell? ⟨gb881, 1, none⟩ = some (.slice A0_1 l0_1.length c0_1) := (blk_cell BK881.out 1).trans rfl
                                              have hcz43_2 : wr.cell? ⟨gb881, 2, none⟩ = some (.slice A0_2 l0_2.length c0_2) := (blk_cell BK881.out 2).trans rfl
                                              have hcz43_3 : wr.cell? ⟨gb881, 3, none⟩ = some (.slice A0_3 l0_3.length c0_3) := (blk_cell BK881.out 3).trans rfl
                                              have hfz43_0 := blk_frozen BK881.out 0
                                              have hfz43_1 := blk_frozen BK881.out 1
                                              have hfz43_2 := blk_frozen BK881.out 2
                                              have hfz43_3 := blk_frozen BK881.out 3
                                              try go_wp2
                                              (try (have c20s := c20b0; (try simp only [← Nbq18.out, ← Nbq36.out] at c20s); (try simp at c20s)))
                                              (try (have c29s := c29b0; (try simp only [← Nbq18.out, ← Nbq36.out] at c29s); (try simp at c29s)))
                                              have p885 : 0 ≤ (t884 : Int) := of_decide_eq_true (by first | (with_reducible assumption) | assumption)
                                              have q885 : t884 < (l1.length : Int) := of_decide_eq_true (by first | (with_reducible assumption) | assumption)
                                              obtain ⟨ad885, e885, hx885_0⟩ := Kd.at_bool HR1.out t884 p885 q885
                                              (try rw [← Nbq18.out] at hx885_0)
                                              (try rw [← Nbq36.out] at hx885_0)
                                              cases e885
                                              replace hx885_0 := (HB.out.cell (World.block_lt_of_cell? w _ hx885_0)).trans hx885_0
                                              replace p885 := eq_true p885
                                              replace q885 := eq_true q885
                                              have p886 : 0 ≤ (x5_2 : Int) := of_decide_eq_true (by first | (with_reducible assumption) | assumption)
                                              have q886 : x5_2 < (l1.length : Int) := of_decide_eq_true (by first | (with_reducible assumption) | assumption)
                                              obtain ⟨ad886, e886, hx886_0⟩ := Kd.at_bool HR1.out x5_2 p886 q886
                                              (try rw [← Nbq18.out] at hx886_0)
                                              (try rw [← Nbq36.out] at hx886_0)
                                              obtain rfl : ad885 = ad886 := (by injection e886)
                                              replace hx886_0 := (HB.out.cell (World.block_lt_of_cell? w _ hx886_0)).trans hx886_0
                                              replace p886 := eq_true p886
                                              replace q886 := eq_true q886
                                              have p888 : 0 ≤ (t887 : Int) := of_decide_eq_true (by first | (with_reducible assumption) | assumption)
                                              have q888 : t887 < (l1.length : Int) := of_decide_eq_true (by first | (with_reducible assumption) | assumption)
                                              obtain ⟨ad888, e888, hx888_0⟩ := Kd.at_bool HR1.out t887 p888 q888
                                              (try rw [← Nbq18.out] at hx888_0)
                                              (try rw [← Nbq36.out] at hx888_0)
                                              obtain rfl : ad885 = ad888 := (by injection e888)
                                              replace hx888_0 := (HB.out.cell (World.block_lt_of_cell? w _ hx888_0)).trans hx888_0
                                              replace p888 := eq_true p888
                                              replace q888 := eq_true q888
                                              have p889 : 0 ≤ (x5_2 : Int) := of_decide_eq_true (by first | (with_reducible assumption) | assumption)
                                              have q889 : x5_2 < (l1.length : Int) := of_decide_eq_true (by first | (with_reducible assumption) | assumption)
                                              obtain ⟨ad889, e889, hx889_0⟩ := Kd.at_bool HR1.out x5_2 p889 q889
                                              (try rw [← Nbq18.out] at hx889_0)
                                              (try rw [← Nbq36.out] at hx889_0)
                                              obtain rfl : ad885 = ad889 := (by injection e889)
                                              replace hx889_0 := (HB.out.cell (World.block_lt_of_cell? w _ hx889_0)).trans hx889_0
                                              replace p889 := eq_true p889
                                              replace q889 := eq_true q889
                                              have p890 : 0 ≤ (x6_3 : Int) := of_decide_eq_true (by first | (with_reducible assumption) | assumption)
                                              have q890 : x6_3 < (l1.length : Int) := of_decide_eq_true (by first | (with_reducible assumption) | assumption)
                                              obtain ⟨ad890, e890, hx890_0⟩ := Kd.at_bool HR1.out x6_3 p890 q890
                                              (try rw [← Nbq18.out] at hx890_0)
                                              (try rw [← Nbq36.out] at hx890_0)
                                              obtain rfl : ad885 = ad890 := (by injection e890)
                                              replace hx890_0 := (HB.out.cell (World.block_lt_of_cell? w _ hx890_0)).trans hx890_0
                                              replace p890 := eq_true p890
                                              replace q890 := eq_true q890
                                              have p891 : 0 ≤ (x5_2 : Int) := of_decide_eq_true (by first | (with_reducible assumption) | assumption)
                                              have q891 : x5_2 < (l1.length : Int) := of_decide_eq_true (by first | (with_reducible assumption) | assumption)
                                              obtain ⟨ad891, e891, hx891_0⟩ := Kd.at_bool HR1.out x5_2 p891 q891
                                              (try rw [← Nbq18.out] at hx891_0)
                                              (try rw [← Nbq36.out] at hx891_0)
                                              obtain rfl : ad885 = ad891 := (by injection e891)
                                              replace hx891_0 := (HB.out.cell (World.block_lt_of_cell? w _ hx891_0)).trans hx891_0
                                              replace p891 := eq_true p891
                                              replace q891 := eq_true q891
                                              have p893 : 0 ≤ (x6_3 : Int) := of_decide_eq_true (by first | (with_reducible assumption) | assumption)
                                              have q893 : x6_3 < (l1.length : Int) := of_decide_eq_true (by first | (with_reducible assumption) | assumption)
                                              obtain ⟨ad893, e893, hx893_0⟩ := Kd.at_bool HR1.out x6_3 p893 q893
                                              (try rw [← Nbq18.out] at hx893_0)
                                              (try rw [← Nbq36.out] at hx893_0)
                                              obtain rfl : ad885 = ad893 := (by injection e893)
                                              replace hx893_0 := (HB.out.cell (World.block_lt_of_cell? w _ hx893_0)).trans hx893_0
                                              replace p893 := eq_true p893
                                              replace q893 := eq_true q893
                                              refine qb_region (by kernel_rfl) (by kernel_rfl) ?_
                                              have HQ := fun (wq : World) (hq : Below wr.heap.size wr wq) => below_step HB.out hq
                                              repeat ((first | (apply qb_skip; (focus rfl)) | (refine qb_callN 32 rfl ?_; apply qb_call 32 rfl Try.func53 (by kernel_rfl) rfl rfl; (focus rfl); (focus (exact fun wq9 hb9 => qb_b hb9 (impl_System_plus.calls a0_0 _ _ l0_1 _ _ l0_2 _ _ l0_3 x5_2 x6_3 t884 _ (Kd.C_below HR0_1.out (HQ _ hb9)) HC0_1.out (Kd.C_below HR0_2.out (HQ _ hb9)) HC0_2.out (Kd.C_below HR0_3.out (HQ _ hb9)) HC0_3.out A13.out))); (focus (rfl))) | (refine qb_callN 51 rfl ?_; apply qb_call 51 rfl Try.func54 (by kernel_rfl) rfl rfl; (focus rfl); (focus (exact fun wq9 hb9 => qb_b hb9 (impl_System_times.calls a0_0 _ _ l0_1 _ _ l0_2 _ _ l0_3 x5_2 x6_3 t887 _ (Kd.C_below HR0_1.out (HQ _ hb9)) HC0_1.out (Kd.C_below HR0_2.out (HQ _ hb9)) HC0_2.out (Kd.C_below HR0_3.out (HQ _ hb9)) HC0_3.out A24.out))); (focus (rfl))) | (refine qb_callN 75 rfl ?_; apply qb_call 75 rfl Try.func55 (by kernel_rfl) rfl rfl; (focus rfl); (focus (exact fun wq9 hb9 => qb_b hb9 (impl_System_below.calls a0_0 _ _ l0_1 _ _ l0_2 _ _ l0_3 x5_2 x6_3 true _ (Kd.C_below HR0_1.out (HQ _ hb9)) HC0_1.out (Kd.C_below HR0_2.out (HQ _ hb9)) HC0_2.out (Kd.C_below HR0_3.out (HQ _ hb9)) HC0_3.out A34.out))); (focus (rfl))) | (apply qb_val; (focus rfl); (focus (intro wq9 _; go_simp; with_reducible rfl))) | (apply qb_val; (focus rfl); (focus (intro wq9 hb9_; have hb9 : Below wr.heap.size wr wq9 := hb9_; have BK881 := Aside0.mk (blk_below BK881.out hb9); have hc9_881_0 : wq9.cell? ⟨gb881, 0, none⟩ = some (.int .i64 a0_0) := (blk_cell BK881.out 0).trans rfl; have hc9_881_1 : wq9.cell? ⟨gb881, 1, none⟩ = some (.slice A0_1 l0_1.length c0_1) := (blk_cell BK881.out 1).trans rfl; have hc9_881_2 : wq9.cell? ⟨gb881, 2, none⟩ = some (.slice A0_2 l0_2.length c0_2) := (blk_cell BK881.out 2).trans rfl; have hc9_881_3 : wq9.cell? ⟨gb881, 3, none⟩ = some (.slice A0_3 l0_3.length c0_3) := (blk_cell BK881.out 3).trans rfl; have hx885_0 := (hb9.cell (World.block_lt_of_cell? _ _ hx885_0)).trans hx885_0; have hx886_0 := (hb9.cell (World.block_lt_of_cell? _ _ hx886_0)).trans hx886_0; have hx888_0 := (hb9.cell (World.block_lt_of_cell? _ _ hx888_0)).trans hx888_0; have hx889_0 := (hb9.cell (World.block_lt_of_cell? _ _ hx889_0)).trans hx889_0; have hx890_0 := (hb9.cell (World.block_lt_of_cell? _ _ hx890_0)).trans hx890_0; have hx891_0 := (hb9.cell (World.block_lt_of_cell? _ _ hx891_0)).trans hx891_0; have hx893_0 := (hb9.cell (World.block_lt_of_cell? _ _ hx893_0)).trans hx893_0; go_simp; with_reducible rfl)))); (focus (simp only [Act.put, List.setIfInBounds_toArray, List.set_cons_zero, List.set_cons_succ, i64_w, i32_w]; rfl)))
                                              refine qb_nil ?_
                                              intro w47 hb
                                              have n0_ := Aside0.mk (blk_below BK881.out hb)
                                              have n1_ := Aside0.mk (below_step HB.out hb)
                                              clear BK881
                                              clear HB
                                              have BK881 := n0_
                                              have HB := n1_
                                              clear n0_ n1_
                                              clear hb
                                              (try clear HQ)
                                              try go_wp2
                                              go_ret
                                              exact ⟨by first | rfl | (simp [errW_none, errW_some] <;> rfl) | (simp [*, errW_none, errW_some] <;> rfl), by repeat (first | (with_reducible first | exact HB.out | apply below_alloc | apply pw_below_drewN | apply below_drew1 | refine below_set ?_ GE881.out) | exact HB.out)⟩
                                          · replace c35 := Bool.eq_false_iff.mpr c35
                                            subst c35
                                            have H1 : (impl_isView.l1 k3 l1 x5_2 (wrap64 (x6_3 + 1)) a0_0 l0_1 l0_2 l0_3) = some r := by rw [if_neg (show ¬ (false = true) by decide)] at H; exact H
                                            clear H
                                            have H := H1
                                            clear H1
                                            have H' := Aside0.mk H
                                            clear H
                                            have hcz48_0 : wr.cell? ⟨gb881, 0, none⟩ = some (.int .i64 a0_0) := (blk_cell BK881.out 0).trans rfl
                                            have hcz48_1 : wr.cell? ⟨gb881, 1, none⟩ = some (.slice A0_1 l0_1.length c0_1) := (blk_cell BK881.out 1).trans rfl
                                            have hcz48_2 : wr.cell? ⟨gb881, 2, none⟩ = some (.slice A0_2 l0_2.length c0_2) := (blk_cell BK881.out 2).trans rfl
                                            have hcz48_3 : wr.cell? ⟨gb881, 3, none⟩ = some (.slice A0_3 l0_3.length c0_3) := (blk_cell BK881.out 3).trans rfl
                                            have hfz48_0 := blk_frozen BK881.out 0
                                            have hfz48_1 := blk_frozen BK881.out 1
                                            have hfz48_2 := blk_frozen BK881.out 2
                                            have hfz48_3 := blk_frozen BK881.out 3
                                            try go_wp2
                                            (try (have c20s := c20b0; (try simp only [← Nbq18.out] at c20s); (try simp at c20s)))
                                            (try (have c29s := c29b0; (try simp only [← Nbq18.out] at c29s); (try simp at c29s)))
                                            have p885 : 0 ≤ (t884 : Int) := of_decide_eq_true (by first | (with_reducible assumption) | assumption)
                                            have q885 : t884 < (l1.length : Int) := of_decide_eq_true (by first | (with_reducible assumption) | assumption)
                                            obtain ⟨ad885, e885, hx885_0⟩ := Kd.at_bool HR1.out t884 p885 q885
                                            (try rw [← Nbq18.out] at hx885_0)
                                            cases e885
                                            replace hx885_0 := (HB.out.cell (World.block_lt_of_cell? w _ hx885_0)).trans hx885_0
                                            replace p885 := eq_true p885
                                            replace q885 := eq_true q885
                                            have p886 : 0 ≤ (x5_2 : Int) := of_decide_eq_true (by first | (with_reducible assumption) | assumption)
                                            have q886 : x5_2 < (l1.length : Int) := of_decide_eq_true (by first | (with_reducible assumption) | assumption)
                                            obtain ⟨ad886, e886, hx886_0⟩ := Kd.at_bool HR1.out x5_2 p886 q886
                                            (try rw [← Nbq18.out] at hx886_0)
                                            obtain rfl : ad885 = ad886 := (by injection e886)
                                            replace hx886_0 := (HB.out.cell (World.block_lt_of_cell? w _ hx886_0)).trans hx886_0
                                            replace p886 := eq_true p886
                                            replace q886 := eq_true q886
                                            have p888 : 0 ≤ (t887 : Int) := of_decide_eq_true (by first | (with_reducible assumption) | assumption)
                                            have q888 : t887 < (l1.length : Int) := of_decide_eq_true (by first | (with_reducible assumption) | assumption)
                                            obtain ⟨ad888, e888, hx888_0⟩ := Kd.at_bool HR1.out t887 p888 q888
                                            (try rw [← Nbq18.out] at hx888_0)
                                            obtain rfl : ad885 = ad888 := (by injection e888)
                                            replace hx888_0 := (HB.out.cell (World.block_lt_of_cell? w _ hx888_0)).trans hx888_0
                                            replace p888 := eq_true p888
                                            replace q888 := eq_true q888
                                            have p889 : 0 ≤ (x5_2 : Int) := of_decide_eq_true (by first | (with_reducible assumption) | assumption)
                                            have q889 : x5_2 < (l1.length : Int) := of_decide_eq_true (by first | (with_reducible assumption) | assumption)
                                            obtain ⟨ad889, e889, hx889_0⟩ := Kd.at_bool HR1.out x5_2 p889 q889
                                            (try rw [← Nbq18.out] at hx889_0)
                                            obtain rfl : ad885 = ad889 := (by injection e889)
                                            replace hx889_0 := (HB.out.cell (World.block_lt_of_cell? w _ hx889_0)).trans hx889_0
                                            replace p889 := eq_true p889
                                            replace q889 := eq_true q889
                                            have p890 : 0 ≤ (x6_3 : Int) := of_decide_eq_true (by first | (with_reducible assumption) | assumption)
                                            have q890 : x6_3 < (l1.length : Int) := of_decide_eq_true (by first | (with_reducible assumption) | assumption)
                                            obtain ⟨ad890, e890, hx890_0⟩ := Kd.at_bool HR1.out x6_3 p890 q890
                                            (try rw [← Nbq18.out] at hx890_0)
                                            obtain rfl : ad885 = ad890 := (by injection e890)
                                            replace hx890_0 := (HB.out.cell (World.block_lt_of_cell? w _ hx890_0)).trans hx890_0
                                            replace p890 := eq_true p890
                                            replace q890 := eq_true q890
                                            have p891 : 0 ≤ (x5_2 : Int) := of_decide_eq_true (by first | (with_reducible assumption) | assumption)
                                            have q891 : x5_2 < (l1.length : Int) := of_decide_eq_true (by first | (with_reducible assumption) | assumption)
                                            obtain ⟨ad891, e891, hx891_0⟩ := Kd.at_bool HR1.out x5_2 p891 q891
                                            (try rw [← Nbq18.out] at hx891_0)
                                            obtain rfl : ad885 = ad891 := (by injection e891)
                                            replace hx891_0 := (HB.out.cell (World.block_lt_of_cell? w _ hx891_0)).trans hx891_0
                                            replace p891 := eq_true p891
                                            replace q891 := eq_true q891
                                            refine qb_region (by kernel_rfl) (by kernel_rfl) ?_
                                            have HQ := fun (wq : World) (hq : Below wr.heap.size wr wq) => below_step HB.out hq
                                            repeat ((first | (apply qb_skip; (focus rfl)) | (refine qb_callN 32 rfl ?_; apply qb_call 32 rfl Try.func53 (by kernel_rfl) rfl rfl; (focus rfl); (focus (exact fun wq9 hb9 => qb_b hb9 (impl_System_plus.calls a0_0 _ _ l0_1 _ _ l0_2 _ _ l0_3 x5_2 x6_3 t884 _ (Kd.C_below HR0_1.out (HQ _ hb9)) HC0_1.out (Kd.C_below HR0_2.out (HQ _ hb9)) HC0_2.out (Kd.C_below HR0_3.out (HQ _ hb9)) HC0_3.out A13.out))); (focus (rfl))) | (refine qb_callN 51 rfl ?_; apply qb_call 51 rfl Try.func54 (by kernel_rfl) rfl rfl; (focus rfl); (focus (exact fun wq9 hb9 => qb_b hb9 (impl_System_times.calls a0_0 _ _ l0_1 _ _ l0_2 _ _ l0_3 x5_2 x6_3 t887 _ (Kd.C_below HR0_1.out (HQ _ hb9)) HC0_1.out (Kd.C_below HR0_2.out (HQ _ hb9)) HC0_2.out (Kd.C_below HR0_3.out (HQ _ hb9)) HC0_3.out A24.out))); (focus (rfl))) | (refine qb_callN 75 rfl ?_; apply qb_call 75 rfl Try.func55 (by kernel_rfl) rfl rfl; (focus rfl); (focus (exact fun wq9 hb9 => qb_b hb9 (impl_System_below.calls a0_0 _ _ l0_1 _ _ l0_2 _ _ l0_3 x5_2 x6_3 false _ (Kd.C_below HR0_1.out (HQ _ hb9)) HC0_1.out (Kd.C_below HR0_2.out (HQ _ hb9)) HC0_2.out (Kd.C_below HR0_3.out (HQ _ hb9)) HC0_3.out A34.out))); (focus (rfl))) | (apply qb_val; (focus rfl); (focus (intro wq9 _; go_simp; with_reducible rfl))) | (apply qb_val; (focus rfl); (focus (intro wq9 hb9_; have hb9 : Below wr.heap.size wr wq9 := hb9_; have BK881 := Aside0.mk (blk_below BK881.out hb9); have hc9_881_0 : wq9.cell? ⟨gb881, 0, none⟩ = some (.int .i64 a0_0) := (blk_cell BK881.out 0).trans rfl; have hc9_881_1 : wq9.cell? ⟨gb881, 1, none⟩ = some (.slice A0_1 l0_1.length c0_1) := (blk_cell BK881.out 1).trans rfl; have hc9_881_2 : wq9.cell? ⟨gb881, 2, none⟩ = some (.slice A0_2 l0_2.length c0_2) := (blk_cell BK881.out 2).trans rfl; have hc9_881_3 : wq9.cell? ⟨gb881, 3, none⟩ = some (.slice A0_3 l0_3.length c0_3) := (blk_cell BK881.out 3).trans rfl; have hx885_0 := (hb9.cell (World.block_lt_of_cell? _ _ hx885_0)).trans hx885_0; have hx886_0 := (hb9.cell (World.block_lt_of_cell? _ _ hx886_0)).trans hx886_0; have hx888_0 := (hb9.cell (World.block_lt_of_cell? _ _ hx888_0)).trans hx888_0; have hx889_0 := (hb9.cell (World.block_lt_of_cell? _ _ hx889_0)).trans hx889_0; have hx890_0 := (hb9.cell (World.block_lt_of_cell? _ _ hx890_0)).trans hx890_0; have hx891_0 := (hb9.cell (World.block_lt_of_cell? _ _ hx891_0)).trans hx891_0; go_simp; with_reducible rfl)))); (focus (simp only [Act.put, List.setIfInBounds_toArray, List.set_cons_zero, List.set_cons_succ, i64_w, i32_w]; rfl)))
                                            refine qb_nil ?_
                                            intro w52 hb
                                            have n0_ := Aside0.mk (blk_below BK881.out hb)
                                            have n1_ := Aside0.mk (below_step HB.out hb)
                                            clear BK881
                                            clear HB
                                            have BK881 := n0_
                                            have HB := n1_
                                            clear n0_ n1_
                                            clear hb
                                            (try clear HQ)
                                            try go_wp2
                                            go_roundg k3
                                            case measure => have := HJ2.out; have := HK2.out; have := HK3.out; omega
                                            case rel => exact ⟨(wrap64 (x6_3 + 1)), (by first | rfl | (simp; done) | (simp [*]; done)), H', ⟨by have := HJ2.out; have := HK2.out; have := HK3.out; omega⟩, ⟨by (with_reducible repeat (first | refine blk_drewN ?_ _ | refine blk_drew ?_ | refine blk_alloc ?_ _)); exact BK881.out⟩, ⟨by repeat (first | (with_reducible first | exact HB.out | apply below_alloc | apply pw_below_drewN | apply below_drew1 | refine below_set ?_ GE881.out) | exact HB.out)⟩⟩
                                      · rw [if_neg c28] at H
                                        exact absurd H (by simp)
                                    · rw [if_neg c27] at H
                                      exact absurd H (by simp)
                                  · rw [if_neg c26] at H
                                    exact absurd H (by simp)
                                · rw [if_neg c25] at H
                                  exact absurd H (by simp)
                            · replace c19 := Bool.eq_false_iff.mpr c19
                              subst c19
                              have H1 : (if 0 ≤ x6_3 then (if x6_3 < (l1.length : Int) then (if ((rdOf false l1 t884) != (rdOf false l1 x6_3)) = true then (some false) else ((impl_System_times.f a0_0 l0_1 l0_2 l0_3 x5_2 x6_3).bind fun t895 => (if 0 ≤ t895 then (if t895 < (l1.length : Int) then (if ((rdOf false l1 t895) != false) = true then (some false) else (impl_isView.l1 k3 l1 x5_2 (wrap64 (x6_3 + 1)) a0_0 l0_1 l0_2 l0_3)) else (none)) else (none)))) else (none)) else (none)) = some r := by rw [if_neg (show ¬ (false = true) by decide)] at H; exact H
                              clear H
                              have H := H1
                              clear H1
                              by_cases c53 : 0 ≤ x6_3
                              · rw [if_pos c53] at H
                                have c53b0 : decide (0 ≤ x6_3) = true := decide_eq_true c53
                                clear c53
                                by_cases c54 : x6_3 < (l1.length : Int)
                                · rw [if_pos c54] at H
                                  have c54b0 : decide (x6_3 < (l1.length : Int)) = true := decide_eq_true c54
                                  clear c54
                                  by_cases c55 : ((rdOf false l1 t884) != (rdOf false l1 x6_3)) = true
                                  · rw [if_pos c55] at H
                                    have c55b0 : ((rdOf false l1 t884) != (rdOf false l1 x6_3)) = true := c55
                                    (try (have c55b1 : decide ((rdOf false l1 t884) = (rdOf false l1 x6_3)) = false := by simpa using c55))
                                    (try (have c55b2 : ((rdOf false l1 t884) == (rdOf false l1 x6_3)) = false := by simpa using c55))
                                    (try (have c55b3 : ¬ ((rdOf false l1 t884) = (rdOf false l1 x6_3)) := by simpa using c55))
                                    clear c55
                                    obtain rfl := Option.some.inj H
                                    have hcz56_0 : wr.cell? ⟨gb881, 0, none⟩ = some (.int .i64 a0_0) := (blk_cell BK881.out 0).trans rfl
                                    have hcz56_1 : wr.cell? ⟨gb881, 1, none⟩ = some (.slice A0_1 l0_1.length c0_1) := (blk_cell BK881.out 1).trans rfl
                                    have hcz56_2 : wr.cell? ⟨gb881, 2, none⟩ = some (.slice A0_2 l0_2.length c0_2) := (blk_cell BK881.out 2).trans rfl
                                    have hcz56_3 : wr.cell? ⟨gb881, 3, none⟩ = some (.slice A0_3 l0_3.length c0_3) := (blk_cell BK881.out 3).trans rfl
                                    have hfz56_0 := blk_frozen BK881.out 0
                                    have hfz56_1 := blk_frozen BK881.out 1
                                    have hfz56_2 := blk_frozen BK881.out 2
                                    have hfz56_3 := blk_frozen BK881.out 3
                                    try go_wp2
                                    (try (have c55s := c55b0; (try simp only [← Nbq18.out] at c55s); (try simp at c55s)))
                                    have p885 : 0 ≤ (t884 : Int) := of_decide_eq_true (by first | (with_reducible assumption) | assumption)
                                    have q885 : t884 < (l1.length : Int) := of_decide_eq_true (by first | (with_reducible assumption) | assumption)
                                    obtain ⟨ad885, e885, hx885_0⟩ := Kd.at_bool HR1.out t884 p885 q885
                                    (try rw [← Nbq18.out] at hx885_0)
                                    cases e885
                                    replace hx885_0 := (HB.out.cell (World.block_lt_of_cell? w _ hx885_0)).trans hx885_0
                                    replace p885 := eq_true p885
                                    replace q885 := eq_true q885
                                    have p886 : 0 ≤ (x5_2 : Int) := of_decide_eq_true (by first | (with_reducible assumption) | assumption)
                                    have q886 : x5_2 < (l1.length : Int) := of_decide_eq_true (by first | (with_reducible assumption) | assumption)
                                    obtain ⟨ad886, e886, hx886_0⟩ := Kd.at_bool HR1.out x5_2 p886 q886
                                    (try rw [← Nbq18.out] at hx886_0)
                                    obtain rfl : ad885 = ad886 := (by injection e886)
                                    replace hx886_0 := (HB.out.cell (World.block_lt_of_cell? w _ hx886_0)).trans hx886_0
                                    replace p886 := eq_true p886
                                    replace q886 := eq_true q886
                                    have p894 : 0 ≤ (x6_3 : Int) := of_decide_eq_true (by first | (with_reducible assumption) | assumption)
                                    have q894 : x6_3 < (l1.length : Int) := of_decide_eq_true (by first | (with_reducible assumption) | assumption)
                                    obtain ⟨ad894, e894, hx894_0⟩ := Kd.at_bool HR1.out x6_3 p894 q894
                                    (try rw [← Nbq18.out] at hx894_0)
                                    obtain rfl : ad885 = ad894 := (by injection e894)
                                    replace hx894_0 := (HB.out.cell (World.block_lt_of_cell? w _ hx894_0)).trans hx894_0
                                    replace p894 := eq_true p894
                                    replace q894 := eq_true q894
                                    refine qb_region (by kernel_rfl) (by kernel_rfl) ?_
                                    have HQ := fun (wq : World) (hq : Below wr.heap.size wr wq) => below_step HB.out hq
                                    repeat ((first | (apply qb_skip; (focus rfl)) | (refine qb_callN 32 rfl ?_; apply qb_call 32 rfl Try.func53 (by kernel_rfl) rfl rfl; (focus rfl); (focus (exact fun wq9 hb9 => qb_b hb9 (impl_System_plus.calls a0_0 _ _ l0_1 _ _ l0_2 _ _ l0_3 x5_2 x6_3 t884 _ (Kd.C_below HR0_1.out (HQ _ hb9)) HC0_1.out (Kd.C_below HR0_2.out (HQ _ hb9)) HC0_2.out (Kd.C_below HR0_3.out (HQ _ hb9)) HC0_3.out A13.out))); (focus (rfl))) | (apply qb_val; (focus rfl); (focus (intro wq9 _; go_simp; with_reducible rfl))) | (apply qb_val; (focus rfl); (focus (intro wq9 hb9_; have hb9 : Below wr.heap.size wr wq9 := hb9_; have BK881 := Aside0.mk (blk_below BK881.out hb9); have hc9_881_0 : wq9.cell? ⟨gb881, 0, none⟩ = some (.int .i64 a0_0) := (blk_cell BK881.out 0).trans rfl; have hc9_881_1 : wq9.cell? ⟨gb881, 1, none⟩ = some (.slice A0_1 l0_1.length c0_1) := (blk_cell BK881.out 1).trans rfl; have hc9_881_2 : wq9.cell? ⟨gb881, 2, none⟩ = some (.slice A0_2 l0_2.length c0_2) := (blk_cell BK881.out 2).trans rfl; have hc9_881_3 : wq9.cell? ⟨gb881, 3, none⟩ = some (.slice A0_3 l0_3.length c0_3) := (blk_cell BK881.out 3).trans rfl; have hx885_0 := (hb9.cell (World.block_lt_of_cell? _ _ hx885_0)).trans hx885_0; have hx886_0 := (hb9.cell (World.block_lt_of_cell? _ _ hx886_0)).trans hx886_0; have hx894_0 := (hb9.cell (World.block_lt_of_cell? _ _ hx894_0)).trans hx894_0; go_simp; with_reducible rfl)))); (focus (simp only [Act.put, List.setIfInBounds_toArray, List.set_cons_zero, List.set_cons_succ, i64_w, i32_w]; rfl)))
                                    refine qb_nil ?_
                                    intro w58 hb
                                    have n0_ := Aside0.mk (blk_below BK881.out hb)
                                    have n1_ := Aside0.mk (below_step HB.out hb)
                                    clear BK881
                                    clear HB
                                    have BK881 := n0_
                                    have HB := n1_
                                    clear n0_ n1_
                                    clear hb
                                    (try clear HQ)
                                    try go_wp2
                                    go_ret
                                    exact ⟨by first | rfl | (simp [errW_none, errW_some] <;> rfl) | (simp [*, errW_none, errW_some] <;> rfl), by repeat (first | (with_reducible first | exact HB.out | apply below_alloc | apply pw_below_drewN | apply below_drew1 | refine below_set ?_ GE881.out) | exact HB.out)⟩
                                  · rw [if_neg c55] at H
                                    have c55b0 : ((rdOf false l1 t884) != (rdOf false l1 x6_3)) = false := by simpa using c55
                                    (try (have c55b1 : decide ((rdOf false l1 t884) = (rdOf false l1 x6_3)) = true := by simpa using c55))
                                    (try (have c55b2 : ((rdOf false l1 t884) == (rdOf false l1 x6_3)) = true := by simpa using c55))
                                    clear c55
                                    replace H := Option.bind_eq_some_iff.mp H
                                    obtain ⟨t895, A590, H⟩ := H
                                    replace H : (if 0 ≤ t895 then (if t895 < (l1.length : Int) then (if ((rdOf false l1 t895) != false) = true then (some false) else (impl_isView.l1 k3 l1 x5_2 (wrap64 (x6_3 + 1)) a0_0 l0_1 l0_2 l0_3)) else (none)) else (none)) = some r := H
                                    have A59 := Aside0.mk A590
                                    clear A590
                                    by_cases c60 : 0 ≤ t895
                                    · rw [if_pos c60] at H
                                      have c60b0 : decide (0 ≤ t895) = true := decide_eq_true c60
                                      clear c60
                                      by_cases c61 : t895 < (l1.length : Int)
                                      · rw [if_pos c61] at H
                                        have c61b0 : decide (t895 < (l1.length : Int)) = true := decide_eq_true c61
                                        clear c61
                                        by_cases c62 : ((rdOf false l1 t895) != false) = true
                                        · rw [if_pos c62] at H
                                          have c62b0 : ((rdOf false l1 t895) != false) = true := c62
                                          (try (have c62b1 : decide ((rdOf false l1 t895) = false) = false := by simpa using c62))
                                          (try (have c62b2 : ((rdOf false l1 t895) == false) = false := by simpa using c62))
                                          (try (have c62b3 : ¬ ((rdOf false l1 t895) = false) := by simpa using c62))
                                          clear c62
                                          obtain rfl := Option.some.inj H
                                          have hcz63_0 : wr.cell? ⟨gb881, 0, none⟩ = some (.int .i64 a0_0) := (blk_cell BK881.out 0).trans rfl
                                          have hcz63_1 : wr.cell? ⟨gb881, 1, none⟩ = some (.slice A0_1 l0_1.length c0_1) := (blk_cell BK881.out 1).trans rfl
                                          have hcz63_2 : wr.cell? ⟨gb881, 2, none⟩ = some (.slice A0_2 l0_2.length c0_2) := (blk_cell BK881.out 2).trans rfl
                                          have hcz63_3 : wr.cell? ⟨gb881, 3, none⟩ = some (.slice A0_3 l0_3.length c0_3) := (blk_cell BK881.out 3).trans rfl
                                          have hfz63_0 := blk_frozen BK881.out 0
                                          have hfz63_1 := blk_frozen BK881.out 1
                                          have hfz63_2 := blk_frozen BK881.out 2
                                          have hfz63_3 := blk_frozen BK881.out 3
                                          try go_wp2
                                          (try (have c55s := c55b0; (try simp only [← Nbq18.out] at c55s); (try simp at c55s)))
                                          (try (have c62s := c62b0; (try simp only [← Nbq18.out] at c62s); (try simp at c62s)))
                                          have p885 : 0 ≤ (t884 : Int) := of_decide_eq_true (by first | (with_reducible assumption) | assumption)
                                          have q885 : t884 < (l1.length : Int) := of_decide_eq_true (by first | (with_reducible assumption) | assumption)
                                          obtain ⟨ad885, e885, hx885_0⟩ := Kd.at_bool HR1.out t884 p885 q885
                                          (try rw [← Nbq18.out] at hx885_0)
                                          cases e885
                                          replace hx885_0 := (HB.out.cell (World.block_lt_of_cell? w _ hx885_0)).trans hx885_0
                                          replace p885 := eq_true p885
                                          replace q885 := eq_true q885
                                          have p886 : 0 ≤ (x5_2 : Int) := of_decide_eq_true (by first | (with_reducible assumption) | assumption)
                                          have q886 : x5_2 < (l1.length : Int) := of_decide_eq_true (by first | (with_reducible assumption) | assumption)
                                          obtain ⟨ad886, e886, hx886_0⟩ := Kd.at_bool HR1.out x5_2 p886 q886
                                          (try rw [← Nbq18.out] at hx886_0)
                                          obtain rfl : ad885 = ad886 := (by injection e886)
                                          replace hx886_0 := (HB.out.cell (World.block_lt_of_cell? w _ hx886_0)).trans hx886_0
                                          replace p886 := eq_true p886
                                          replace q886 := eq_true q886
                                          have p894 : 0 ≤ (x6_3 : Int) := of_decide_eq_true (by first | (with_reducible assumption) | assumption)
                                          have q894 : x6_3 < (l1.length : Int) := of_decide_eq_true (by first | (with_reducible assumption) | assumption)
                                          obtain ⟨ad894, e894, hx894_0⟩ := Kd.at_bool HR1.out x6_3 p894 q894
                                          (try rw [← Nbq18.out] at hx894_0)
                                          obtain rfl : ad885 = ad894 := (by injection e894)
                                          replace hx894_0 := (HB.out.cell (World.block_lt_of_cell? w _ hx894_0)).trans hx894_0
                                          replace p894 := eq_true p894
                                          replace q894 := eq_true q894
                                          have p896 : 0 ≤ (t895 : Int) := of_decide_eq_true (by first | (with_reducible assumption) | assumption)
                                          have q896 : t895 < (l1.length : Int) := of_decide_eq_true (by first | (with_reducible assumption) | assumption)
                                          obtain ⟨ad896, e896, hx896_0⟩ := Kd.at_bool HR1.out t895 p896 q896
                                          (try rw [← Nbq18.out] at hx896_0)
                                          obtain rfl : ad885 = ad896 := (by injection e896)
                                          replace hx896_0 := (HB.out.cell (World.block_lt_of_cell? w _ hx896_0)).trans hx896_0
                                          replace p896 := eq_true p896
                                          replace q896 := eq_true q896
                                          have p897 : 0 ≤ (x5_2 : Int) := of_decide_eq_true (by first | (with_reducible assumption) | assumption)
                                          have q897 : x5_2 < (l1.length : Int) := of_decide_eq_true (by first | (with_reducible assumption) | assumption)
                                          obtain ⟨ad897, e897, hx897_0⟩ := Kd.at_bool HR1.out x5_2 p897 q897
                                          (try rw [← Nbq18.out] at hx897_0)
                                          obtain rfl : ad885 = ad897 := (by injection e897)
                                          replace hx897_0 := (HB.out.cell (World.block_lt_of_cell? w _ hx897_0)).trans hx897_0
                                          replace p897 := eq_true p897
                                          replace q897 := eq_true q897
                                          refine qb_region (by kernel_rfl) (by kernel_rfl) ?_
                                          have HQ := fun (wq : World) (hq : Below wr.heap.size wr wq) => below_step HB.out hq
                                          repeat ((first | (apply qb_skip; (focus rfl)) | (refine qb_callN 32 rfl ?_; apply qb_call 32 rfl Try.func53 (by kernel_rfl) rfl rfl; (focus rfl); (focus (exact fun wq9 hb9 => qb_b hb9 (impl_System_plus.calls a0_0 _ _ l0_1 _ _ l0_2 _ _ l0_3 x5_2 x6_3 t884 _ (Kd.C_below HR0_1.out (HQ _ hb9)) HC0_1.out (Kd.C_below HR0_2.out (HQ _ hb9)) HC0_2.out (Kd.C_below HR0_3.out (HQ _ hb9)) HC0_3.out A13.out))); (focus (rfl))) | (refine qb_callN 51 rfl ?_; apply qb_call 51 rfl Try.func54 (by kernel_rfl) rfl rfl; (focus rfl); (focus (exact fun wq9 hb9 => qb_b hb9 (impl_System_times.calls a0_0 _ _ l0_1 _ _ l0_2 _ _ l0_3 x5_2 x6_3 t895 _ (Kd.C_below HR0_1.out (HQ _ hb9)) HC0_1.out (Kd.C_below HR0_2.out (HQ _ hb9)) HC0_2.out (Kd.C_below HR0_3.out (HQ _ hb9)) HC0_3.out A59.out))); (focus (rfl))) | (apply qb_val; (focus rfl); (focus (intro wq9 _; go_simp; with_reducible rfl))) | (apply qb_val; (focus rfl); (focus (intro wq9 hb9_; have hb9 : Below wr.heap.size wr wq9 := hb9_; have BK881 := Aside0.mk (blk_below BK881.out hb9); have hc9_881_0 : wq9.cell? ⟨gb881, 0, none⟩ = some (.int .i64 a0_0) := (blk_cell BK881.out 0).trans rfl; have hc9_881_1 : wq9.cell? ⟨gb881, 1, none⟩ = some (.slice A0_1 l0_1.length c0_1) := (blk_cell BK881.out 1).trans rfl; have hc9_881_2 : wq9.cell? ⟨gb881, 2, none⟩ = some (.slice A0_2 l0_2.length c0_2) := (blk_cell BK881.out 2).trans rfl; have hc9_881_3 : wq9.cell? ⟨gb881, 3, none⟩ = some (.slice A0_3 l0_3.length c0_3) := (blk_cell BK881.out 3).trans rfl; have hx885_0 := (hb9.cell (World.block_lt_of_cell? _ _ hx885_0)).trans hx885_0; have hx886_0 := (hb9.cell (World.block_lt_of_cell? _ _ hx886_0)).trans hx886_0; have hx894_0 := (hb9.cell (World.block_lt_of_cell? _ _ hx894_0)).trans hx894_0; have hx896_0 := (hb9.cell (World.block_lt_of_cell? _ _ hx896_0)).trans hx896_0; have hx897_0 := (hb9.cell (World.block_lt_of_cell? _ _ hx897_0)).trans hx897_0; go_simp; with_reducible rfl)))); (focus (simp only [Act.put, List.setIfInBounds_toArray, List.set_cons_zero, List.set_cons_succ, i64_w, i32_w]; rfl)))
                                          refine qb_nil ?_
                                          intro w66 hb
                                          have n0_ := Aside0.mk (blk_below BK881.out hb)
                                          have n1_ := Aside0.mk (below_step HB.out hb)
                                          clear BK881
                                          clear HB
                                          have BK881 := n0_
                                          have HB := n1_
                                          clear n0_ n1_
                                          clear hb
                                          (try clear HQ)
                                          try go_wp2
                                          go_ret
                                          exact ⟨by first | rfl | (simp [errW_none, errW_some] <;> rfl) | (simp [*, errW_none, errW_some] <;> rfl), by repeat (first | (with_reducible first | exact HB.out | apply below_alloc | apply pw_below_drewN | apply below_drew1 | refine below_set ?_ GE881.out) | exact HB.out)⟩
                                        · rw [if_neg c62] at H
                                          have c62b0 : ((rdOf false l1 t895) != false) = false := by simpa using c62
                                          (try (have c62b1 : decide ((rdOf false l1 t895) = false) = true := by simpa using c62))
                                          (try (have c62b2 : ((rdOf false l1 t895) == false) = true := by simpa using c62))
                                          clear c62
                                          have H' := Aside0.mk H
                                          clear H
                                          have hcz67_0 : wr.cell? ⟨gb881, 0, none⟩ = some (.int .i64 a0_0) := (blk_cell BK881.out 0).trans rfl
                                          have hcz67_1 : wr.cell? ⟨gb881, 1, none⟩ = some (.slice A0_1 l0_1.length c0_1) := (blk_cell BK881.out 1).trans rfl
                                          have hcz67_2 : wr.cell? ⟨gb881, 2, none⟩ = some (.slice A0_2 l0_2.length c0_2) := (blk_cell BK881.out 2).trans rfl
                                          have hcz67_3 : wr.cell? ⟨gb881, 3, none⟩ = some (.slice A0_3 l0_3.length c0_3) := (blk_cell BK881.out 3).trans rfl
                                          have hfz67_0 := blk_frozen BK881.out 0
                                          have hfz67_1 := blk_frozen BK881.out 1
                                          have hfz67_2 := blk_frozen BK881.out 2
                                          have hfz67_3 := blk_frozen BK881.out 3
                                          try go_wp2
                                          (try (have c55s := c55b0; (try simp only [← Nbq18.out] at c55s); (try simp at c55s)))
                                          (try (have c62s := c62b0; (try simp only [← Nbq18.out] at c62s); (try simp at c62s)))
                                          have p885 : 0 ≤ (t884 : Int) := of_decide_eq_true (by first | (with_reducible assumption) | assumption)
                                          have q885 : t884 < (l1.length : Int) := of_decide_eq_true (by first | (with_reducible assumption) | assumption)
                                          obtain ⟨ad885, e885, hx885_0⟩ := Kd.at_bool HR1.out t884 p885 q885
                                          (try rw [← Nbq18.out] at hx885_0)
                                          cases e885
                                          replace hx885_0 := (HB.out.cell (World.block_lt_of_cell? w _ hx885_0)).trans hx885_0
                                          replace p885 := eq_true p885
                                          replace q885 := eq_true q885
                                          have p886 : 0 ≤ (x5_2 : Int) := of_decide_eq_true (by first | (with_reducible assumption) | assumption)
                                          have q886 : x5_2 < (l1.length : Int) := of_decide_eq_true (by first | (with_reducible assumption) | assumption)
                                          obtain ⟨ad886, e886, hx886_0⟩ := Kd.at_bool HR1.out x5_2 p886 q886
                                          (try rw [← Nbq18.out] at hx886_0)
                                          obtain rfl : ad885 = ad886 := (by injection e886)
                                          replace hx886_0 := (HB.out.cell (World.block_lt_of_cell? w _ hx886_0)).trans hx886_0
                                          replace p886 := eq_true p886
                                          replace q886 := eq_true q886
                                          have p894 : 0 ≤ (x6_3 : Int) := of_decide_eq_true (by first | (with_reducible assumption) | assumption)
                                          have q894 : x6_3 < (l1.length : Int) := of_decide_eq_true (by first | (with_reducible assumption) | assumption)
                                          obtain ⟨ad894, e894, hx894_0⟩ := Kd.at_bool HR1.out x6_3 p894 q894
                                          (try rw [← Nbq18.out] at hx894_0)
                                          obtain rfl : ad885 = ad894 := (by injection e894)
                                          replace hx894_0 := (HB.out.cell (World.block_lt_of_cell? w _ hx894_0)).trans hx894_0
                                          replace p894 := eq_true p894
                                          replace q894 := eq_true q894
                                          have p896 : 0 ≤ (t895 : Int) := of_decide_eq_true (by first | (with_reducible assumption) | assumption)
                                          have q896 : t895 < (l1.length : Int) := of_decide_eq_true (by first | (with_reducible assumption) | assumption)
                                          obtain ⟨ad896, e896, hx896_0⟩ := Kd.at_bool HR1.out t895 p896 q896
                                          (try rw [← Nbq18.out] at hx896_0)
                                          obtain rfl : ad885 = ad896 := (by injection e896)
                                          replace hx896_0 := (HB.out.cell (World.block_lt_of_cell? w _ hx896_0)).trans hx896_0
                                          replace p896 := eq_true p896
                                          replace q896 := eq_true q896
                                          have p897 : 0 ≤ (x5_2 : Int) := of_decide_eq_true (by first | (with_reducible assumption) | assumption)
                                          have q897 : x5_2 < (l1.length : Int) := of_decide_eq_true (by first | (with_reducible assumption) | assumption)
                                          obtain ⟨ad897, e897, hx897_0⟩ := Kd.at_bool HR1.out x5_2 p897 q897
                                          (try rw [← Nbq18.out] at hx897_0)
                                          obtain rfl : ad885 = ad897 := (by injection e897)
                                          replace hx897_0 := (HB.out.cell (World.block_lt_of_cell? w _ hx897_0)).trans hx897_0
                                          replace p897 := eq_true p897
                                          replace q897 := eq_true q897
                                          have p898 : 0 ≤ (x5_2 : Int) := of_decide_eq_true (by first | (with_reducible assumption) | assumption)
                                          have q898 : x5_2 < (l1.length : Int) := of_decide_eq_true (by first | (with_reducible assumption) | assumption)
                                          obtain ⟨ad898, e898, hx898_0⟩ := Kd.at_bool HR1.out x5_2 p898 q898
                                          (try rw [← Nbq18.out] at hx898_0)
                                          obtain rfl : ad885 = ad898 := (by injection e898)
                                          replace hx898_0 := (HB.out.cell (World.block_lt_of_cell? w _ hx898_0)).trans hx898_0
                                          replace p898 := eq_true p898
                                          replace q898 := eq_true q898
                                          refine qb_region (by kernel_rfl) (by kernel_rfl) ?_
                                          have HQ := fun (wq : World) (hq : Below wr.heap.size wr wq) => below_step HB.out hq
                                          repeat ((first | (apply qb_skip; (focus rfl)) | (refine qb_callN 32 rfl ?_; apply qb_call 32 rfl Try.func53 (by kernel_rfl) rfl rfl; (focus rfl); (focus (exact fun wq9 hb9 => qb_b hb9 (impl_System_plus.calls a0_0 _ _ l0_1 _ _ l0_2 _ _ l0_3 x5_2 x6_3 t884 _ (Kd.C_below HR0_1.out (HQ _ hb9)) HC0_1.out (Kd.C_below HR0_2.out (HQ _ hb9)) HC0_2.out (Kd.C_below HR0_3.out (HQ _ hb9)) HC0_3.out A13.out))); (focus (rfl))) | (refine qb_callN 51 rfl ?_; apply qb_call 51 rfl Try.func54 (by kernel_rfl) rfl rfl; (focus rfl); (focus (exact fun wq9 hb9 => qb_b hb9 (impl_System_times.calls a0_0 _ _ l0_1 _ _ l0_2 _ _ l0_3 x5_2 x6_3 t895 _ (Kd.C_below HR0_1.out (HQ _ hb9)) HC0_1.out (Kd.C_below HR0_2.out (HQ _ hb9)) HC0_2.out (Kd.C_below HR0_3.out (HQ _ hb9)) HC0_3.out A59.out))); (focus (rfl))) | (apply qb_val; (focus rfl); (focus (intro wq9 _; go_simp; with_reducible rfl))) | (apply qb_val; (focus rfl); (focus (intro wq9 hb9_; have hb9 : Below wr.heap.size wr wq9 := hb9_; have BK881 := Aside0.mk (blk_below BK881.out hb9); have hc9_881_0 : wq9.cell? ⟨gb881, 0, none⟩ = some (.int .i64 a0_0) := (blk_cell BK881.out 0).trans rfl; have hc9_881_1 : wq9.cell? ⟨gb881, 1, none⟩ = some (.slice A0_1 l0_1.length c0_1) := (blk_cell BK881.out 1).trans rfl; have hc9_881_2 : wq9.cell? ⟨gb881, 2, none⟩ = some (.slice A0_2 l0_2.length c0_2) := (blk_cell BK881.out 2).trans rfl; have hc9_881_3 : wq9.cell? ⟨gb881, 3, none⟩ = some (.slice A0_3 l0_3.length c0_3) := (blk_cell BK881.out 3).trans rfl; have hx885_0 := (hb9.cell (World.block_lt_of_cell? _ _ hx885_0)).trans hx885_0; have hx886_0 := (hb9.cell (World.block_lt_of_cell? _ _ hx886_0)).trans hx886_0; have hx894_0 := (hb9.cell (World.block_lt_of_cell? _ _ hx894_0)).trans hx894_0; have hx896_0 := (hb9.cell (World.block_lt_of_cell? _ _ hx896_0)).trans hx896_0; have hx897_0 := (hb9.cell (World.block_lt_of_cell? _ _ hx897_0)).trans hx897_0; have hx898_0 := (hb9.cell (World.block_lt_of_cell? _ _ hx898_0)).trans hx898_0; go_simp; with_reducible rfl)))); (focus (simp only [Act.put, List.setIfInBounds_toArray, List.set_cons_zero, List.set_cons_succ, i64_w, i32_w]; rfl)))
                                          refine qb_nil ?_
                                          intro w70 hb
                                          have n0_ := Aside0.mk (blk_below BK881.out hb)
                                          have n1_ := Aside0.mk (below_step HB.out hb)
                                          clear BK881
                                          clear HB
                                          have BK881 := n0_
                                          have HB := n1_
                                          clear n0_ n1_
                                          clear hb
                                          (try clear HQ)
                                          try go_wp2
                                          go_roundg k3
                                          case measure => have := HJ2.out; have := HK2.out; have := HK3.out; omega
                                          case rel => exact ⟨(wrap64 (x6_3 + 1)), (by first | rfl | (simp; done) | (simp [*]; done)), H', ⟨by have := HJ2.out; have := HK2.out; have := HK3.out; omega⟩, ⟨by (with_reducible repeat (first | refine blk_drewN ?_ _ | refine blk_drew ?_ | refine blk_alloc ?_ _)); exact BK881.out⟩, ⟨by repeat (first | (with_reducible first | exact HB.out | apply below_alloc | apply pw_below_drewN | apply below_drew1 | refine below_set ?_ GE881.out) | exact HB.out)⟩⟩
                                      · rw [if_neg c61] at H
                                        exact absurd H (by simp)
                                    · rw [if_neg c60] at H
                                      exact absurd H (by simp)
                                · rw [if_neg c54] at H
                                  exact absurd H (by simp)
                              · rw [if_neg c53] at H
                                exact absurd H (by simp)
                          · rw [if_neg c17] at H
                            exact absurd H (by simp)
                        · rw [if_neg c16] at H
                          exact absurd H (by simp)
                      · rw [if_neg c15] at H
                        exact absurd H (by simp)
                    · rw [if_neg c14] at H
                      exact absurd H (by simp)
                  · rw [if_neg c12] at H
                    have c12b0 : decide (x6_3 < a0_0) = false := decide_eq_false c12
                    clear c12
                    have H' := Aside0.mk H
                    clear H
                    have hcz71_0 : wr.cell? ⟨gb881, 0, none⟩ = some (.int .i64 a0_0) := (blk_cell BK881.out 0).trans rfl
                    have hcz71_1 : wr.cell? ⟨gb881, 1, none⟩ = some (.slice A0_1 l0_1.length c0_1) := (blk_cell BK881.out 1).trans rfl
                    have hcz71_2 : wr.cell? ⟨gb881, 2, none⟩ = some (.slice A0_2 l0_2.length c0_2) := (blk_cell BK881.out 2).trans rfl
                    have hcz71_3 : wr.cell? ⟨gb881, 3, none⟩ = some (.slice A0_3 l0_3.length c0_3) := (blk_cell BK881.out 3).trans rfl
                    have hfz71_0 := blk_frozen BK881.out 0
                    have hfz71_1 := blk_frozen BK881.out 1
                    have hfz71_2 := blk_frozen BK881.out 2
                    have hfz71_3 := blk_frozen BK881.out 3
                    go_wp2
                    go_roundg k3
                    case measure => have := HJ2.out; have := HK2.out; have := HK3.out; omega
                    case rel => exact ⟨(wrap64 (x5_2 + 1)), (by first | rfl | (simp; done) | (simp [*]; done)), H', ⟨by have := HJ2.out; have := HK2.out; have := HK3.out; omega⟩, ⟨by (with_reducible repeat (first | refine blk_drewN ?_ _ | refine blk_drew ?_ | refine blk_alloc ?_ _)); exact BK881.out⟩, ⟨by repeat (first | (with_reducible first | exact HB.out | apply below_alloc | apply pw_below_drewN | apply below_drew1 | refine below_set ?_ GE881.out) | exact HB.out)⟩⟩
            · rw [if_neg c10] at H
              have c10b0 : decide (x5_2 < a0_0) = false := decide_eq_false c10
              clear c10
              obtain rfl := Option.some.inj H
              have hcz72_0 : wr.cell? ⟨gb881, 0, none⟩ = some (.int .i64 a0_0) := (blk_cell BK881.out 0).trans rfl
              have hcz72_1 : wr.cell? ⟨gb881, 1, none⟩ = some (.slice A0_1 l0_1.length c0_1) := (blk_cell BK881.out 1).trans rfl
              have hcz72_2 : wr.cell? ⟨gb881, 2, none⟩ = some (.slice A0_2 l0_2.length c0_2) := (blk_cell BK881.out 2).trans rfl
              have hcz72_3 : wr.cell? ⟨gb881, 3, none⟩ = some (.slice A0_3 l0_3.length c0_3) := (blk_cell BK881.out 3).trans rfl
              have hfz72_0 := blk_frozen BK881.out 0
              have hfz72_1 := blk_frozen BK881.out 1
              have hfz72_2 := blk_frozen BK881.out 2
              have hfz72_3 := blk_frozen BK881.out 3
              go_wp2
              go_ret
              exact ⟨by first | rfl | (simp [errW_none, errW_some] <;> rfl) | (simp [*, errW_none, errW_some] <;> rfl), by repeat (first | (with_reducible first | exact HB.out | apply below_alloc | apply pw_below_drewN | apply below_drew1 | refine below_set ?_ GE881.out) | exact HB.out)⟩

end Go.Proofs.Ythdbijjkcoafiaa.P
