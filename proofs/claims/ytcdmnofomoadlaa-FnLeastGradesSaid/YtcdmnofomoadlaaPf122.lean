-- Printed by this session's own program (wip/tools/mkprint.py) out of the translation. Not trusted: Lean checks it.
import Derived.Test.YtcdmnofomoadlaaM1
/-! short words -/
namespace Go.Proofs.Ytcdmnofomoadlaa.P
open Go.RowKit Go.Proofs.YtcdmnofomoadlaaW.PrintWords Go.Proofs.YtcdmnofomoadlaaW.PrintLast Go.Proofs.YtcdmnofomoadlaaW.PrintMore
attribute [local go_sem] max2_int min2_int max_two min_two max_three min_three max_four min_four   -- for this text's walks alone
set_option linter.unusedVariables false
set_option linter.unusedSimpArgs false

/-! ### impl_counted_2: function 122 -/
def impl_counted_2.j0 : Nat → Int → Int → Bool → Int → Option (Int)
 | 0, _, _, _, _ => none
 | k + 1, x0, x1, x6, x3000 => if x6 = true then (some 0) else (if x0 = x3000 then (some x3000) else (if x1 = x3000 then (some x3000) else (some (mn (wrap64 (x0 * x1)) x3000))))
def impl_counted_2.f (k : Nat) (a0 : Int) (a1 : Int) (a2_0 : Int) : Option (Int) := if a0 = 0 then (impl_counted_2.j0 k a0 a1 true a2_0) else (impl_counted_2.j0 k a0 a1 (a1 == 0) a2_0)
set_option maxHeartbeats 8000000 in
set_option maxRecDepth 100000 in
theorem impl_counted_2.calls (k : Nat) (a0 : Int) (a1 : Int) (g2 : Nat) (a2_0 : Int) (r : Int) (w : World) (hb2 : w.heap[g2]? = some (.cells #[.int .i64 a2_0] 3 (0, 0))) (h : impl_counted_2.f k a0 a1 a2_0 = some r) :
  Calls Try.prog 122 #[.int .i64 a0, .int .i64 a1, .pointer (some ⟨g2, 0, none⟩)] w fun e w' => e = .returned (.int .i64 r) ∧ Below w.heap.size w w' := by
 have BK2 := sd_ hb2
 clear hb2
 have HB := sd_ (Below.refl w.heap.size w)
 have H : (if a0 = 0 then (impl_counted_2.j0 k a0 a1 true a2_0) else (impl_counted_2.j0 k a0 a1 (a1 == 0) a2_0)) = some r := h
 clear h
 have HC4 := sd_ H
 clear H
 go_enter Try.func122, Try.ntmps122
 go_upto_region 1 with (fail)
 go_cut [6] (fun v6 wc => ∃ (kq : Nat) (x6_3 : Bool), v6 = .bool x6_3 ∧ Aside0 (impl_counted_2.j0 kq a0 a1 x6_3 a2_0 = some r) ∧ Aside0 (kq ≤ k) ∧ Aside0 (wc.heap[g2]? = some (.cells #[.int .i64 a2_0] 3 (0, 0))) ∧ Aside0 (Below w.heap.size w wc))
 case first =>
  have H := HC4.out
  clear HC4
  by_cases c5 : a0 = 0
  ·rw [if_pos c5] at H
   have c5b0 : (a0 == 0) = true := beq_iff_eq.mpr c5
   have c5b1 : (a0 != 0) = false := bne_eq_false_iff_eq.mpr c5
   clear c5
   (first | rw [c5b0] | (simp only [i64_w, i32_w]; rw [c5b0]) | skip)
   have H' := sd_ H
   clear H
   go_wp2
   go_meet
   case rel => exact ⟨_, (true), sm_, H', ⟨by first | omega | exact Nat.le_refl _⟩, ⟨by exact bz_ BK2.out⟩, ⟨bw0_ HB.out⟩⟩
  rw [if_neg c5] at H
  have c5b0 : (a0 == 0) = false := beq_eq_false_iff_ne.mpr c5
  have c5b1 : (a0 != 0) = true := bne_iff_ne.mpr c5
  (first | rw [c5b0] | (simp only [i64_w, i32_w]; rw [c5b0]) | skip)
  have H' := sd_ H
  clear H
  go_wp2
  go_meet
  case rel => exact ⟨_, ((a1 == 0)), sm_, H', ⟨by first | omega | exact Nat.le_refl _⟩, ⟨by exact bz_ BK2.out⟩, ⟨bw0_ HB.out⟩⟩
 case rest =>
  clear HC4
  try clear c1
  obtain ⟨kq, x6_3, rfl, HA, HJ3, BK2, HB⟩ := hcut
  cases kq with
  | zero => exact absurd HA.out (by simp [impl_counted_2.j0])
  | succ kj3 =>
   have H := HA.out
   clear HA
   simp only [impl_counted_2.j0] at H
   by_cases c6 : x6_3 = true
   ·subst c6
    have H1 : (some 0) = some r := by rw [if_pos rfl] at H; exact H
    clear H
    have H := H1
    clear H1
    obtain rfl := Option.some.inj H
    go_wp2
    go_ret
    exact ⟨an_, bw0_ HB.out⟩
   replace c6 := Bool.eq_false_iff.mpr c6
   subst c6
   have H1 : (if a0 = a2_0 then (some a2_0) else (if a1 = a2_0 then (some a2_0) else (some (mn (wrap64 (a0 * a1)) a2_0)))) = some r := by rw [if_neg (show ¬ (false = true) by decide)] at H; exact H
   clear H
   have H := H1
   clear H1
   by_cases c7 : a0 = a2_0
   ·rw [if_pos c7] at H
    have c7b0 : (a0 == a2_0) = true := beq_iff_eq.mpr c7
    have c7b1 : (a0 != a2_0) = false := bne_eq_false_iff_eq.mpr c7
    clear c7
    obtain rfl := Option.some.inj H
    have hcz8_0 : wc.cell? ⟨g2, 0, none⟩ = some (.int .i64 a2_0) := (blk_cell BK2.out 0).trans rfl
    have hfz8_0 := blk_frozen BK2.out 0
    go_wp2
    go_ret
    exact ⟨an_, bw0_ HB.out⟩
   rw [if_neg c7] at H
   have c7b0 : (a0 == a2_0) = false := beq_eq_false_iff_ne.mpr c7
   have c7b1 : (a0 != a2_0) = true := bne_iff_ne.mpr c7
   by_cases c9 : a1 = a2_0
   ·rw [if_pos c9] at H
    have c9b0 : (a1 == a2_0) = true := beq_iff_eq.mpr c9
    have c9b1 : (a1 != a2_0) = false := bne_eq_false_iff_eq.mpr c9
    clear c9
    obtain rfl := Option.some.inj H
    have hcz10_0 : wc.cell? ⟨g2, 0, none⟩ = some (.int .i64 a2_0) := (blk_cell BK2.out 0).trans rfl
    have hfz10_0 := blk_frozen BK2.out 0
    go_wp2
    go_ret
    exact ⟨an_, bw0_ HB.out⟩
   rw [if_neg c9] at H
   have c9b0 : (a1 == a2_0) = false := beq_eq_false_iff_ne.mpr c9
   have c9b1 : (a1 != a2_0) = true := bne_iff_ne.mpr c9
   obtain ⟨ji11, hji11⟩ : ∃ j_ : Int, (mn (wrap64 (a0 * a1)) a2_0) = j_ := ⟨_, rfl⟩
   replace H : (some ji11) = some r := by first | (rw [hji11] at H; exact H) | (simp only [hji11] at H ⊢; exact H)
   have hji11_ : (if a2_0 < (wrap64 (a0 * a1)) then a2_0 else (wrap64 (a0 * a1))) = ji11 := hji11
   obtain rfl := Option.some.inj H
   have hcz12_0 : wc.cell? ⟨g2, 0, none⟩ = some (.int .i64 a2_0) := (blk_cell BK2.out 0).trans rfl
   have hfz12_0 := blk_frozen BK2.out 0
   go_wp2
   go_ret
   exact ⟨by first | rfl | (simp [errW_none, errW_some] <;> rfl) | (simp only [← hji11]; first | rfl | (simp [errW_none, errW_some] <;> rfl)) | (simp [*, errW_none, errW_some] <;> rfl), bw0_ HB.out⟩

end Go.Proofs.Ytcdmnofomoadlaa.P
