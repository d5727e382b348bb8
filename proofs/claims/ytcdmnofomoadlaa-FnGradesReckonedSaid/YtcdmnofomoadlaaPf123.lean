-- Printed by this session's own program (wip/tools/mkprint.py) out of the translation. Not trusted: Lean checks it.
import Derived.Test.YtcdmnofomoadlaaM1
import Derived.Laws.EntriesVeiled
/-! short words -/
namespace Go.Proofs.Ytcdmnofomoadlaa.P
open Go.RowKit Go.Proofs.YtcdmnofomoadlaaW.PrintWords Go.Proofs.YtcdmnofomoadlaaW.PrintLast Go.Proofs.YtcdmnofomoadlaaW.PrintMore
attribute [local go_sem] max2_int min2_int max_two min_two max_three min_three max_four min_four   -- for this text's walks alone
set_option linter.unusedVariables false
set_option linter.unusedSimpArgs false

/-! ### slices_IndexFunc_int_int: function 123 -/
def slices_IndexFunc_int_int.l0 : Nat → List Int → (Int → Option (Bool)) → Int → Int → Option (Int)
 | 0, _, _, _, _ => none
 | k + 1, x0, x1, x7, x8 => if x8 < x7 then (if 0 ≤ x8 then (if x8 < (x0.length : Int) then ((x1 (rd x0 x8)).bind fun t773 => (if t773 = true then (some x8) else (slices_IndexFunc_int_int.l0 k x0 x1 x7 (wrap64 (x8 + 1))))) else (none)) else (none)) else (some (-1))
def slices_IndexFunc_int_int.f (k : Nat) (l0 : List Int) (x1 : (Int → Option (Bool))) : Option (Int) := slices_IndexFunc_int_int.l0 k l0 x1 (l0.length : Int) 0
set_option maxHeartbeats 8000000 in
set_option maxRecDepth 100000 in
theorem slices_IndexFunc_int_int.calls (k : Nat) (A0 : Option Addr) (c0 : Nat) (l0 : List Int) (x1 : (Int → Option (Bool))) (K1_ : Nat) (F1_ C1_ : Array Value) (r : Int) (w : World) (hr0 : Kd.C (Kd.int .i64) w A0 l0.length l0) (hc0 : l0.length ≤ c0) (hG1 : OFn K1_) (hF1 : OC73 w x1 K1_ F1_ C1_) (h : slices_IndexFunc_int_int.f k l0 x1 = some r) :
  Calls Try.prog 123 #[.slice A0 l0.length c0, .func (.func K1_) F1_ C1_] w fun e w' => e = .returned (.int .i64 r) ∧ Below w.heap.size w w' := by
 have HR0 := sd_ hr0
 have HC0 := sd_ hc0
 clear hr0 hc0
 have HG1 := sd_ hG1
 have HF1 := sd_ hF1
 clear hG1 hF1
 have HB := sd_ (Below.refl w.heap.size w)
 have H : (slices_IndexFunc_int_int.l0 k l0 x1 (l0.length : Int) 0) = some r := h
 clear h
 have H' := sd_ H
 clear H
 go_enter Try.func123, Try.ntmps123
 go_wp2
 go_loopg [8] k (fun kq v8 w' => ∃ (x8_1 : Int), v8 = .int .i64 x8_1 ∧ Aside0 (slices_IndexFunc_int_int.l0 kq l0 x1 (l0.length : Int) x8_1 = some r) ∧ Aside0 (kq ≤ k) ∧ Aside0 (Below w.heap.size w w'))
 case atStart => exact ⟨(0), sm_, H', ⟨Nat.le_refl _⟩, ⟨bw0_ HB.out⟩⟩
 case round =>
  clear H'
  try clear c1
  try clear p2
  obtain ⟨x8_1, rfl, HA, HK1, HB⟩ := hrel
  cases gk with
  | zero => exact absurd HA.out (by simp [slices_IndexFunc_int_int.l0])
  | succ k1 =>
   have H := HA.out
   clear HA
   simp only [slices_IndexFunc_int_int.l0] at H
   by_cases c3 : x8_1 < (l0.length : Int)
   ·rw [if_pos c3] at H
    have c3b0 : decide (x8_1 < (l0.length : Int)) = true := decide_eq_true c3
    clear c3
    by_cases c4 : 0 ≤ x8_1
    ·rw [if_pos c4] at H
     have c4b0 : decide (0 ≤ x8_1) = true := decide_eq_true c4
     clear c4
     by_cases c5 : x8_1 < (l0.length : Int)
     ·rw [if_pos c5] at H
      have c5b0 : decide (x8_1 < (l0.length : Int)) = true := decide_eq_true c5
      clear c5
      replace H := Option.bind_eq_some_iff.mp H
      obtain ⟨t773, A60, H⟩ := H
      try dsimp only at H
      have A6 := sd_ A60
      clear A60
      have HP7 := sd_ H
      clear H
      have p772 : 0 ≤ (x8_1 : Int) := dt_
      have q772 : x8_1 < (l0.length : Int) := dt_
      obtain ⟨ad772, e772, hx772_0⟩ := Kd.at_int HR0.out x8_1 p772 q772
      cases e772
      replace hx772_0 := (HB.out.cell (World.block_lt_of_cell? w _ hx772_0)).trans hx772_0
      replace p772 := eq_true p772
      replace q772 := eq_true q772
      go_upto_if 16 with (first | ((with_reducible refine gate_calleeO (t := 11) rfl ?_); refine goesOL_ (some 16) rfl rfl HG1.out #[.int .i64 (rd l0 x8_1)] rfl la_ rfl ?_; (with_reducible refine (HF1.out (rd l0 x8_1) t773 _ ?side1 A6.out).mono ?_); (case side1 => exact (bw0_ HB.out)); rintro e w8 ⟨rfl, hb⟩; refine ⟨_, rfl, ?_⟩; have n0_ := sd_ (below_step (bw0_ HB.out) hb); clear HB; have HB := n0_; clear n0_; (try clear hb)))
      have H := HP7.out
      clear HP7
      by_cases c9 : t773 = true
      ·subst c9
       have H1 : (some x8_1) = some r := by rw [if_pos rfl] at H; exact H
       clear H
       have H := H1
       clear H1
       obtain rfl := Option.some.inj H
       go_wp2
       go_ret
       exact ⟨an_, bw0_ HB.out⟩
      replace c9 := Bool.eq_false_iff.mpr c9
      subst c9
      have H1 : (slices_IndexFunc_int_int.l0 k1 l0 x1 (l0.length : Int) (wrap64 (x8_1 + 1))) = some r := by rw [if_neg (show ¬ (false = true) by decide)] at H; exact H
      clear H
      have H := H1
      clear H1
      have H' := sd_ H
      clear H
      go_wp2
      go_roundg k1
      case measure => have := HK1.out; omega
      case rel => exact ⟨(wrap64 (x8_1 + 1)), sm_, H', ⟨by have := HK1.out; omega⟩, ⟨bw0_ HB.out⟩⟩
     rw [if_neg c5] at H
     exact absurd H (by simp)
    rw [if_neg c4] at H
    exact absurd H (by simp)
   rw [if_neg c3] at H
   have c3b0 : decide (x8_1 < (l0.length : Int)) = false := decide_eq_false c3
   clear c3
   obtain rfl := Option.some.inj H
   go_wp2
   go_ret
   exact ⟨an_, bw0_ HB.out⟩

end Go.Proofs.Ytcdmnofomoadlaa.P
