-- Printed by this session's own program (wip/tools/mkprint.py) out of the translation. Not trusted: Lean checks it.
import Derived.Test.YtlhiacnmcckjgaaDoorP0
import Derived.Test.YtlhiacnmcckjgaaDoorPf46
/-! short words -/
namespace Go.Proofs.YtlhiacnmcckjgaaDoor.P
open Go.RowKit Go.Proofs.YtlhiacnmcckjgaaDoorW.PrintWords Go.Proofs.YtlhiacnmcckjgaaDoorW.PrintLast Go.Proofs.YtlhiacnmcckjgaaDoorW.PrintMore
attribute [local go_sem] max2_int min2_int max_two min_two max_three min_three max_four min_four   -- for this text's walks alone
set_option linter.unusedVariables false
set_option linter.unusedSimpArgs false

/-! ### impl_typeEnd: function 33 -/
mutual
def impl_typeEnd.j0 : Nat → List Int → Int → Bool → Option (Int)
 | 0, _, _, _ => none
 | k + 1, x0, x1, x14 => if x14 = true then (some (-1)) else (if 0 ≤ x1 then (if x1 < (x0.length : Int) then ((impl_shape.f (rd x0 x1)).bind fun bt129 => (if bt129.1 = 0 then (some (wrap64 (x1 + 1))) else (if bt129.1 = 4 then ((impl_typeEnd.f k x0 (wrap64 (x1 + 1))).bind fun t131 => (some t131)) else (if bt129.1 = 5 then (some (-1)) else ((impl_typeEnd.f k x0 (wrap64 (x1 + 1))).bind fun t132 => ((impl_typeEnd.f k x0 t132).bind fun t133 => (some t133))))))) else (none)) else (none))
def impl_typeEnd.f : Nat → List Int → Int → Option (Int)
 | 0, _, _ => none
 | k + 1, l0, a1 => if a1 < 0 then (impl_typeEnd.j0 k l0 a1 true) else (impl_typeEnd.j0 k l0 a1 (decide (a1 ≥ (l0.length : Int))))
end
set_option maxHeartbeats 8000000 in
set_option maxRecDepth 100000 in
theorem impl_typeEnd.calls (k : Nat) : ∀ (A0 : Option Addr) (c0 : Nat) (l0 : List Int) (a1 : Int) (r : Int) (w : World) (hr0 : Kd.C (Kd.int .i64) w A0 l0.length l0) (hc0 : l0.length ≤ c0) (h : impl_typeEnd.f k l0 a1 = some r),
  Calls Tryd.prog 33 #[.slice A0 l0.length c0, .int .i64 a1] w fun e w' => e = .returned (.int .i64 r) ∧ Drawn0 w w' := by
 induction k using Nat.strongRecOn with
 | _ k ih =>
 intro A0 c0 l0 a1 r w hr0 hc0 h
 cases k with
 | zero => exact absurd h (by simp [impl_typeEnd.f])
 | succ k =>
 simp only [impl_typeEnd.f] at h
 have HR0 := sd_ hr0
 have HC0 := sd_ hc0
 clear hr0 hc0
 have H : (if a1 < 0 then (impl_typeEnd.j0 k l0 a1 true) else (impl_typeEnd.j0 k l0 a1 (decide (a1 ≥ (l0.length : Int))))) = some r := h
 clear h
 have HC3 := sd_ H
 clear H
 go_enter Tryd.func33, Tryd.ntmps33
 go_upto_region 1 with (fail)
 go_cut [14] (fun v14 wc => ∃ (kq : Nat) (x14_2 : Bool), v14 = .bool x14_2 ∧ Aside0 (impl_typeEnd.j0 kq l0 a1 x14_2 = some r) ∧ Aside0 (kq ≤ k) ∧ Drawn0 w wc)
 case first =>
  have H := HC3.out
  clear HC3
  by_cases c4 : a1 < 0
  ·rw [if_pos c4] at H
   have c4b0 : decide (a1 < 0) = true := decide_eq_true c4
   clear c4
   (first | rw [c4b0] | (simp only [i64_w, i32_w]; rw [c4b0]) | skip)
   have H' := sd_ H
   clear H
   go_wp2
   go_meet
   case rel => exact ⟨_, (true), sm_, H', ⟨by first | omega | exact Nat.le_refl _⟩, by repeat (first | exact Drawn0.refl _ | apply Drawn0.step)⟩
  rw [if_neg c4] at H
  have c4b0 : decide (a1 < 0) = false := decide_eq_false c4
  clear c4
  (first | rw [c4b0] | (simp only [i64_w, i32_w]; rw [c4b0]) | skip)
  have H' := sd_ H
  clear H
  go_wp2
  go_meet
  case rel => exact ⟨_, (decide (a1 ≥ (l0.length : Int))), sm_, H', ⟨by first | omega | exact Nat.le_refl _⟩, by repeat (first | exact Drawn0.refl _ | apply Drawn0.step)⟩
 case rest =>
  clear HC3
  try clear c3
  obtain ⟨kq, x14_2, rfl, HA, HJ2, ⟨mc2, rfl⟩⟩ := hcut
  cases kq with
  | zero => exact absurd HA.out (by simp [impl_typeEnd.j0])
  | succ kj2 =>
   have H := HA.out
   clear HA
   simp only [impl_typeEnd.j0] at H
   by_cases c5 : x14_2 = true
   ·subst c5
    have H1 : (some (-1)) = some r := by rw [if_pos rfl] at H; exact H
    clear H
    have H := H1
    clear H1
    obtain rfl := Option.some.inj H
    go_wp2
    go_ret
    exact ⟨by first | rfl | (simp; done) | (simp [*]; done), by repeat (first | exact Drawn0.refl _ | apply Drawn0.step)⟩
   replace c5 := Bool.eq_false_iff.mpr c5
   subst c5
   have H1 : (if 0 ≤ a1 then (if a1 < (l0.length : Int) then ((impl_shape.f (rd l0 a1)).bind fun bt129 => (if bt129.1 = 0 then (some (wrap64 (a1 + 1))) else (if bt129.1 = 4 then ((impl_typeEnd.f kj2 l0 (wrap64 (a1 + 1))).bind fun t131 => (some t131)) else (if bt129.1 = 5 then (some (-1)) else ((impl_typeEnd.f kj2 l0 (wrap64 (a1 + 1))).bind fun t132 => ((impl_typeEnd.f kj2 l0 t132).bind fun t133 => (some t133))))))) else (none)) else (none)) = some r := by rw [if_neg (show ¬ (false = true) by decide)] at H; exact H
   clear H
   have H := H1
   clear H1
   by_cases c6 : 0 ≤ a1
   ·rw [if_pos c6] at H
    have c6b0 : decide (0 ≤ a1) = true := decide_eq_true c6
    clear c6
    by_cases c7 : a1 < (l0.length : Int)
    ·rw [if_pos c7] at H
     have c7b0 : decide (a1 < (l0.length : Int)) = true := decide_eq_true c7
     clear c7
     replace H := Option.bind_eq_some_iff.mp H
     obtain ⟨⟨t129, t130⟩, A80, H⟩ := H
     try dsimp only at H
     have A8 := sd_ A80
     clear A80
     by_cases c9 : t129 = 0
     ·rw [if_pos c9] at H
      have c9b0 : (t129 == 0) = true := beq_iff_eq.mpr c9
      have c9b1 : (t129 != 0) = false := bne_eq_false_iff_eq.mpr c9
      clear c9
      obtain rfl := Option.some.inj H
      have p128 : 0 ≤ (a1 : Int) := dt_
      have q128 : a1 < (l0.length : Int) := dt_
      obtain ⟨ad128, e128, hx128_0⟩ := Kd.at_int HR0.out a1 p128 q128
      cases e128
      replace p128 := eq_true p128
      replace q128 := eq_true q128
      go_wp2_with (first | ((with_reducible refine gate_callee (f := 46) rfl ?_); refine goesL_ (some 20) rfl rfl Tryd.func46 (by kernel_rfl) rfl #[.int .i64 (rd l0 a1)] rfl la_ ?_; (with_reducible refine (impl_shape.calls (rd l0 a1) t129 t130 _ A8.out).mono ?_); rintro e w' ⟨rfl, ⟨nd, rfl⟩⟩; refine ⟨_, rfl, ?_⟩))
      go_ret
      exact ⟨by first | rfl | (simp; done) | (simp [*]; done), by repeat (first | exact Drawn0.refl _ | apply Drawn0.step)⟩
     rw [if_neg c9] at H
     have c9b0 : (t129 == 0) = false := beq_eq_false_iff_ne.mpr c9
     have c9b1 : (t129 != 0) = true := bne_iff_ne.mpr c9
     by_cases c10 : t129 = 4
     ·rw [if_pos c10] at H
      have c10b0 : (t129 == 4) = true := beq_iff_eq.mpr c10
      have c10b1 : (t129 != 4) = false := bne_eq_false_iff_eq.mpr c10
      clear c10
      replace H := Option.bind_eq_some_iff.mp H
      obtain ⟨t131, A110, H⟩ := H
      try dsimp only at H
      have A11 := sd_ A110
      clear A110
      obtain rfl := Option.some.inj H
      have p128 : 0 ≤ (a1 : Int) := dt_
      have q128 : a1 < (l0.length : Int) := dt_
      obtain ⟨ad128, e128, hx128_0⟩ := Kd.at_int HR0.out a1 p128 q128
      cases e128
      replace p128 := eq_true p128
      replace q128 := eq_true q128
      go_wp2_with (first | ((with_reducible refine gate_callee (f := 46) rfl ?_); refine goesL_ (some 20) rfl rfl Tryd.func46 (by kernel_rfl) rfl #[.int .i64 (rd l0 a1)] rfl la_ ?_; (with_reducible refine (impl_shape.calls (rd l0 a1) t129 t130 _ A8.out).mono ?_); rintro e w' ⟨rfl, ⟨nd, rfl⟩⟩; refine ⟨_, rfl, ?_⟩) | ((with_reducible refine gate_callee (f := 33) rfl ?_); refine goesL_ (some 33) rfl rfl Tryd.func33 (by kernel_rfl) rfl #[.slice (some ad128) l0.length c0, .int .i64 (wrap64 (a1 + 1))] rfl la_ ?_; (with_reducible refine (ih kj2 (by have := HJ2.out; omega) _ _ l0 (wrap64 (a1 + 1)) t131 _ ?side1 ?side2 A11.out).mono ?_); (case side1 => exact kp_ HR0.out); (case side2 => exact HC0.out); rintro e w' ⟨rfl, ⟨nd, rfl⟩⟩; refine ⟨_, rfl, ?_⟩))
      go_ret
      exact ⟨by first | rfl | (simp; done) | (simp [*]; done), by repeat (first | exact Drawn0.refl _ | apply Drawn0.step)⟩
     rw [if_neg c10] at H
     have c10b0 : (t129 == 4) = false := beq_eq_false_iff_ne.mpr c10
     have c10b1 : (t129 != 4) = true := bne_iff_ne.mpr c10
     by_cases c12 : t129 = 5
     ·rw [if_pos c12] at H
      have c12b0 : (t129 == 5) = true := beq_iff_eq.mpr c12
      have c12b1 : (t129 != 5) = false := bne_eq_false_iff_eq.mpr c12
      clear c12
      obtain rfl := Option.some.inj H
      have p128 : 0 ≤ (a1 : Int) := dt_
      have q128 : a1 < (l0.length : Int) := dt_
      obtain ⟨ad128, e128, hx128_0⟩ := Kd.at_int HR0.out a1 p128 q128
      cases e128
      replace p128 := eq_true p128
      replace q128 := eq_true q128
      go_wp2_with (first | ((with_reducible refine gate_callee (f := 46) rfl ?_); refine goesL_ (some 20) rfl rfl Tryd.func46 (by kernel_rfl) rfl #[.int .i64 (rd l0 a1)] rfl la_ ?_; (with_reducible refine (impl_shape.calls (rd l0 a1) t129 t130 _ A8.out).mono ?_); rintro e w' ⟨rfl, ⟨nd, rfl⟩⟩; refine ⟨_, rfl, ?_⟩))
      go_ret
      exact ⟨by first | rfl | (simp; done) | (simp [*]; done), by repeat (first | exact Drawn0.refl _ | apply Drawn0.step)⟩
     rw [if_neg c12] at H
     have c12b0 : (t129 == 5) = false := beq_eq_false_iff_ne.mpr c12
     have c12b1 : (t129 != 5) = true := bne_iff_ne.mpr c12
     replace H := Option.bind_eq_some_iff.mp H
     obtain ⟨t132, A130, H⟩ := H
     try dsimp only at H
     have A13 := sd_ A130
     clear A130
     replace H := Option.bind_eq_some_iff.mp H
     obtain ⟨t133, A140, H⟩ := H
     try dsimp only at H
     have A14 := sd_ A140
     clear A140
     obtain rfl := Option.some.inj H
     have p128 : 0 ≤ (a1 : Int) := dt_
     have q128 : a1 < (l0.length : Int) := dt_
     obtain ⟨ad128, e128, hx128_0⟩ := Kd.at_int HR0.out a1 p128 q128
     cases e128
     replace p128 := eq_true p128
     replace q128 := eq_true q128
     go_wp2_with (first | ((with_reducible refine gate_callee (f := 46) rfl ?_); refine goesL_ (some 20) rfl rfl Tryd.func46 (by kernel_rfl) rfl #[.int .i64 (rd l0 a1)] rfl la_ ?_; (with_reducible refine (impl_shape.calls (rd l0 a1) t129 t130 _ A8.out).mono ?_); rintro e w' ⟨rfl, ⟨nd, rfl⟩⟩; refine ⟨_, rfl, ?_⟩) | ((with_reducible refine gate_callee (f := 33) rfl ?_); refine goesL_ (some 40) rfl rfl Tryd.func33 (by kernel_rfl) rfl #[.slice (some ad128) l0.length c0, .int .i64 (wrap64 (a1 + 1))] rfl la_ ?_; (with_reducible refine (ih kj2 (by have := HJ2.out; omega) _ _ l0 (wrap64 (a1 + 1)) t132 _ ?side1 ?side2 A13.out).mono ?_); (case side1 => exact kp_ HR0.out); (case side2 => exact HC0.out); rintro e w' ⟨rfl, ⟨nd, rfl⟩⟩; refine ⟨_, rfl, ?_⟩) | ((with_reducible refine gate_callee (f := 33) rfl ?_); refine goesL_ (some 41) rfl rfl Tryd.func33 (by kernel_rfl) rfl #[.slice (some ad128) l0.length c0, .int .i64 t132] rfl la_ ?_; (with_reducible refine (ih kj2 (by have := HJ2.out; omega) _ _ l0 t132 t133 _ ?side1 ?side2 A14.out).mono ?_); (case side1 => exact kp_ HR0.out); (case side2 => exact HC0.out); rintro e w' ⟨rfl, ⟨nd, rfl⟩⟩; refine ⟨_, rfl, ?_⟩))
     go_ret
     exact ⟨by first | rfl | (simp; done) | (simp [*]; done), by repeat (first | exact Drawn0.refl _ | apply Drawn0.step)⟩
    rw [if_neg c7] at H
    exact absurd H (by simp)
   rw [if_neg c6] at H
   exact absurd H (by simp)

end Go.Proofs.YtlhiacnmcckjgaaDoor.P
