-- Several texts in one (wip/tools/merge.py).
import Derived.Test.YtipfkicndjddgaaP0
import Derived.Test.YtipfkicndjddgaaM7
import Derived.Test.YtipfkicndjddgaaM4
import Derived.Test.YtipfkicndjddgaaM2
section
namespace Go.Proofs.Ytipfkicndjddgaa.P
open Go.RowKit Go.Proofs.YtipfkicndjddgaaW.PrintWords Go.Proofs.YtipfkicndjddgaaW.PrintLast Go.Proofs.YtipfkicndjddgaaW.PrintMore
attribute [local go_sem] max2_int min2_int max_two min_two max_three min_three max_four min_four   -- for this text's walks alone
set_option linter.unusedVariables false
set_option linter.unusedSimpArgs false

/-! ### spec_l2Type: function 113 -/
def spec_l2Type.f (k : Nat) (l0 : List Int) : Option (Bool) := if (l0.length : Int) ≤ 40 then ((spec_l2End.f k l0 0).bind fun t162 => (if t162 = (l0.length : Int) then (some (decide ((l0.length : Int) > 0))) else (some false))) else (some false)
set_option maxHeartbeats 8000000 in
set_option maxRecDepth 100000 in
theorem spec_l2Type.calls (k : Nat) (A0 : Option Addr) (c0 : Nat) (l0 : List Int) (r : Bool) (w : World) (hr0 : Kd.C (Kd.int .i64) w A0 l0.length l0) (hc0 : l0.length ≤ c0) (h : spec_l2Type.f k l0 = some r) :
  Calls Try.prog 113 #[.slice A0 l0.length c0] w fun e w' => e = .returned (.bool r) ∧ Drawn0 w w' := by
 have HR0 := sd_ hr0
 have HC0 := sd_ hc0
 clear hr0 hc0
 have H : (if (l0.length : Int) ≤ 40 then ((spec_l2End.f k l0 0).bind fun t162 => (if t162 = (l0.length : Int) then (some (decide ((l0.length : Int) > 0))) else (some false))) else (some false)) = some r := h
 clear h
 by_cases c2 : (l0.length : Int) ≤ 40
 ·rw [if_pos c2] at H
  have c2b0 : decide ((l0.length : Int) ≤ 40) = true := decide_eq_true c2
  have c2b1 : decide (l0.length ≤ 40) = true := decide_eq_true (by omega)
  clear c2
  replace H := Option.bind_eq_some_iff.mp H
  obtain ⟨t162, A30, H⟩ := H
  try dsimp only at H
  have A3 := sd_ A30
  clear A30
  by_cases c4 : t162 = (l0.length : Int)
  ·rw [if_pos c4] at H
   have c4b0 : (t162 == (l0.length : Int)) = true := beq_iff_eq.mpr c4
   have c4b1 : (t162 != (l0.length : Int)) = false := bne_eq_false_iff_eq.mpr c4
   clear c4
   obtain rfl := Option.some.inj H
   go_enter Try.func113, Try.ntmps113
   go_wp2_with (first | (go_at_call 138; (with_reducible refine (spec_l2End.calls k _ _ l0 0 t162 _ (kp_ HR0.out) HC0.out A3.out).mono ?_); rintro e w' ⟨rfl, ⟨nd, rfl⟩⟩))
   go_ret
   exact ⟨by first | rfl | (simp; done) | (simp [*]; done), by repeat (first | exact Drawn0.refl _ | apply Drawn0.step)⟩
  rw [if_neg c4] at H
  have c4b0 : (t162 == (l0.length : Int)) = false := beq_eq_false_iff_ne.mpr c4
  have c4b1 : (t162 != (l0.length : Int)) = true := bne_iff_ne.mpr c4
  obtain rfl := Option.some.inj H
  go_enter Try.func113, Try.ntmps113
  go_wp2_with (first | (go_at_call 138; (with_reducible refine (spec_l2End.calls k _ _ l0 0 t162 _ (kp_ HR0.out) HC0.out A3.out).mono ?_); rintro e w' ⟨rfl, ⟨nd, rfl⟩⟩))
  go_ret
  exact ⟨by first | rfl | (simp; done) | (simp [*]; done), by repeat (first | exact Drawn0.refl _ | apply Drawn0.step)⟩
 rw [if_neg c2] at H
 have c2b0 : decide ((l0.length : Int) ≤ 40) = false := decide_eq_false c2
 have c2b1 : decide (l0.length ≤ 40) = false := decide_eq_false (by omega)
 clear c2
 obtain rfl := Option.some.inj H
 go_enter Try.func113, Try.ntmps113
 go_wp2
 go_ret
 exact ⟨by first | rfl | (simp; done) | (simp [*]; done), by repeat (first | exact Drawn0.refl _ | apply Drawn0.step)⟩


/-! ### spec_l2Graded: function 137 -/
mutual
def spec_l2Graded.l0 : Nat → List Int → Int → Bool → Int → Option (Bool)
 | 0, _, _, _, _ => none
 | k + 1, x0, x1, x2, x7 => if x7 < (x0.length : Int) then (if 0 ≤ x7 then ((spec_l2Kids.f k (rd x0 x7)).bind fun t169 => (if t169 > 0 then (spec_l2Graded.j1 k x0 x1 x2 x7 (decide ((rd x0 x7) > 2))) else (spec_l2Graded.j1 k x0 x1 x2 x7 false))) else (none)) else (some true)
def spec_l2Graded.j1 : Nat → List Int → Int → Bool → Int → Bool → Option (Bool)
 | 0, _, _, _, _, _ => none
 | k + 1, x0, x1, x2, x7, x27 => if x27 = true then (if 0 ≤ x7 then (if x7 < (x0.length : Int) then ((spec_l2Grade.f (rd x0 x7)).bind fun t172 => (if t172 ≥ x1 then (some false) else (if x2 = true then (if t172 < 0 then (some false) else (spec_l2Graded.l0 k x0 x1 x2 (wrap64 (x7 + 1)))) else (spec_l2Graded.l0 k x0 x1 x2 (wrap64 (x7 + 1)))))) else (none)) else (none)) else (spec_l2Graded.l0 k x0 x1 x2 (wrap64 (x7 + 1)))
end
def spec_l2Graded.f (k : Nat) (l0 : List Int) (a1 : Int) (a2 : Bool) : Option (Bool) := spec_l2Graded.l0 k l0 a1 a2 0
set_option maxHeartbeats 8000000 in
set_option maxRecDepth 100000 in
theorem spec_l2Graded.calls (k : Nat) (A0 : Option Addr) (c0 : Nat) (l0 : List Int) (a1 : Int) (a2 : Bool) (r : Bool) (w : World) (hr0 : Kd.C (Kd.int .i64) w A0 l0.length l0) (hc0 : l0.length ≤ c0) (h : spec_l2Graded.f k l0 a1 a2 = some r) :
  Calls Try.prog 137 #[.slice A0 l0.length c0, .int .i64 a1, .bool a2] w fun e w' => e = .returned (.bool r) ∧ Drawn0 w w' := by
 have HR0 := sd_ hr0
 have HC0 := sd_ hc0
 clear hr0 hc0
 have H : (spec_l2Graded.l0 k l0 a1 a2 0) = some r := h
 clear h
 have H' := sd_ H
 clear H
 go_enter Try.func137, Try.ntmps137
 go_wp2
 go_loopg [7] k (fun kq v7 w' => ∃ (x7_1 : Int), v7 = .int .i64 x7_1 ∧ Aside0 (spec_l2Graded.l0 kq l0 a1 a2 x7_1 = some r) ∧ Aside0 (kq ≤ k) ∧ Drawn0 w w')
 case atStart => exact ⟨(0), sm_, H', ⟨Nat.le_refl _⟩, by repeat (first | exact Drawn0.refl _ | apply Drawn0.step)⟩
 case round =>
  clear H'
  try clear c1
  try clear p2
  obtain ⟨x7_1, rfl, HA, HK1, ⟨m1, rfl⟩⟩ := hrel
  cases gk with
  | zero => exact absurd HA.out (by simp [spec_l2Graded.l0])
  | succ k1 =>
   have H := HA.out
   clear HA
   simp only [spec_l2Graded.l0] at H
   by_cases c4 : x7_1 < (l0.length : Int)
   ·rw [if_pos c4] at H
    have c4b0 : decide (x7_1 < (l0.length : Int)) = true := decide_eq_true c4
    clear c4
    have HC5 := sd_ H
    clear H
    go_upto_region 4 with (fail)
    go_cut [27] (fun v27 wc => ∃ (kq : Nat) (x27_4 : Bool), v27 = .bool x27_4 ∧ Aside0 (spec_l2Graded.j1 kq l0 a1 a2 x7_1 x27_4 = some r) ∧ Aside0 (kq ≤ k1) ∧ Drawn0 w wc)
    case first =>
     have H := HC5.out
     clear HC5
     by_cases c6 : 0 ≤ x7_1
     ·rw [if_pos c6] at H
      have c6b0 : decide (0 ≤ x7_1) = true := decide_eq_true c6
      clear c6
      (first | rw [c6b0] | (simp only [i64_w, i32_w]; rw [c6b0]) | skip)
      replace H := Option.bind_eq_some_iff.mp H
      obtain ⟨t169, A70, H⟩ := H
      try dsimp only at H
      have A7 := sd_ A70
      clear A70
      by_cases c8 : t169 > 0
      ·rw [if_pos c8] at H
       have c8b0 : decide (0 < t169) = true := decide_eq_true c8
       clear c8
       have H' := sd_ H
       clear H
       have p168 : 0 ≤ (x7_1 : Int) := dt_
       have q168 : x7_1 < (l0.length : Int) := dt_
       obtain ⟨ad168, e168, hx168_0⟩ := Kd.at_int HR0.out x7_1 p168 q168
       cases e168
       replace p168 := eq_true p168
       replace q168 := eq_true q168
       go_wp2_with (first | ((with_reducible refine gate_callee (f := 114) rfl ?_); refine goesL_ (some 19) rfl rfl Try.func114 (by kernel_rfl) rfl #[.int .i64 (rd l0 x7_1)] rfl la_ ?_; (with_reducible refine (spec_l2Kids.calls k1 (rd l0 x7_1) t169 _ A7.out).mono ?_); rintro e w' ⟨rfl, ⟨nd, rfl⟩⟩; refine ⟨_, rfl, ?_⟩; have p170 : 0 ≤ (x7_1 : Int) := dt_; have q170 : x7_1 < (l0.length : Int) := dt_; obtain ⟨ad170, e170, hx170_0⟩ := Kd.at_int HR0.out x7_1 p170 q170; obtain rfl : ad168 = ad170 := (by injection e170); replace p170 := eq_true p170; replace q170 := eq_true q170))
       go_meet
       case rel => exact ⟨_, (decide ((rd l0 x7_1) > 2)), sm_, H', ⟨by have := HK1.out; first | omega | exact Nat.le_refl _⟩, by repeat (first | exact Drawn0.refl _ | apply Drawn0.step)⟩
      rw [if_neg c8] at H
      have c8b0 : decide (0 < t169) = false := decide_eq_false c8
      clear c8
      have H' := sd_ H
      clear H
      have p168 : 0 ≤ (x7_1 : Int) := dt_
      have q168 : x7_1 < (l0.length : Int) := dt_
      obtain ⟨ad168, e168, hx168_0⟩ := Kd.at_int HR0.out x7_1 p168 q168
      cases e168
      replace p168 := eq_true p168
      replace q168 := eq_true q168
      go_wp2_with (first | ((with_reducible refine gate_callee (f := 114) rfl ?_); refine goesL_ (some 19) rfl rfl Try.func114 (by kernel_rfl) rfl #[.int .i64 (rd l0 x7_1)] rfl la_ ?_; (with_reducible refine (spec_l2Kids.calls k1 (rd l0 x7_1) t169 _ A7.out).mono ?_); rintro e w' ⟨rfl, ⟨nd, rfl⟩⟩; refine ⟨_, rfl, ?_⟩))
      go_meet
      case rel => exact ⟨_, (false), sm_, H', ⟨by have := HK1.out; first | omega | exact Nat.le_refl _⟩, by repeat (first | exact Drawn0.refl _ | apply Drawn0.step)⟩
     rw [if_neg c6] at H
     exact absurd H (by simp)
    case rest =>
     clear HC5
     try clear c1
     try clear p2
     try clear c4
     try clear c4b0
     try clear p2
     obtain ⟨kq, x27_4, rfl, HA, HJ4, ⟨mc4, rfl⟩⟩ := hcut
     cases kq with
     | zero => exact absurd HA.out (by simp [spec_l2Graded.j1])
     | succ kj4 =>
      have H := HA.out
      clear HA
      simp only [spec_l2Graded.j1] at H
      by_cases c9 : x27_4 = true
      ·subst c9
       have H1 : (if 0 ≤ x7_1 then (if x7_1 < (l0.length : Int) then ((spec_l2Grade.f (rd l0 x7_1)).bind fun t172 => (if t172 ≥ a1 then (some false) else (if a2 = true then (if t172 < 0 then (some false) else (spec_l2Graded.l0 kj4 l0 a1 a2 (wrap64 (x7_1 + 1)))) else (spec_l2Graded.l0 kj4 l0 a1 a2 (wrap64 (x7_1 + 1)))))) else (none)) else (none)) = some r := by rw [if_pos rfl] at H; exact H
       clear H
       have H := H1
       clear H1
       by_cases c10 : 0 ≤ x7_1
       ·rw [if_pos c10] at H
        have c10b0 : decide (0 ≤ x7_1) = true := decide_eq_true c10
        clear c10
        by_cases c11 : x7_1 < (l0.length : Int)
        ·rw [if_pos c11] at H
         have c11b0 : decide (x7_1 < (l0.length : Int)) = true := decide_eq_true c11
         clear c11
         replace H := Option.bind_eq_some_iff.mp H
         obtain ⟨t172, A120, H⟩ := H
         try dsimp only at H
         have A12 := sd_ A120
         clear A120
         by_cases c13 : t172 ≥ a1
         ·rw [if_pos c13] at H
          have c13b0 : decide (a1 ≤ t172) = true := decide_eq_true c13
          clear c13
          obtain rfl := Option.some.inj H
          have p171 : 0 ≤ (x7_1 : Int) := dt_
          have q171 : x7_1 < (l0.length : Int) := dt_
          obtain ⟨ad171, e171, hx171_0⟩ := Kd.at_int HR0.out x7_1 p171 q171
          cases e171
          replace p171 := eq_true p171
          replace q171 := eq_true q171
          go_wp2_with (first | ((with_reducible refine gate_callee (f := 115) rfl ?_); refine goesL_ (some 32) rfl rfl Try.func115 (by kernel_rfl) rfl #[.int .i64 (rd l0 x7_1)] rfl la_ ?_; (with_reducible refine (spec_l2Grade.calls (rd l0 x7_1) t172 _ A12.out).mono ?_); rintro e w' ⟨rfl, ⟨nd, rfl⟩⟩; refine ⟨_, rfl, ?_⟩))
          go_ret
          exact ⟨by first | rfl | (simp; done) | (simp [*]; done), by repeat (first | exact Drawn0.refl _ | apply Drawn0.step)⟩
         rw [if_neg c13] at H
         have c13b0 : decide (a1 ≤ t172) = false := decide_eq_false c13
         clear c13
         by_cases c14 : a2 = true
         ·subst c14
          have H1 : (if t172 < 0 then (some false) else (spec_l2Graded.l0 kj4 l0 a1 true (wrap64 (x7_1 + 1)))) = some r := by rw [if_pos rfl] at H; exact H
          clear H
          have H := H1
          clear H1
          by_cases c15 : t172 < 0
          ·rw [if_pos c15] at H
           have c15b0 : decide (t172 < 0) = true := decide_eq_true c15
           clear c15
           obtain rfl := Option.some.inj H
           have p171 : 0 ≤ (x7_1 : Int) := dt_
           have q171 : x7_1 < (l0.length : Int) := dt_
           obtain ⟨ad171, e171, hx171_0⟩ := Kd.at_int HR0.out x7_1 p171 q171
           cases e171
           replace p171 := eq_true p171
           replace q171 := eq_true q171
           go_wp2_with (first | ((with_reducible refine gate_callee (f := 115) rfl ?_); refine goesL_ (some 32) rfl rfl Try.func115 (by kernel_rfl) rfl #[.int .i64 (rd l0 x7_1)] rfl la_ ?_; (with_reducible refine (spec_l2Grade.calls (rd l0 x7_1) t172 _ A12.out).mono ?_); rintro e w' ⟨rfl, ⟨nd, rfl⟩⟩; refine ⟨_, rfl, ?_⟩))
           go_ret
           exact ⟨by first | rfl | (simp; done) | (simp [*]; done), by repeat (first | exact Drawn0.refl _ | apply Drawn0.step)⟩
          rw [if_neg c15] at H
          have c15b0 : decide (t172 < 0) = false := decide_eq_false c15
          clear c15
          have H' := sd_ H
          clear H
          have p171 : 0 ≤ (x7_1 : Int) := dt_
          have q171 : x7_1 < (l0.length : Int) := dt_
          obtain ⟨ad171, e171, hx171_0⟩ := Kd.at_int HR0.out x7_1 p171 q171
          cases e171
          replace p171 := eq_true p171
          replace q171 := eq_true q171
          go_wp2_with (first | ((with_reducible refine gate_callee (f := 115) rfl ?_); refine goesL_ (some 32) rfl rfl Try.func115 (by kernel_rfl) rfl #[.int .i64 (rd l0 x7_1)] rfl la_ ?_; (with_reducible refine (spec_l2Grade.calls (rd l0 x7_1) t172 _ A12.out).mono ?_); rintro e w' ⟨rfl, ⟨nd, rfl⟩⟩; refine ⟨_, rfl, ?_⟩))
          go_roundg kj4
          case measure => have := HK1.out; have := HJ4.out; omega
          case rel => exact ⟨(wrap64 (x7_1 + 1)), sm_, H', ⟨by have := HK1.out; have := HJ4.out; omega⟩, by repeat (first | exact Drawn0.refl _ | apply Drawn0.step)⟩
         replace c14 := Bool.eq_false_iff.mpr c14
         subst c14
         have H1 : (spec_l2Graded.l0 kj4 l0 a1 false (wrap64 (x7_1 + 1))) = some r := by rw [if_neg (show ¬ (false = true) by decide)] at H; exact H
         clear H
         have H := H1
         clear H1
         have H' := sd_ H
         clear H
         have p171 : 0 ≤ (x7_1 : Int) := dt_
         have q171 : x7_1 < (l0.length : Int) := dt_
         obtain ⟨ad171, e171, hx171_0⟩ := Kd.at_int HR0.out x7_1 p171 q171
         cases e171
         replace p171 := eq_true p171
         replace q171 := eq_true q171
         go_wp2_with (first | ((with_reducible refine gate_callee (f := 115) rfl ?_); refine goesL_ (some 32) rfl rfl Try.func115 (by kernel_rfl) rfl #[.int .i64 (rd l0 x7_1)] rfl la_ ?_; (with_reducible refine (spec_l2Grade.calls (rd l0 x7_1) t172 _ A12.out).mono ?_); rintro e w' ⟨rfl, ⟨nd, rfl⟩⟩; refine ⟨_, rfl, ?_⟩))
         go_roundg kj4
         case measure => have := HK1.out; have := HJ4.out; omega
         case rel => exact ⟨(wrap64 (x7_1 + 1)), sm_, H', ⟨by have := HK1.out; have := HJ4.out; omega⟩, by repeat (first | exact Drawn0.refl _ | apply Drawn0.step)⟩
        rw [if_neg c11] at H
        exact absurd H (by simp)
       rw [if_neg c10] at H
       exact absurd H (by simp)
      replace c9 := Bool.eq_false_iff.mpr c9
      subst c9
      have H1 : (spec_l2Graded.l0 kj4 l0 a1 a2 (wrap64 (x7_1 + 1))) = some r := by rw [if_neg (show ¬ (false = true) by decide)] at H; exact H
      clear H
      have H := H1
      clear H1
      have H' := sd_ H
      clear H
      go_wp2
      go_roundg kj4
      case measure => have := HK1.out; have := HJ4.out; omega
      case rel => exact ⟨(wrap64 (x7_1 + 1)), sm_, H', ⟨by have := HK1.out; have := HJ4.out; omega⟩, by repeat (first | exact Drawn0.refl _ | apply Drawn0.step)⟩
   rw [if_neg c4] at H
   have c4b0 : decide (x7_1 < (l0.length : Int)) = false := decide_eq_false c4
   clear c4
   obtain rfl := Option.some.inj H
   go_wp2
   go_ret
   exact ⟨by first | rfl | (simp; done) | (simp [*]; done), by repeat (first | exact Drawn0.refl _ | apply Drawn0.step)⟩


/-! ### impl_typeEnd: function 140 -/
mutual
def impl_typeEnd.j0 : Nat → List Int → Int → Bool → Option (Int)
 | 0, _, _, _ => none
 | k + 1, x0, x1, x14 => if x14 = true then (some (-1)) else (if 0 ≤ x1 then (if x1 < (x0.length : Int) then ((impl_shape.f (rd x0 x1)).bind fun bt255 => (if bt255.1 = 0 then (some (wrap64 (x1 + 1))) else (if bt255.1 = 4 then ((impl_typeEnd.f k x0 (wrap64 (x1 + 1))).bind fun t257 => (some t257)) else (if bt255.1 = 5 then (some (-1)) else ((impl_typeEnd.f k x0 (wrap64 (x1 + 1))).bind fun t258 => ((impl_typeEnd.f k x0 t258).bind fun t259 => (some t259))))))) else (none)) else (none))
def impl_typeEnd.f : Nat → List Int → Int → Option (Int)
 | 0, _, _ => none
 | k + 1, l0, a1 => if a1 < 0 then (impl_typeEnd.j0 k l0 a1 true) else (impl_typeEnd.j0 k l0 a1 (decide (a1 ≥ (l0.length : Int))))
end
set_option maxHeartbeats 8000000 in
set_option maxRecDepth 100000 in
theorem impl_typeEnd.calls (k : Nat) : ∀ (A0 : Option Addr) (c0 : Nat) (l0 : List Int) (a1 : Int) (r : Int) (w : World) (hr0 : Kd.C (Kd.int .i64) w A0 l0.length l0) (hc0 : l0.length ≤ c0) (h : impl_typeEnd.f k l0 a1 = some r),
  Calls Try.prog 140 #[.slice A0 l0.length c0, .int .i64 a1] w fun e w' => e = .returned (.int .i64 r) ∧ Drawn0 w w' := by
 induction k using Nat.strongRecOn with
 | _ k ih =>
 intro A0 c0 l0 a1 r w hr0 hc0 h
 cases k with
 | zero => exact absurd h (by simp [impl_typeEnd.f])
 | succ k =>
 simp only [impl_typeEnd.f] at h
 have HR0 := sd_ hr0
 have HC0 := sd_ hc0
 clear hr0 hc0
 have H : (if a1 < 0 then (impl_typeEnd.j0 k l0 a1 true) else (impl_typeEnd.j0 k l0 a1 (decide (a1 ≥ (l0.length : Int))))) = some r := h
 clear h
 have HC3 := sd_ H
 clear H
 go_enter Try.func140, Try.ntmps140
 go_upto_region 1 with (fail)
 go_cut [14] (fun v14 wc => ∃ (kq : Nat) (x14_2 : Bool), v14 = .bool x14_2 ∧ Aside0 (impl_typeEnd.j0 kq l0 a1 x14_2 = some r) ∧ Aside0 (kq ≤ k) ∧ Drawn0 w wc)
 case first =>
  have H := HC3.out
  clear HC3
  by_cases c4 : a1 < 0
  ·rw [if_pos c4] at H
   have c4b0 : decide (a1 < 0) = true := decide_eq_true c4
   clear c4
   (first | rw [c4b0] | (simp only [i64_w, i32_w]; rw [c4b0]) | skip)
   have H' := sd_ H
   clear H
   go_wp2
   go_meet
   case rel => exact ⟨_, (true), sm_, H', ⟨by first | omega | exact Nat.le_refl _⟩, by repeat (first | exact Drawn0.refl _ | apply Drawn0.step)⟩
  rw [if_neg c4] at H
  have c4b0 : decide (a1 < 0) = false := decide_eq_false c4
  clear c4
  (first | rw [c4b0] | (simp only [i64_w, i32_w]; rw [c4b0]) | skip)
  have H' := sd_ H
  clear H
  go_wp2
  go_meet
  case rel => exact ⟨_, (decide (a1 ≥ (l0.length : Int))), sm_, H', ⟨by first | omega | exact Nat.le_refl _⟩, by repeat (first | exact Drawn0.refl _ | apply Drawn0.step)⟩
 case rest =>
  clear HC3
  try clear c1
  obtain ⟨kq, x14_2, rfl, HA, HJ2, ⟨mc2, rfl⟩⟩ := hcut
  cases kq with
  | zero => exact absurd HA.out (by simp [impl_typeEnd.j0])
  | succ kj2 =>
   have H := HA.out
   clear HA
   simp only [impl_typeEnd.j0] at H
   by_cases c5 : x14_2 = true
   ·subst c5
    have H1 : (some (-1)) = some r := by rw [if_pos rfl] at H; exact H
    clear H
    have H := H1
    clear H1
    obtain rfl := Option.some.inj H
    go_wp2
    go_ret
    exact ⟨by first | rfl | (simp; done) | (simp [*]; done), by repeat (first | exact Drawn0.refl _ | apply Drawn0.step)⟩
   replace c5 := Bool.eq_false_iff.mpr c5
   subst c5
   have H1 : (if 0 ≤ a1 then (if a1 < (l0.length : Int) then ((impl_shape.f (rd l0 a1)).bind fun bt255 => (if bt255.1 = 0 then (some (wrap64 (a1 + 1))) else (if bt255.1 = 4 then ((impl_typeEnd.f kj2 l0 (wrap64 (a1 + 1))).bind fun t257 => (some t257)) else (if bt255.1 = 5 then (some (-1)) else ((impl_typeEnd.f kj2 l0 (wrap64 (a1 + 1))).bind fun t258 => ((impl_typeEnd.f kj2 l0 t258).bind fun t259 => (some t259))))))) else (none)) else (none)) = some r := by rw [if_neg (show ¬ (false = true) by decide)] at H; exact H
   clear H
   have H := H1
   clear H1
   by_cases c6 : 0 ≤ a1
   ·rw [if_pos c6] at H
    have c6b0 : decide (0 ≤ a1) = true := decide_eq_true c6
    clear c6
    by_cases c7 : a1 < (l0.length : Int)
    ·rw [if_pos c7] at H
     have c7b0 : decide (a1 < (l0.length : Int)) = true := decide_eq_true c7
     clear c7
     replace H := Option.bind_eq_some_iff.mp H
     obtain ⟨⟨t255, t256⟩, A80, H⟩ := H
     try dsimp only at H
     have A8 := sd_ A80
     clear A80
     by_cases c9 : t255 = 0
     ·rw [if_pos c9] at H
      have c9b0 : (t255 == 0) = true := beq_iff_eq.mpr c9
      have c9b1 : (t255 != 0) = false := bne_eq_false_iff_eq.mpr c9
      clear c9
      obtain rfl := Option.some.inj H
      have p254 : 0 ≤ (a1 : Int) := dt_
      have q254 : a1 < (l0.length : Int) := dt_
      obtain ⟨ad254, e254, hx254_0⟩ := Kd.at_int HR0.out a1 p254 q254
      cases e254
      replace p254 := eq_true p254
      replace q254 := eq_true q254
      go_wp2_with (first | ((with_reducible refine gate_callee (f := 122) rfl ?_); refine goesL_ (some 20) rfl rfl Try.func122 (by kernel_rfl) rfl #[.int .i64 (rd l0 a1)] rfl la_ ?_; (with_reducible refine (impl_shape.calls (rd l0 a1) t255 t256 _ A8.out).mono ?_); rintro e w' ⟨rfl, ⟨nd, rfl⟩⟩; refine ⟨_, rfl, ?_⟩))
      go_ret
      exact ⟨by first | rfl | (simp; done) | (simp [*]; done), by repeat (first | exact Drawn0.refl _ | apply Drawn0.step)⟩
     rw [if_neg c9] at H
     have c9b0 : (t255 == 0) = false := beq_eq_false_iff_ne.mpr c9
     have c9b1 : (t255 != 0) = true := bne_iff_ne.mpr c9
     by_cases c10 : t255 = 4
     ·rw [if_pos c10] at H
      have c10b0 : (t255 == 4) = true := beq_iff_eq.mpr c10
      have c10b1 : (t255 != 4) = false := bne_eq_false_iff_eq.mpr c10
      clear c10
      replace H := Option.bind_eq_some_iff.mp H
      obtain ⟨t257, A110, H⟩ := H
      try dsimp only at H
      have A11 := sd_ A110
      clear A110
      obtain rfl := Option.some.inj H
      have p254 : 0 ≤ (a1 : Int) := dt_
      have q254 : a1 < (l0.length : Int) := dt_
      obtain ⟨ad254, e254, hx254_0⟩ := Kd.at_int HR0.out a1 p254 q254
      cases e254
      replace p254 := eq_true p254
      replace q254 := eq_true q254
      go_wp2_with (first | ((with_reducible refine gate_callee (f := 122) rfl ?_); refine goesL_ (some 20) rfl rfl Try.func122 (by kernel_rfl) rfl #[.int .i64 (rd l0 a1)] rfl la_ ?_; (with_reducible refine (impl_shape.calls (rd l0 a1) t255 t256 _ A8.out).mono ?_); rintro e w' ⟨rfl, ⟨nd, rfl⟩⟩; refine ⟨_, rfl, ?_⟩) | ((with_reducible refine gate_callee (f := 140) rfl ?_); refine goesL_ (some 33) rfl rfl Try.func140 (by kernel_rfl) rfl #[.slice (some ad254) l0.length c0, .int .i64 (wrap64 (a1 + 1))] rfl la_ ?_; (with_reducible refine (ih kj2 (by have := HJ2.out; omega) _ _ l0 (wrap64 (a1 + 1)) t257 _ ?side1 ?side2 A11.out).mono ?_); (case side1 => exact kp_ HR0.out); (case side2 => exact HC0.out); rintro e w' ⟨rfl, ⟨nd, rfl⟩⟩; refine ⟨_, rfl, ?_⟩))
      go_ret
      exact ⟨by first | rfl | (simp; done) | (simp [*]; done), by repeat (first | exact Drawn0.refl _ | apply Drawn0.step)⟩
     rw [if_neg c10] at H
     have c10b0 : (t255 == 4) = false := beq_eq_false_iff_ne.mpr c10
     have c10b1 : (t255 != 4) = true := bne_iff_ne.mpr c10
     by_cases c12 : t255 = 5
     ·rw [if_pos c12] at H
      have c12b0 : (t255 == 5) = true := beq_iff_eq.mpr c12
      have c12b1 : (t255 != 5) = false := bne_eq_false_iff_eq.mpr c12
      clear c12
      obtain rfl := Option.some.inj H
      have p254 : 0 ≤ (a1 : Int) := dt_
      have q254 : a1 < (l0.length : Int) := dt_
      obtain ⟨ad254, e254, hx254_0⟩ := Kd.at_int HR0.out a1 p254 q254
      cases e254
      replace p254 := eq_true p254
      replace q254 := eq_true q254
      go_wp2_with (first | ((with_reducible refine gate_callee (f := 122) rfl ?_); refine goesL_ (some 20) rfl rfl Try.func122 (by kernel_rfl) rfl #[.int .i64 (rd l0 a1)] rfl la_ ?_; (with_reducible refine (impl_shape.calls (rd l0 a1) t255 t256 _ A8.out).mono ?_); rintro e w' ⟨rfl, ⟨nd, rfl⟩⟩; refine ⟨_, rfl, ?_⟩))
      go_ret
      exact ⟨by first | rfl | (simp; done) | (simp [*]; done), by repeat (first | exact Drawn0.refl _ | apply Drawn0.step)⟩
     rw [if_neg c12] at H
     have c12b0 : (t255 == 5) = false := beq_eq_false_iff_ne.mpr c12
     have c12b1 : (t255 != 5) = true := bne_iff_ne.mpr c12
     replace H := Option.bind_eq_some_iff.mp H
     obtain ⟨t258, A130, H⟩ := H
     try dsimp only at H
     have A13 := sd_ A130
     clear A130
     replace H := Option.bind_eq_some_iff.mp H
     obtain ⟨t259, A140, H⟩ := H
     try dsimp only at H
     have A14 := sd_ A140
     clear A140
     obtain rfl := Option.some.inj H
     have p254 : 0 ≤ (a1 : Int) := dt_
     have q254 : a1 < (l0.length : Int) := dt_
     obtain ⟨ad254, e254, hx254_0⟩ := Kd.at_int HR0.out a1 p254 q254
     cases e254
     replace p254 := eq_true p254
     replace q254 := eq_true q254
     go_wp2_with (first | ((with_reducible refine gate_callee (f := 122) rfl ?_); refine goesL_ (some 20) rfl rfl Try.func122 (by kernel_rfl) rfl #[.int .i64 (rd l0 a1)] rfl la_ ?_; (with_reducible refine (impl_shape.calls (rd l0 a1) t255 t256 _ A8.out).mono ?_); rintro e w' ⟨rfl, ⟨nd, rfl⟩⟩; refine ⟨_, rfl, ?_⟩) | ((with_reducible refine gate_callee (f := 140) rfl ?_); refine goesL_ (some 40) rfl rfl Try.func140 (by kernel_rfl) rfl #[.slice (some ad254) l0.length c0, .int .i64 (wrap64 (a1 + 1))] rfl la_ ?_; (with_reducible refine (ih kj2 (by have := HJ2.out; omega) _ _ l0 (wrap64 (a1 + 1)) t258 _ ?side1 ?side2 A13.out).mono ?_); (case side1 => exact kp_ HR0.out); (case side2 => exact HC0.out); rintro e w' ⟨rfl, ⟨nd, rfl⟩⟩; refine ⟨_, rfl, ?_⟩) | ((with_reducible refine gate_callee (f := 140) rfl ?_); refine goesL_ (some 41) rfl rfl Try.func140 (by kernel_rfl) rfl #[.slice (some ad254) l0.length c0, .int .i64 t258] rfl la_ ?_; (with_reducible refine (ih kj2 (by have := HJ2.out; omega) _ _ l0 t258 t259 _ ?side1 ?side2 A14.out).mono ?_); (case side1 => exact kp_ HR0.out); (case side2 => exact HC0.out); rintro e w' ⟨rfl, ⟨nd, rfl⟩⟩; refine ⟨_, rfl, ?_⟩))
     go_ret
     exact ⟨by first | rfl | (simp; done) | (simp [*]; done), by repeat (first | exact Drawn0.refl _ | apply Drawn0.step)⟩
    rw [if_neg c7] at H
    exact absurd H (by simp)
   rw [if_neg c6] at H
   exact absurd H (by simp)


/-! ### impl_isWrittenType: function 120 -/
def impl_isWrittenType.f (k : Nat) (l0 : List Int) : Option (Bool) := (impl_within.f (l0.length : Int) 1 40).bind fun t260 => (if t260 = true then ((impl_typeEnd.f k l0 0).bind fun t261 => (some (t261 == (l0.length : Int)))) else (some false))
set_option maxHeartbeats 8000000 in
set_option maxRecDepth 100000 in
theorem impl_isWrittenType.calls (k : Nat) (A0 : Option Addr) (c0 : Nat) (l0 : List Int) (r : Bool) (w : World) (hr0 : Kd.C (Kd.int .i64) w A0 l0.length l0) (hc0 : l0.length ≤ c0) (h : impl_isWrittenType.f k l0 = some r) :
  Calls Try.prog 120 #[.slice A0 l0.length c0] w fun e w' => e = .returned (.bool r) ∧ Drawn0 w w' := by
 have HR0 := sd_ hr0
 have HC0 := sd_ hc0
 clear hr0 hc0
 have H : ((impl_within.f (l0.length : Int) 1 40).bind fun t260 => (if t260 = true then ((impl_typeEnd.f k l0 0).bind fun t261 => (some (t261 == (l0.length : Int)))) else (some false))) = some r := h
 clear h
 replace H := Option.bind_eq_some_iff.mp H
 obtain ⟨t260, A20, H⟩ := H
 try dsimp only at H
 have A2 := sd_ A20
 clear A20
 by_cases c3 : t260 = true
 ·subst c3
  have H1 : ((impl_typeEnd.f k l0 0).bind fun t261 => (some (t261 == (l0.length : Int)))) = some r := by rw [if_pos rfl] at H; exact H
  clear H
  have H := H1
  clear H1
  replace H := Option.bind_eq_some_iff.mp H
  obtain ⟨t261, A40, H⟩ := H
  try dsimp only at H
  have A4 := sd_ A40
  clear A40
  obtain rfl := Option.some.inj H
  go_enter Try.func120, Try.ntmps120
  go_wp2_with (first | ((with_reducible refine gate_callee (f := 104) rfl ?_); refine goesL_ (some 5) rfl rfl Try.func104 (by kernel_rfl) rfl #[.int .i64 (l0.length : Int), .int .i64 1, .int .i64 40] rfl la_ ?_; (with_reducible refine (impl_within.calls (l0.length : Int) 1 40 true _ A2.out).mono ?_); rintro e w' ⟨rfl, ⟨nd, rfl⟩⟩; refine ⟨_, rfl, ?_⟩) | (go_at_call 140; (with_reducible refine (impl_typeEnd.calls k _ _ l0 0 t261 _ (kp_ HR0.out) HC0.out A4.out).mono ?_); rintro e w' ⟨rfl, ⟨nd, rfl⟩⟩))
  go_ret
  exact ⟨by first | rfl | (simp; done) | (simp [*]; done), by repeat (first | exact Drawn0.refl _ | apply Drawn0.step)⟩
 replace c3 := Bool.eq_false_iff.mpr c3
 subst c3
 have H1 : (some false) = some r := by rw [if_neg (show ¬ (false = true) by decide)] at H; exact H
 clear H
 have H := H1
 clear H1
 obtain rfl := Option.some.inj H
 go_enter Try.func120, Try.ntmps120
 go_wp2_with (first | ((with_reducible refine gate_callee (f := 104) rfl ?_); refine goesL_ (some 5) rfl rfl Try.func104 (by kernel_rfl) rfl #[.int .i64 (l0.length : Int), .int .i64 1, .int .i64 40] rfl la_ ?_; (with_reducible refine (impl_within.calls (l0.length : Int) 1 40 false _ A2.out).mono ?_); rintro e w' ⟨rfl, ⟨nd, rfl⟩⟩; refine ⟨_, rfl, ?_⟩))
 go_ret
 exact ⟨by first | rfl | (simp; done) | (simp [*]; done), by repeat (first | exact Drawn0.refl _ | apply Drawn0.step)⟩

end Go.Proofs.Ytipfkicndjddgaa.P
end
