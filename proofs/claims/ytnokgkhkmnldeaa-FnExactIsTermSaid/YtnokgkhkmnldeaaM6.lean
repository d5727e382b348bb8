-- Several texts in one (wip/tools/merge.py).
import Derived.Test.YtnokgkhkmnldeaaM1
import Derived.Test.YtnokgkhkmnldeaaM2
import Derived.Test.YtnokgkhkmnldeaaM5
import Derived.Test.YtnokgkhkmnldeaaM4
section
namespace Go.Proofs.Ytnokgkhkmnldeaa.P
open Go.RowKit Go.Proofs.YtnokgkhkmnldeaaW.PrintWords Go.Proofs.YtnokgkhkmnldeaaW.PrintLast Go.Proofs.YtnokgkhkmnldeaaW.PrintMore
attribute [local go_sem] max2_int min2_int max_two min_two max_three min_three max_four min_four   -- for this text's walks alone
set_option linter.unusedVariables false
set_option linter.unusedSimpArgs false

/-! ### spec_l2Kids: function 47 -/
def spec_l2Kids.j0 : Nat → Int → Bool → Option (Int)
 | 0, _, _ => none
 | k + 1, x0, x6 => if x6 = true then (some 2) else ((spec_l2Box.f x0).bind fun t104 => (if t104 = true then (some 1) else (some (-1))))
def spec_l2Kids.f (k : Nat) (a0 : Int) : Option (Int) := if a0 = 0 then (some 0) else (if a0 = 1 then (spec_l2Kids.j0 k a0 true) else (if a0 = 2 then (spec_l2Kids.j0 k a0 true) else ((spec_l2Arrow.f a0).bind fun t103 => (spec_l2Kids.j0 k a0 t103))))
set_option maxHeartbeats 8000000 in
set_option maxRecDepth 100000 in
theorem spec_l2Kids.calls (k : Nat) (a0 : Int) (r : Int) (w : World) (h : spec_l2Kids.f k a0 = some r) :
  Calls Try.prog 47 #[.int .i64 a0] w fun e w' => e = .returned (.int .i64 r) ∧ Drawn0 w w' := by
 have H : (if a0 = 0 then (some 0) else (if a0 = 1 then (spec_l2Kids.j0 k a0 true) else (if a0 = 2 then (spec_l2Kids.j0 k a0 true) else ((spec_l2Arrow.f a0).bind fun t103 => (spec_l2Kids.j0 k a0 t103))))) = some r := h
 clear h
 by_cases c2 : a0 = 0
 ·rw [if_pos c2] at H
  have c2b0 : (a0 == 0) = true := beq_iff_eq.mpr c2
  have c2b1 : (a0 != 0) = false := bne_eq_false_iff_eq.mpr c2
  clear c2
  obtain rfl := Option.some.inj H
  go_enter Try.func47, Try.ntmps47
  go_wp2
  go_ret
  exact ⟨by first | rfl | (simp; done) | (simp [*]; done), by repeat (first | exact Drawn0.refl _ | apply Drawn0.step)⟩
 ·rw [if_neg c2] at H
  have c2b0 : (a0 == 0) = false := beq_eq_false_iff_ne.mpr c2
  have c2b1 : (a0 != 0) = true := bne_iff_ne.mpr c2
  have HC3 := sd_ H
  clear H
  go_enter Try.func47, Try.ntmps47
  go_upto_region 3 with (fail)
  go_cut [6] (fun v6 wc => ∃ (kq : Nat) (x6_2 : Bool), v6 = .bool x6_2 ∧ Aside0 (spec_l2Kids.j0 kq a0 x6_2 = some r) ∧ Aside0 (kq ≤ k) ∧ Drawn0 w wc)
  case first =>
   have H := HC3.out
   clear HC3
   by_cases c4 : a0 = 1
   ·rw [if_pos c4] at H
    have c4b0 : (a0 == 1) = true := beq_iff_eq.mpr c4
    have c4b1 : (a0 != 1) = false := bne_eq_false_iff_eq.mpr c4
    clear c4
    (first | rw [c4b0] | (simp only [i64_w, i32_w]; rw [c4b0]) | skip)
    have H' := sd_ H
    clear H
    go_wp2
    go_meet
    case rel => exact ⟨_, (true), (by first | rfl | (simp; done) | (simp [*]; done)), H', ⟨by first | omega | exact Nat.le_refl _⟩, by repeat (first | exact Drawn0.refl _ | apply Drawn0.step)⟩
   ·rw [if_neg c4] at H
    have c4b0 : (a0 == 1) = false := beq_eq_false_iff_ne.mpr c4
    have c4b1 : (a0 != 1) = true := bne_iff_ne.mpr c4
    (first | rw [c4b0] | (simp only [i64_w, i32_w]; rw [c4b0]) | skip)
    by_cases c5 : a0 = 2
    ·rw [if_pos c5] at H
     have c5b0 : (a0 == 2) = true := beq_iff_eq.mpr c5
     have c5b1 : (a0 != 2) = false := bne_eq_false_iff_eq.mpr c5
     clear c5
     have H' := sd_ H
     clear H
     go_wp2
     go_meet
     case rel => exact ⟨_, (true), (by first | rfl | (simp; done) | (simp [*]; done)), H', ⟨by first | omega | exact Nat.le_refl _⟩, by repeat (first | exact Drawn0.refl _ | apply Drawn0.step)⟩
    ·rw [if_neg c5] at H
     have c5b0 : (a0 == 2) = false := beq_eq_false_iff_ne.mpr c5
     have c5b1 : (a0 != 2) = true := bne_iff_ne.mpr c5
     replace H := Option.bind_eq_some_iff.mp H
     obtain ⟨t103, A60, H⟩ := H
     try dsimp only at H
     have A6 := sd_ A60
     clear A60
     have H' := sd_ H
     clear H
     go_wp2_with (first | (go_at_call 55; (with_reducible refine (spec_l2Arrow.calls a0 t103 _ A6.out).mono ?_); rintro e w' ⟨rfl, ⟨nd, rfl⟩⟩))
     go_meet
     case rel => exact ⟨_, (t103), (by first | rfl | (simp; done) | (simp [*]; done)), H', ⟨by first | omega | exact Nat.le_refl _⟩, by repeat (first | exact Drawn0.refl _ | apply Drawn0.step)⟩
  case rest =>
   clear HC3
   try clear c2
   try clear c2b0
   try clear c2b1
   try clear c4
   obtain ⟨kq, x6_2, rfl, HA, HJ2, ⟨mc2, rfl⟩⟩ := hcut
   cases kq with
   | zero => exact absurd HA.out (by simp [spec_l2Kids.j0])
   | succ kj2 =>
    have H := HA.out
    clear HA
    simp only [spec_l2Kids.j0] at H
    by_cases c7 : x6_2 = true
    ·subst c7
     have H1 : (some 2) = some r := by rw [if_pos rfl] at H; exact H
     clear H
     have H := H1
     clear H1
     obtain rfl := Option.some.inj H
     go_wp2
     go_ret
     exact ⟨by first | rfl | (simp; done) | (simp [*]; done), by repeat (first | exact Drawn0.refl _ | apply Drawn0.step)⟩
    ·replace c7 := Bool.eq_false_iff.mpr c7
     subst c7
     have H1 : ((spec_l2Box.f a0).bind fun t104 => (if t104 = true then (some 1) else (some (-1)))) = some r := by rw [if_neg (show ¬ (false = true) by decide)] at H; exact H
     clear H
     have H := H1
     clear H1
     replace H := Option.bind_eq_some_iff.mp H
     obtain ⟨t104, A80, H⟩ := H
     try dsimp only at H
     have A8 := sd_ A80
     clear A80
     by_cases c9 : t104 = true
     ·subst c9
      have H1 : (some 1) = some r := by rw [if_pos rfl] at H; exact H
      clear H
      have H := H1
      clear H1
      obtain rfl := Option.some.inj H
      go_wp2_with (first | ((with_reducible refine gate_callee (f := 83) rfl ?_); refine goesL_ (some 19) rfl rfl Try.func83 (by kernel_rfl) rfl #[.int .i64 a0] rfl (by (try simp only [List.map_toArray, List.map_cons, List.map_nil]); first | done | rfl | (simp only [List.length_drop, List.length_take]; rfl)) ?_; (with_reducible refine (spec_l2Box.calls a0 true _ A8.out).mono ?_); rintro e w' ⟨rfl, ⟨nd, rfl⟩⟩; refine ⟨_, rfl, ?_⟩))
      go_ret
      exact ⟨by first | rfl | (simp; done) | (simp [*]; done), by repeat (first | exact Drawn0.refl _ | apply Drawn0.step)⟩
     ·replace c9 := Bool.eq_false_iff.mpr c9
      subst c9
      have H1 : (some (-1)) = some r := by rw [if_neg (show ¬ (false = true) by decide)] at H; exact H
      clear H
      have H := H1
      clear H1
      obtain rfl := Option.some.inj H
      go_wp2_with (first | ((with_reducible refine gate_callee (f := 83) rfl ?_); refine goesL_ (some 19) rfl rfl Try.func83 (by kernel_rfl) rfl #[.int .i64 a0] rfl (by (try simp only [List.map_toArray, List.map_cons, List.map_nil]); first | done | rfl | (simp only [List.length_drop, List.length_take]; rfl)) ?_; (with_reducible refine (spec_l2Box.calls a0 false _ A8.out).mono ?_); rintro e w' ⟨rfl, ⟨nd, rfl⟩⟩; refine ⟨_, rfl, ?_⟩))
      go_ret
      exact ⟨by first | rfl | (simp; done) | (simp [*]; done), by repeat (first | exact Drawn0.refl _ | apply Drawn0.step)⟩


/-! ### spec_l2Graded: function 61 -/
mutual
def spec_l2Graded.l0 : Nat → List Int → Int → Bool → Int → Option (Bool)
 | 0, _, _, _, _ => none
 | k + 1, x0, x1, x2, x7 => if x7 < (x0.length : Int) then (if 0 ≤ x7 then ((spec_l2Kids.f k (rd x0 x7)).bind fun t327 => (if t327 > 0 then (spec_l2Graded.j1 k x0 x1 x2 x7 (decide ((rd x0 x7) > 2))) else (spec_l2Graded.j1 k x0 x1 x2 x7 false))) else (none)) else (some true)
def spec_l2Graded.j1 : Nat → List Int → Int → Bool → Int → Bool → Option (Bool)
 | 0, _, _, _, _, _ => none
 | k + 1, x0, x1, x2, x7, x27 => if x27 = true then (if 0 ≤ x7 then (if x7 < (x0.length : Int) then ((spec_l2Grade.f (rd x0 x7)).bind fun t330 => (if t330 ≥ x1 then (some false) else (if x2 = true then (if t330 < 0 then (some false) else (spec_l2Graded.l0 k x0 x1 x2 (wrap64 (x7 + 1)))) else (spec_l2Graded.l0 k x0 x1 x2 (wrap64 (x7 + 1)))))) else (none)) else (none)) else (spec_l2Graded.l0 k x0 x1 x2 (wrap64 (x7 + 1)))
end
def spec_l2Graded.f (k : Nat) (l0 : List Int) (a1 : Int) (a2 : Bool) : Option (Bool) := spec_l2Graded.l0 k l0 a1 a2 0
set_option maxHeartbeats 8000000 in
set_option maxRecDepth 100000 in
theorem spec_l2Graded.calls (k : Nat) (A0 : Option Addr) (c0 : Nat) (l0 : List Int) (a1 : Int) (a2 : Bool) (r : Bool) (w : World) (hr0 : Kd.C (Kd.int .i64) w A0 l0.length l0) (hc0 : l0.length ≤ c0) (h : spec_l2Graded.f k l0 a1 a2 = some r) :
  Calls Try.prog 61 #[.slice A0 l0.length c0, .int .i64 a1, .bool a2] w fun e w' => e = .returned (.bool r) ∧ Drawn0 w w' := by
 have HR0 := sd_ hr0
 have HC0 := sd_ hc0
 clear hr0 hc0
 have H : (spec_l2Graded.l0 k l0 a1 a2 0) = some r := h
 clear h
 have H' := sd_ H
 clear H
 go_enter Try.func61, Try.ntmps61
 go_wp2
 go_loopg [7] k (fun kq v7 w' => ∃ (x7_1 : Int), v7 = .int .i64 x7_1 ∧ Aside0 (spec_l2Graded.l0 kq l0 a1 a2 x7_1 = some r) ∧ Aside0 (kq ≤ k) ∧ Drawn0 w w')
 case atStart => exact ⟨(0), (by first | rfl | (simp; done) | (simp [*]; done)), H', ⟨Nat.le_refl _⟩, by repeat (first | exact Drawn0.refl _ | apply Drawn0.step)⟩
 case round =>
  clear H'
  try clear p2
  obtain ⟨x7_1, rfl, HA, HK1, ⟨m1, rfl⟩⟩ := hrel
  cases gk with
  | zero => exact absurd HA.out (by simp [spec_l2Graded.l0])
  | succ k1 =>
   have H := HA.out
   clear HA
   simp only [spec_l2Graded.l0] at H
   by_cases c4 : x7_1 < (l0.length : Int)
   ·rw [if_pos c4] at H
    have c4b0 : decide (x7_1 < (l0.length : Int)) = true := decide_eq_true c4
    clear c4
    have HC5 := sd_ H
    clear H
    go_upto_region 4 with (fail)
    go_cut [27] (fun v27 wc => ∃ (kq : Nat) (x27_4 : Bool), v27 = .bool x27_4 ∧ Aside0 (spec_l2Graded.j1 kq l0 a1 a2 x7_1 x27_4 = some r) ∧ Aside0 (kq ≤ k1) ∧ Drawn0 w wc)
    case first =>
     have H := HC5.out
     clear HC5
     by_cases c6 : 0 ≤ x7_1
     ·rw [if_pos c6] at H
      have c6b0 : decide (0 ≤ x7_1) = true := decide_eq_true c6
      clear c6
      (first | rw [c6b0] | (simp only [i64_w, i32_w]; rw [c6b0]) | skip)
      replace H := Option.bind_eq_some_iff.mp H
      obtain ⟨t327, A70, H⟩ := H
      try dsimp only at H
      have A7 := sd_ A70
      clear A70
      by_cases c8 : t327 > 0
      ·rw [if_pos c8] at H
       have c8b0 : decide (0 < t327) = true := decide_eq_true c8
       clear c8
       have H' := sd_ H
       clear H
       have p326 : 0 ≤ (x7_1 : Int) := of_decide_eq_true (by first | (with_reducible assumption) | assumption)
       have q326 : x7_1 < (l0.length : Int) := of_decide_eq_true (by first | (with_reducible assumption) | assumption)
       obtain ⟨ad326, e326, hx326_0⟩ := Kd.at_int HR0.out x7_1 p326 q326
       cases e326
       replace p326 := eq_true p326
       replace q326 := eq_true q326
       go_wp2_with (first | ((with_reducible refine gate_callee (f := 47) rfl ?_); refine goesL_ (some 19) rfl rfl Try.func47 (by kernel_rfl) rfl #[.int .i64 (rd l0 x7_1)] rfl (by (try simp only [List.map_toArray, List.map_cons, List.map_nil]); first | done | rfl | (simp only [List.length_drop, List.length_take]; rfl)) ?_; (with_reducible refine (spec_l2Kids.calls k1 (rd l0 x7_1) t327 _ A7.out).mono ?_); rintro e w' ⟨rfl, ⟨nd, rfl⟩⟩; refine ⟨_, rfl, ?_⟩; have p328 : 0 ≤ (x7_1 : Int) := of_decide_eq_true (by first | (with_reducible assumption) | assumption); have q328 : x7_1 < (l0.length : Int) := of_decide_eq_true (by first | (with_reducible assumption) | assumption); obtain ⟨ad328, e328, hx328_0⟩ := Kd.at_int HR0.out x7_1 p328 q328; obtain rfl : ad326 = ad328 := (by injection e328); replace p328 := eq_true p328; replace q328 := eq_true q328))
       go_meet
       case rel => exact ⟨_, (decide ((rd l0 x7_1) > 2)), (by first | rfl | (simp; done) | (simp [*]; done)), H', ⟨by have := HK1.out; first | omega | exact Nat.le_refl _⟩, by repeat (first | exact Drawn0.refl _ | apply Drawn0.step)⟩
      ·rw [if_neg c8] at H
       have c8b0 : decide (0 < t327) = false := decide_eq_false c8
       clear c8
       have H' := sd_ H
       clear H
       have p326 : 0 ≤ (x7_1 : Int) := of_decide_eq_true (by first | (with_reducible assumption) | assumption)
       have q326 : x7_1 < (l0.length : Int) := of_decide_eq_true (by first | (with_reducible assumption) | assumption)
       obtain ⟨ad326, e326, hx326_0⟩ := Kd.at_int HR0.out x7_1 p326 q326
       cases e326
       replace p326 := eq_true p326
       replace q326 := eq_true q326
       go_wp2_with (first | ((with_reducible refine gate_callee (f := 47) rfl ?_); refine goesL_ (some 19) rfl rfl Try.func47 (by kernel_rfl) rfl #[.int .i64 (rd l0 x7_1)] rfl (by (try simp only [List.map_toArray, List.map_cons, List.map_nil]); first | done | rfl | (simp only [List.length_drop, List.length_take]; rfl)) ?_; (with_reducible refine (spec_l2Kids.calls k1 (rd l0 x7_1) t327 _ A7.out).mono ?_); rintro e w' ⟨rfl, ⟨nd, rfl⟩⟩; refine ⟨_, rfl, ?_⟩))
       go_meet
       case rel => exact ⟨_, (false), (by first | rfl | (simp; done) | (simp [*]; done)), H', ⟨by have := HK1.out; first | omega | exact Nat.le_refl _⟩, by repeat (first | exact Drawn0.refl _ | apply Drawn0.step)⟩
     ·rw [if_neg c6] at H
      exact absurd H (by simp)
    case rest =>
     clear HC5
     try clear p2
     try clear c4
     try clear c4b0
     try clear c6
     try clear p2
     obtain ⟨kq, x27_4, rfl, HA, HJ4, ⟨mc4, rfl⟩⟩ := hcut
     cases kq with
     | zero => exact absurd HA.out (by simp [spec_l2Graded.j1])
     | succ kj4 =>
      have H := HA.out
      clear HA
      simp only [spec_l2Graded.j1] at H
      by_cases c9 : x27_4 = true
      ·subst c9
       have H1 : (if 0 ≤ x7_1 then (if x7_1 < (l0.length : Int) then ((spec_l2Grade.f (rd l0 x7_1)).bind fun t330 => (if t330 ≥ a1 then (some false) else (if a2 = true then (if t330 < 0 then (some false) else (spec_l2Graded.l0 kj4 l0 a1 a2 (wrap64 (x7_1 + 1)))) else (spec_l2Graded.l0 kj4 l0 a1 a2 (wrap64 (x7_1 + 1)))))) else (none)) else (none)) = some r := by rw [if_pos rfl] at H; exact H
       clear H
       have H := H1
       clear H1
       by_cases c10 : 0 ≤ x7_1
       ·rw [if_pos c10] at H
        have c10b0 : decide (0 ≤ x7_1) = true := decide_eq_true c10
        clear c10
        by_cases c11 : x7_1 < (l0.length : Int)
        ·rw [if_pos c11] at H
         have c11b0 : decide (x7_1 < (l0.length : Int)) = true := decide_eq_true c11
         clear c11
         replace H := Option.bind_eq_some_iff.mp H
         obtain ⟨t330, A120, H⟩ := H
         try dsimp only at H
         have A12 := sd_ A120
         clear A120
         by_cases c13 : t330 ≥ a1
         ·rw [if_pos c13] at H
          have c13b0 : decide (a1 ≤ t330) = true := decide_eq_true c13
          clear c13
          obtain rfl := Option.some.inj H
          have p329 : 0 ≤ (x7_1 : Int) := of_decide_eq_true (by first | (with_reducible assumption) | assumption)
          have q329 : x7_1 < (l0.length : Int) := of_decide_eq_true (by first | (with_reducible assumption) | assumption)
          obtain ⟨ad329, e329, hx329_0⟩ := Kd.at_int HR0.out x7_1 p329 q329
          cases e329
          replace p329 := eq_true p329
          replace q329 := eq_true q329
          go_wp2_with (first | ((with_reducible refine gate_callee (f := 52) rfl ?_); refine goesL_ (some 32) rfl rfl Try.func52 (by kernel_rfl) rfl #[.int .i64 (rd l0 x7_1)] rfl (by (try simp only [List.map_toArray, List.map_cons, List.map_nil]); first | done | rfl | (simp only [List.length_drop, List.length_take]; rfl)) ?_; (with_reducible refine (spec_l2Grade.calls (rd l0 x7_1) t330 _ A12.out).mono ?_); rintro e w' ⟨rfl, ⟨nd, rfl⟩⟩; refine ⟨_, rfl, ?_⟩))
          go_ret
          exact ⟨by first | rfl | (simp; done) | (simp [*]; done), by repeat (first | exact Drawn0.refl _ | apply Drawn0.step)⟩
         ·rw [if_neg c13] at H
          have c13b0 : decide (a1 ≤ t330) = false := decide_eq_false c13
          clear c13
          by_cases c14 : a2 = true
          ·subst c14
           have H1 : (if t330 < 0 then (some false) else (spec_l2Graded.l0 kj4 l0 a1 true (wrap64 (x7_1 + 1)))) = some r := by rw [if_pos rfl] at H; exact H
           clear H
           have H := H1
           clear H1
           by_cases c15 : t330 < 0
           ·rw [if_pos c15] at H
            have c15b0 : decide (t330 < 0) = true := decide_eq_true c15
            clear c15
            obtain rfl := Option.some.inj H
            have p329 : 0 ≤ (x7_1 : Int) := of_decide_eq_true (by first | (with_reducible assumption) | assumption)
            have q329 : x7_1 < (l0.length : Int) := of_decide_eq_true (by first | (with_reducible assumption) | assumption)
            obtain ⟨ad329, e329, hx329_0⟩ := Kd.at_int HR0.out x7_1 p329 q329
            cases e329
            replace p329 := eq_true p329
            replace q329 := eq_true q329
            go_wp2_with (first | ((with_reducible refine gate_callee (f := 52) rfl ?_); refine goesL_ (some 32) rfl rfl Try.func52 (by kernel_rfl) rfl #[.int .i64 (rd l0 x7_1)] rfl (by (try simp only [List.map_toArray, List.map_cons, List.map_nil]); first | done | rfl | (simp only [List.length_drop, List.length_take]; rfl)) ?_; (with_reducible refine (spec_l2Grade.calls (rd l0 x7_1) t330 _ A12.out).mono ?_); rintro e w' ⟨rfl, ⟨nd, rfl⟩⟩; refine ⟨_, rfl, ?_⟩))
            go_ret
            exact ⟨by first | rfl | (simp; done) | (simp [*]; done), by repeat (first | exact Drawn0.refl _ | apply Drawn0.step)⟩
           ·rw [if_neg c15] at H
            have c15b0 : decide (t330 < 0) = false := decide_eq_false c15
            clear c15
            have H' := sd_ H
            clear H
            have p329 : 0 ≤ (x7_1 : Int) := of_decide_eq_true (by first | (with_reducible assumption) | assumption)
            have q329 : x7_1 < (l0.length : Int) := of_decide_eq_true (by first | (with_reducible assumption) | assumption)
            obtain ⟨ad329, e329, hx329_0⟩ := Kd.at_int HR0.out x7_1 p329 q329
            cases e329
            replace p329 := eq_true p329
            replace q329 := eq_true q329
            go_wp2_with (first | ((with_reducible refine gate_callee (f := 52) rfl ?_); refine goesL_ (some 32) rfl rfl Try.func52 (by kernel_rfl) rfl #[.int .i64 (rd l0 x7_1)] rfl (by (try simp only [List.map_toArray, List.map_cons, List.map_nil]); first | done | rfl | (simp only [List.length_drop, List.length_take]; rfl)) ?_; (with_reducible refine (spec_l2Grade.calls (rd l0 x7_1) t330 _ A12.out).mono ?_); rintro e w' ⟨rfl, ⟨nd, rfl⟩⟩; refine ⟨_, rfl, ?_⟩))
            go_roundg kj4
            case measure => have := HK1.out; have := HJ4.out; omega
            case rel => exact ⟨(wrap64 (x7_1 + 1)), (by first | rfl | (simp; done) | (simp [*]; done)), H', ⟨by have := HK1.out; have := HJ4.out; omega⟩, by repeat (first | exact Drawn0.refl _ | apply Drawn0.step)⟩
          ·replace c14 := Bool.eq_false_iff.mpr c14
           subst c14
           have H1 : (spec_l2Graded.l0 kj4 l0 a1 false (wrap64 (x7_1 + 1))) = some r := by rw [if_neg (show ¬ (false = true) by decide)] at H; exact H
           clear H
           have H := H1
           clear H1
           have H' := sd_ H
           clear H
           have p329 : 0 ≤ (x7_1 : Int) := of_decide_eq_true (by first | (with_reducible assumption) | assumption)
           have q329 : x7_1 < (l0.length : Int) := of_decide_eq_true (by first | (with_reducible assumption) | assumption)
           obtain ⟨ad329, e329, hx329_0⟩ := Kd.at_int HR0.out x7_1 p329 q329
           cases e329
           replace p329 := eq_true p329
           replace q329 := eq_true q329
           go_wp2_with (first | ((with_reducible refine gate_callee (f := 52) rfl ?_); refine goesL_ (some 32) rfl rfl Try.func52 (by kernel_rfl) rfl #[.int .i64 (rd l0 x7_1)] rfl (by (try simp only [List.map_toArray, List.map_cons, List.map_nil]); first | done | rfl | (simp only [List.length_drop, List.length_take]; rfl)) ?_; (with_reducible refine (spec_l2Grade.calls (rd l0 x7_1) t330 _ A12.out).mono ?_); rintro e w' ⟨rfl, ⟨nd, rfl⟩⟩; refine ⟨_, rfl, ?_⟩))
           go_roundg kj4
           case measure => have := HK1.out; have := HJ4.out; omega
           case rel => exact ⟨(wrap64 (x7_1 + 1)), (by first | rfl | (simp; done) | (simp [*]; done)), H', ⟨by have := HK1.out; have := HJ4.out; omega⟩, by repeat (first | exact Drawn0.refl _ | apply Drawn0.step)⟩
        ·rw [if_neg c11] at H
         exact absurd H (by simp)
       ·rw [if_neg c10] at H
        exact absurd H (by simp)
      ·replace c9 := Bool.eq_false_iff.mpr c9
       subst c9
       have H1 : (spec_l2Graded.l0 kj4 l0 a1 a2 (wrap64 (x7_1 + 1))) = some r := by rw [if_neg (show ¬ (false = true) by decide)] at H; exact H
       clear H
       have H := H1
       clear H1
       have H' := sd_ H
       clear H
       go_wp2
       go_roundg kj4
       case measure => have := HK1.out; have := HJ4.out; omega
       case rel => exact ⟨(wrap64 (x7_1 + 1)), (by first | rfl | (simp; done) | (simp [*]; done)), H', ⟨by have := HK1.out; have := HJ4.out; omega⟩, by repeat (first | exact Drawn0.refl _ | apply Drawn0.step)⟩
   ·rw [if_neg c4] at H
    have c4b0 : decide (x7_1 < (l0.length : Int)) = false := decide_eq_false c4
    clear c4
    obtain rfl := Option.some.inj H
    go_wp2
    go_ret
    exact ⟨by first | rfl | (simp; done) | (simp [*]; done), by repeat (first | exact Drawn0.refl _ | apply Drawn0.step)⟩


/-! ### spec_l2Left: function 69 -/
mutual
def spec_l2Left.l0 : Nat → Int → Int → Int → Int → List Int → List (S48) → Option (Int)
 | 0, _, _, _, _, _, _ => none
 | k + 1, x1, x5, x549000, x549001, x549002, x549003 => if x5 < (x549003.length : Int) then (if x1 ≥ 0 then (if 0 ≤ x5 then ((spec_l2Left.f k ((rd_T48 x549003 x5).f0) ((rd_T48 x549003 x5).f1) ((rd_T48 x549003 x5).f2) ((rd_T48 x549003 x5).f3) x1).bind fun t550 => (spec_l2Left.l0 k t550 (wrap64 (x5 + 1)) x549000 x549001 x549002 x549003)) else (none)) else (some x1)) else (some x1)
def spec_l2Left.f : Nat → Int → Int → List Int → List (S48) → Int → Option (Int)
 | 0, _, _, _, _, _ => none
 | k + 1, a0_0, a0_1, l0_2, l0_3, a1 => spec_l2Left.l0 k (wrap64 (a1 - 1)) 0 a0_0 a0_1 l0_2 l0_3
end
set_option maxHeartbeats 8000000 in
set_option maxRecDepth 100000 in
theorem spec_l2Left.calls (k : Nat) : ∀ (a0_0 : Int) (a0_1 : Int) (A0_2 : Option Addr) (c0_2 : Nat) (l0_2 : List Int) (A0_3 : Option Addr) (c0_3 : Nat) (l0_3 : List (S48)) (a1 : Int) (r : Int) (w : World) (hr0_2 : Kd.C (Kd.int .i64) w A0_2 l0_2.length l0_2) (hc0_2 : l0_2.length ≤ c0_2) (hr0_3 : Kd.C k48 w A0_3 l0_3.length l0_3) (hc0_3 : l0_3.length ≤ c0_3) (h : spec_l2Left.f k a0_0 a0_1 l0_2 l0_3 a1 = some r),
  Calls Try.prog 69 #[.agg #[.int .i64 a0_0, .int .i64 a0_1, .slice A0_2 l0_2.length c0_2, .slice A0_3 l0_3.length c0_3], .int .i64 a1] w fun e w' => e = .returned (.int .i64 r) ∧ Below w.heap.size w w' := by
 induction k using Nat.strongRecOn with
 | _ k ih =>
 intro a0_0 a0_1 A0_2 c0_2 l0_2 A0_3 c0_3 l0_3 a1 r w hr0_2 hc0_2 hr0_3 hc0_3 h
 cases k with
 | zero => exact absurd h (by simp [spec_l2Left.f])
 | succ k =>
 simp only [spec_l2Left.f] at h
 have hu48 := Try.underlying48
 have HR0_2 := sd_ hr0_2
 have HC0_2 := sd_ hc0_2
 clear hr0_2 hc0_2
 have HR0_3 := sd_ hr0_3
 have HC0_3 := sd_ hc0_3
 clear hr0_3 hc0_3
 have HB := sd_ (Below.refl w.heap.size w)
 have H : (spec_l2Left.l0 k (wrap64 (a1 - 1)) 0 a0_0 a0_1 l0_2 l0_3) = some r := h
 clear h
 have H' := sd_ H
 clear H
 go_enter Try.func69, Try.ntmps69
 go_wp2_with (first | ((with_reducible refine gate_dst (N := 2) rfl ?_); refine box_event ?hg (N := 2) ?hd (cs := #[.int .i64 a0_0, .int .i64 a0_1, .slice A0_2 l0_2.length c0_2, .slice A0_3 l0_3.length c0_3]) (t := 48) ?hr ?_; (case hd => rfl); (case hg => rfl); (case hr => first | (go_simp; done) | (go_simp; rfl)); intro gb548 hg w3 hbox hb; have BK548 := sd_ (hbox); have GW548 := sd_ ((by rw [hg]; exact (below_size (bw0_ HB.out)) : w.heap.size ≤ gb548)); have GE548 := sd_ ((by rw [hg]; exact (below_size (bw0_ HB.out)) : w.heap.size ≤ gb548)); replace HB := sd_ (below_step (bw0_ HB.out) hb); clear hb hbox hg))
 go_loopg [1, 5] k (fun kq v1 v5 w' => ∃ (x1_1 : Int) (x5_1 : Int), v1 = .int .i64 x1_1 ∧ v5 = .int .i64 x5_1 ∧ Aside0 (spec_l2Left.l0 kq x1_1 x5_1 a0_0 a0_1 l0_2 l0_3 = some r) ∧ Aside0 (kq ≤ k) ∧ Aside0 (w'.heap[gb548]? = some (.cells #[.int .i64 a0_0, .int .i64 a0_1, (.slice A0_2 l0_2.length c0_2), (.slice A0_3 l0_3.length c0_3)] 48 (0, 0))) ∧ Aside0 (Below w.heap.size w w'))
 case atStart => exact ⟨(wrap64 (a1 - 1)), (0), (by first | rfl | (simp; done) | (simp [*]; done)), (by first | rfl | (simp; done) | (simp [*]; done)), H', ⟨Nat.le_refl _⟩, ⟨by (with_reducible repeat (first | refine blk_drewN ?_ _ | refine blk_drew ?_ | refine blk_alloc ?_ _)); exact BK548.out⟩, ⟨bw1_ HB.out GE548.out⟩⟩
 case round =>
  clear H'
  try clear p2
  obtain ⟨x1_1, x5_1, rfl, rfl, HA, HK1, BK548, HB⟩ := hrel
  cases gk with
  | zero => exact absurd HA.out (by simp [spec_l2Left.l0])
  | succ k1 =>
   have H := HA.out
   clear HA
   simp only [spec_l2Left.l0] at H
   by_cases c4 : x5_1 < (l0_3.length : Int)
   ·rw [if_pos c4] at H
    have c4b0 : decide (x5_1 < (l0_3.length : Int)) = true := decide_eq_true c4
    clear c4
    by_cases c5 : x1_1 ≥ 0
    ·rw [if_pos c5] at H
     have c5b0 : decide (0 ≤ x1_1) = true := decide_eq_true c5
     clear c5
     by_cases c6 : 0 ≤ x5_1
     ·rw [if_pos c6] at H
      have c6b0 : decide (0 ≤ x5_1) = true := decide_eq_true c6
      clear c6
      replace H := Option.bind_eq_some_iff.mp H
      obtain ⟨t550, A70, H⟩ := H
      try dsimp only at H
      have A7 := sd_ A70
      clear A70
      have H' := sd_ H
      clear H
      have hcz8_0 : wr.cell? ⟨gb548, 0, none⟩ = some (.int .i64 a0_0) := (blk_cell BK548.out 0).trans rfl
      have hcz8_1 : wr.cell? ⟨gb548, 1, none⟩ = some (.int .i64 a0_1) := (blk_cell BK548.out 1).trans rfl
      have hcz8_2 : wr.cell? ⟨gb548, 2, none⟩ = some (.slice A0_2 l0_2.length c0_2) := (blk_cell BK548.out 2).trans rfl
      have hcz8_3 : wr.cell? ⟨gb548, 3, none⟩ = some (.slice A0_3 l0_3.length c0_3) := (blk_cell BK548.out 3).trans rfl
      have hfz8_0 := blk_frozen BK548.out 0
      have hfz8_1 := blk_frozen BK548.out 1
      have hfz8_2 := blk_frozen BK548.out 2
      have hfz8_3 := blk_frozen BK548.out 3
      have p549 : 0 ≤ (x5_1 : Int) := of_decide_eq_true (by first | (with_reducible assumption) | assumption)
      have q549 : x5_1 < (l0_3.length : Int) := of_decide_eq_true (by first | (with_reducible assumption) | assumption)
      obtain ⟨ad549, A549_2, c549_2, A549_3, c549_3, e549, hx549_0, hx549_1, hx549_2, hx549_3, hl549_2, hi549_2, hl549_3, hi549_3⟩ := at_T48 HR0_3.out x5_1 p549 q549
      cases e549
      replace hx549_0 := (HB.out.cell (World.block_lt_of_cell? w _ hx549_0)).trans hx549_0
      replace hx549_1 := (HB.out.cell (World.block_lt_of_cell? w _ hx549_1)).trans hx549_1
      replace hx549_2 := (HB.out.cell (World.block_lt_of_cell? w _ hx549_2)).trans hx549_2
      replace hx549_3 := (HB.out.cell (World.block_lt_of_cell? w _ hx549_3)).trans hx549_3
      have HR549_2 := sd_ hi549_2
      have HC549_2 := sd_ hl549_2
      clear hi549_2 hl549_2
      have HR549_3 := sd_ hi549_3
      have HC549_3 := sd_ hl549_3
      clear hi549_3 hl549_3
      replace p549 := eq_true p549
      replace q549 := eq_true q549
      go_wp2_with (first | ((with_reducible refine gate_callee (f := 69) rfl ?_); refine goesL_ (some 25) rfl rfl Try.func69 (by kernel_rfl) rfl #[.agg #[.int .i64 ((rd_T48 l0_3 x5_1).f0), .int .i64 ((rd_T48 l0_3 x5_1).f1), .slice A549_2 ((rd_T48 l0_3 x5_1).f2).length c549_2, .slice A549_3 ((rd_T48 l0_3 x5_1).f3).length c549_3], .int .i64 x1_1] rfl (by (try simp only [List.map_toArray, List.map_cons, List.map_nil]); first | done | rfl | (simp only [List.length_drop, List.length_take]; rfl)) ?_; (with_reducible refine (ih k1 (by have := HK1.out; omega) ((rd_T48 l0_3 x5_1).f0) ((rd_T48 l0_3 x5_1).f1) _ _ ((rd_T48 l0_3 x5_1).f2) _ _ ((rd_T48 l0_3 x5_1).f3) x1_1 t550 _ ?side1 ?side2 ?side3 ?side4 A7.out).mono ?_); (case side1 => exact kc_ HR549_2.out HB.out); (case side2 => exact HC549_2.out); (case side3 => exact kc_ HR549_3.out HB.out); (case side4 => exact HC549_3.out); rintro e w9 ⟨rfl, hb⟩; refine ⟨_, rfl, ?_⟩; replace BK548 := sd_ (bb_ BK548.out hb); replace HB := sd_ (below_step (bw1_ HB.out GE548.out) hb); (try clear hb); (try clear hb2); (try clear hk); (try clear hi)))
      go_roundg k1
      case measure => have := HK1.out; omega
      case rel => exact ⟨(t550), (wrap64 (x5_1 + 1)), (by first | rfl | (simp; done) | (simp [*]; done)), (by first | rfl | (simp; done) | (simp [*]; done)), H', ⟨by have := HK1.out; omega⟩, ⟨by (with_reducible repeat (first | refine blk_drewN ?_ _ | refine blk_drew ?_ | refine blk_alloc ?_ _)); exact BK548.out⟩, ⟨bw1_ HB.out GE548.out⟩⟩
     ·rw [if_neg c6] at H
      exact absurd H (by simp)
    ·rw [if_neg c5] at H
     have c5b0 : decide (0 ≤ x1_1) = false := decide_eq_false c5
     clear c5
     obtain rfl := Option.some.inj H
     have hcz10_0 : wr.cell? ⟨gb548, 0, none⟩ = some (.int .i64 a0_0) := (blk_cell BK548.out 0).trans rfl
     have hcz10_1 : wr.cell? ⟨gb548, 1, none⟩ = some (.int .i64 a0_1) := (blk_cell BK548.out 1).trans rfl
     have hcz10_2 : wr.cell? ⟨gb548, 2, none⟩ = some (.slice A0_2 l0_2.length c0_2) := (blk_cell BK548.out 2).trans rfl
     have hcz10_3 : wr.cell? ⟨gb548, 3, none⟩ = some (.slice A0_3 l0_3.length c0_3) := (blk_cell BK548.out 3).trans rfl
     have hfz10_0 := blk_frozen BK548.out 0
     have hfz10_1 := blk_frozen BK548.out 1
     have hfz10_2 := blk_frozen BK548.out 2
     have hfz10_3 := blk_frozen BK548.out 3
     go_wp2
     go_ret
     exact ⟨an_, bw1_ HB.out GE548.out⟩
   ·rw [if_neg c4] at H
    have c4b0 : decide (x5_1 < (l0_3.length : Int)) = false := decide_eq_false c4
    clear c4
    obtain rfl := Option.some.inj H
    have hcz11_0 : wr.cell? ⟨gb548, 0, none⟩ = some (.int .i64 a0_0) := (blk_cell BK548.out 0).trans rfl
    have hcz11_1 : wr.cell? ⟨gb548, 1, none⟩ = some (.int .i64 a0_1) := (blk_cell BK548.out 1).trans rfl
    have hcz11_2 : wr.cell? ⟨gb548, 2, none⟩ = some (.slice A0_2 l0_2.length c0_2) := (blk_cell BK548.out 2).trans rfl
    have hcz11_3 : wr.cell? ⟨gb548, 3, none⟩ = some (.slice A0_3 l0_3.length c0_3) := (blk_cell BK548.out 3).trans rfl
    have hfz11_0 := blk_frozen BK548.out 0
    have hfz11_1 := blk_frozen BK548.out 1
    have hfz11_2 := blk_frozen BK548.out 2
    have hfz11_3 := blk_frozen BK548.out 3
    go_wp2
    go_ret
    exact ⟨an_, bw1_ HB.out GE548.out⟩


/-! ### spec_l2End: function 82 -/
def spec_l2End.l0 : Nat → List Int → Int → Int → Option (Int)
 | 0, _, _, _ => none
 | k + 1, x0, x5, x6 => if x6 < (x0.length : Int) then (if 0 ≤ x6 then ((spec_l2Kids.f k (rd x0 x6)).bind fun t106 => (if t106 < 0 then (some (-1)) else (if (wrap64 ((wrap64 (x5 - 1)) + t106)) = 0 then (some (wrap64 (x6 + 1))) else (spec_l2End.l0 k x0 (wrap64 ((wrap64 (x5 - 1)) + t106)) (wrap64 (x6 + 1)))))) else (none)) else (some (-1))
def spec_l2End.f (k : Nat) (l0 : List Int) (a1 : Int) : Option (Int) := spec_l2End.l0 k l0 1 a1
set_option maxHeartbeats 8000000 in
set_option maxRecDepth 100000 in
theorem spec_l2End.calls (k : Nat) (A0 : Option Addr) (c0 : Nat) (l0 : List Int) (a1 : Int) (r : Int) (w : World) (hr0 : Kd.C (Kd.int .i64) w A0 l0.length l0) (hc0 : l0.length ≤ c0) (h : spec_l2End.f k l0 a1 = some r) :
  Calls Try.prog 82 #[.slice A0 l0.length c0, .int .i64 a1] w fun e w' => e = .returned (.int .i64 r) ∧ Drawn0 w w' := by
 have HR0 := sd_ hr0
 have HC0 := sd_ hc0
 clear hr0 hc0
 have H : (spec_l2End.l0 k l0 1 a1) = some r := h
 clear h
 have H' := sd_ H
 clear H
 go_enter Try.func82, Try.ntmps82
 go_wp2
 go_loopg [5, 6] k (fun kq v5 v6 w' => ∃ (x5_1 : Int) (x6_1 : Int), v5 = .int .i64 x5_1 ∧ v6 = .int .i64 x6_1 ∧ Aside0 (spec_l2End.l0 kq l0 x5_1 x6_1 = some r) ∧ Aside0 (kq ≤ k) ∧ Drawn0 w w')
 case atStart => exact ⟨(1), (a1), (by first | rfl | (simp; done) | (simp [*]; done)), (by first | rfl | (simp; done) | (simp [*]; done)), H', ⟨Nat.le_refl _⟩, by repeat (first | exact Drawn0.refl _ | apply Drawn0.step)⟩
 case round =>
  clear H'
  try clear p2
  obtain ⟨x5_1, x6_1, rfl, rfl, HA, HK1, ⟨m1, rfl⟩⟩ := hrel
  cases gk with
  | zero => exact absurd HA.out (by simp [spec_l2End.l0])
  | succ k1 =>
   have H := HA.out
   clear HA
   simp only [spec_l2End.l0] at H
   by_cases c3 : x6_1 < (l0.length : Int)
   ·rw [if_pos c3] at H
    have c3b0 : decide (x6_1 < (l0.length : Int)) = true := decide_eq_true c3
    clear c3
    by_cases c4 : 0 ≤ x6_1
    ·rw [if_pos c4] at H
     have c4b0 : decide (0 ≤ x6_1) = true := decide_eq_true c4
     clear c4
     replace H := Option.bind_eq_some_iff.mp H
     obtain ⟨t106, A50, H⟩ := H
     try dsimp only at H
     have A5 := sd_ A50
     clear A50
     by_cases c6 : t106 < 0
     ·rw [if_pos c6] at H
      have c6b0 : decide (t106 < 0) = true := decide_eq_true c6
      clear c6
      obtain rfl := Option.some.inj H
      have p105 : 0 ≤ (x6_1 : Int) := of_decide_eq_true (by first | (with_reducible assumption) | assumption)
      have q105 : x6_1 < (l0.length : Int) := of_decide_eq_true (by first | (with_reducible assumption) | assumption)
      obtain ⟨ad105, e105, hx105_0⟩ := Kd.at_int HR0.out x6_1 p105 q105
      cases e105
      replace p105 := eq_true p105
      replace q105 := eq_true q105
      go_wp2_with (first | ((with_reducible refine gate_callee (f := 47) rfl ?_); refine goesL_ (some 19) rfl rfl Try.func47 (by kernel_rfl) rfl #[.int .i64 (rd l0 x6_1)] rfl (by (try simp only [List.map_toArray, List.map_cons, List.map_nil]); first | done | rfl | (simp only [List.length_drop, List.length_take]; rfl)) ?_; (with_reducible refine (spec_l2Kids.calls k1 (rd l0 x6_1) t106 _ A5.out).mono ?_); rintro e w' ⟨rfl, ⟨nd, rfl⟩⟩; refine ⟨_, rfl, ?_⟩))
      go_ret
      exact ⟨by first | rfl | (simp; done) | (simp [*]; done), by repeat (first | exact Drawn0.refl _ | apply Drawn0.step)⟩
     ·rw [if_neg c6] at H
      have c6b0 : decide (t106 < 0) = false := decide_eq_false c6
      clear c6
      by_cases c7 : (wrap64 ((wrap64 (x5_1 - 1)) + t106)) = 0
      ·rw [if_pos c7] at H
       have c7b0 : ((wrap64 ((wrap64 (x5_1 - 1)) + t106)) == 0) = true := beq_iff_eq.mpr c7
       have c7b1 : ((wrap64 ((wrap64 (x5_1 - 1)) + t106)) != 0) = false := bne_eq_false_iff_eq.mpr c7
       clear c7
       obtain rfl := Option.some.inj H
       have p105 : 0 ≤ (x6_1 : Int) := of_decide_eq_true (by first | (with_reducible assumption) | assumption)
       have q105 : x6_1 < (l0.length : Int) := of_decide_eq_true (by first | (with_reducible assumption) | assumption)
       obtain ⟨ad105, e105, hx105_0⟩ := Kd.at_int HR0.out x6_1 p105 q105
       cases e105
       replace p105 := eq_true p105
       replace q105 := eq_true q105
       go_wp2_with (first | ((with_reducible refine gate_callee (f := 47) rfl ?_); refine goesL_ (some 19) rfl rfl Try.func47 (by kernel_rfl) rfl #[.int .i64 (rd l0 x6_1)] rfl (by (try simp only [List.map_toArray, List.map_cons, List.map_nil]); first | done | rfl | (simp only [List.length_drop, List.length_take]; rfl)) ?_; (with_reducible refine (spec_l2Kids.calls k1 (rd l0 x6_1) t106 _ A5.out).mono ?_); rintro e w' ⟨rfl, ⟨nd, rfl⟩⟩; refine ⟨_, rfl, ?_⟩))
       go_ret
       exact ⟨by first | rfl | (simp; done) | (simp [*]; done), by repeat (first | exact Drawn0.refl _ | apply Drawn0.step)⟩
      ·rw [if_neg c7] at H
       have c7b0 : ((wrap64 ((wrap64 (x5_1 - 1)) + t106)) == 0) = false := beq_eq_false_iff_ne.mpr c7
       have c7b1 : ((wrap64 ((wrap64 (x5_1 - 1)) + t106)) != 0) = true := bne_iff_ne.mpr c7
       have H' := sd_ H
       clear H
       have p105 : 0 ≤ (x6_1 : Int) := of_decide_eq_true (by first | (with_reducible assumption) | assumption)
       have q105 : x6_1 < (l0.length : Int) := of_decide_eq_true (by first | (with_reducible assumption) | assumption)
       obtain ⟨ad105, e105, hx105_0⟩ := Kd.at_int HR0.out x6_1 p105 q105
       cases e105
       replace p105 := eq_true p105
       replace q105 := eq_true q105
       go_wp2_with (first | ((with_reducible refine gate_callee (f := 47) rfl ?_); refine goesL_ (some 19) rfl rfl Try.func47 (by kernel_rfl) rfl #[.int .i64 (rd l0 x6_1)] rfl (by (try simp only [List.map_toArray, List.map_cons, List.map_nil]); first | done | rfl | (simp only [List.length_drop, List.length_take]; rfl)) ?_; (with_reducible refine (spec_l2Kids.calls k1 (rd l0 x6_1) t106 _ A5.out).mono ?_); rintro e w' ⟨rfl, ⟨nd, rfl⟩⟩; refine ⟨_, rfl, ?_⟩))
       go_roundg k1
       case measure => have := HK1.out; omega
       case rel => exact ⟨(wrap64 ((wrap64 (x5_1 - 1)) + t106)), (wrap64 (x6_1 + 1)), (by first | rfl | (simp; done) | (simp [*]; done)), (by first | rfl | (simp; done) | (simp [*]; done)), H', ⟨by have := HK1.out; omega⟩, by repeat (first | exact Drawn0.refl _ | apply Drawn0.step)⟩
    ·rw [if_neg c4] at H
     exact absurd H (by simp)
   ·rw [if_neg c3] at H
    have c3b0 : decide (x6_1 < (l0.length : Int)) = false := decide_eq_false c3
    clear c3
    obtain rfl := Option.some.inj H
    go_wp2
    go_ret
    exact ⟨by first | rfl | (simp; done) | (simp [*]; done), by repeat (first | exact Drawn0.refl _ | apply Drawn0.step)⟩


/-! ### spec_l2Type: function 46 -/
def spec_l2Type.f (k : Nat) (l0 : List Int) : Option (Bool) := if (l0.length : Int) ≤ 40 then ((spec_l2End.f k l0 0).bind fun t107 => (if t107 = (l0.length : Int) then (some (decide ((l0.length : Int) > 0))) else (some false))) else (some false)
set_option maxHeartbeats 8000000 in
set_option maxRecDepth 100000 in
theorem spec_l2Type.calls (k : Nat) (A0 : Option Addr) (c0 : Nat) (l0 : List Int) (r : Bool) (w : World) (hr0 : Kd.C (Kd.int .i64) w A0 l0.length l0) (hc0 : l0.length ≤ c0) (h : spec_l2Type.f k l0 = some r) :
  Calls Try.prog 46 #[.slice A0 l0.length c0] w fun e w' => e = .returned (.bool r) ∧ Drawn0 w w' := by
 have HR0 := sd_ hr0
 have HC0 := sd_ hc0
 clear hr0 hc0
 have H : (if (l0.length : Int) ≤ 40 then ((spec_l2End.f k l0 0).bind fun t107 => (if t107 = (l0.length : Int) then (some (decide ((l0.length : Int) > 0))) else (some false))) else (some false)) = some r := h
 clear h
 by_cases c2 : (l0.length : Int) ≤ 40
 ·rw [if_pos c2] at H
  have c2b0 : decide ((l0.length : Int) ≤ 40) = true := decide_eq_true c2
  have c2b1 : decide (l0.length ≤ 40) = true := decide_eq_true (by omega)
  clear c2
  replace H := Option.bind_eq_some_iff.mp H
  obtain ⟨t107, A30, H⟩ := H
  try dsimp only at H
  have A3 := sd_ A30
  clear A30
  by_cases c4 : t107 = (l0.length : Int)
  ·rw [if_pos c4] at H
   have c4b0 : (t107 == (l0.length : Int)) = true := beq_iff_eq.mpr c4
   have c4b1 : (t107 != (l0.length : Int)) = false := bne_eq_false_iff_eq.mpr c4
   clear c4
   obtain rfl := Option.some.inj H
   go_enter Try.func46, Try.ntmps46
   go_wp2_with (first | (go_at_call 82; (with_reducible refine (spec_l2End.calls k _ _ l0 0 t107 _ ?side1 ?side2 A3.out).mono ?_); (case side1 => exact kp_ HR0.out); (case side2 => exact HC0.out); rintro e w' ⟨rfl, ⟨nd, rfl⟩⟩))
   go_ret
   exact ⟨by first | rfl | (simp; done) | (simp [*]; done), by repeat (first | exact Drawn0.refl _ | apply Drawn0.step)⟩
  ·rw [if_neg c4] at H
   have c4b0 : (t107 == (l0.length : Int)) = false := beq_eq_false_iff_ne.mpr c4
   have c4b1 : (t107 != (l0.length : Int)) = true := bne_iff_ne.mpr c4
   obtain rfl := Option.some.inj H
   go_enter Try.func46, Try.ntmps46
   go_wp2_with (first | (go_at_call 82; (with_reducible refine (spec_l2End.calls k _ _ l0 0 t107 _ ?side1 ?side2 A3.out).mono ?_); (case side1 => exact kp_ HR0.out); (case side2 => exact HC0.out); rintro e w' ⟨rfl, ⟨nd, rfl⟩⟩))
   go_ret
   exact ⟨by first | rfl | (simp; done) | (simp [*]; done), by repeat (first | exact Drawn0.refl _ | apply Drawn0.step)⟩
 ·rw [if_neg c2] at H
  have c2b0 : decide ((l0.length : Int) ≤ 40) = false := decide_eq_false c2
  have c2b1 : decide (l0.length ≤ 40) = false := decide_eq_false (by omega)
  clear c2
  obtain rfl := Option.some.inj H
  go_enter Try.func46, Try.ntmps46
  go_wp2
  go_ret
  exact ⟨by first | rfl | (simp; done) | (simp [*]; done), by repeat (first | exact Drawn0.refl _ | apply Drawn0.step)⟩


/-! ### impl_typeEnd: function 86 -/
mutual
def impl_typeEnd.j0 : Nat → List Int → Int → Bool → Option (Int)
 | 0, _, _, _ => none
 | k + 1, x0, x1, x14 => if x14 = true then (some (-1)) else (if 0 ≤ x1 then (if x1 < (x0.length : Int) then ((impl_shape.f (rd x0 x1)).bind fun bt144 => (if bt144.1 = 0 then (some (wrap64 (x1 + 1))) else (if bt144.1 = 4 then ((impl_typeEnd.f k x0 (wrap64 (x1 + 1))).bind fun t146 => (some t146)) else (if bt144.1 = 5 then (some (-1)) else ((impl_typeEnd.f k x0 (wrap64 (x1 + 1))).bind fun t147 => ((impl_typeEnd.f k x0 t147).bind fun t148 => (some t148))))))) else (none)) else (none))
def impl_typeEnd.f : Nat → List Int → Int → Option (Int)
 | 0, _, _ => none
 | k + 1, l0, a1 => if a1 < 0 then (impl_typeEnd.j0 k l0 a1 true) else (impl_typeEnd.j0 k l0 a1 (decide (a1 ≥ (l0.length : Int))))
end
set_option maxHeartbeats 8000000 in
set_option maxRecDepth 100000 in
theorem impl_typeEnd.calls (k : Nat) : ∀ (A0 : Option Addr) (c0 : Nat) (l0 : List Int) (a1 : Int) (r : Int) (w : World) (hr0 : Kd.C (Kd.int .i64) w A0 l0.length l0) (hc0 : l0.length ≤ c0) (h : impl_typeEnd.f k l0 a1 = some r),
  Calls Try.prog 86 #[.slice A0 l0.length c0, .int .i64 a1] w fun e w' => e = .returned (.int .i64 r) ∧ Drawn0 w w' := by
 induction k using Nat.strongRecOn with
 | _ k ih =>
 intro A0 c0 l0 a1 r w hr0 hc0 h
 cases k with
 | zero => exact absurd h (by simp [impl_typeEnd.f])
 | succ k =>
 simp only [impl_typeEnd.f] at h
 have HR0 := sd_ hr0
 have HC0 := sd_ hc0
 clear hr0 hc0
 have H : (if a1 < 0 then (impl_typeEnd.j0 k l0 a1 true) else (impl_typeEnd.j0 k l0 a1 (decide (a1 ≥ (l0.length : Int))))) = some r := h
 clear h
 have HC3 := sd_ H
 clear H
 go_enter Try.func86, Try.ntmps86
 go_upto_region 1 with (fail)
 go_cut [14] (fun v14 wc => ∃ (kq : Nat) (x14_2 : Bool), v14 = .bool x14_2 ∧ Aside0 (impl_typeEnd.j0 kq l0 a1 x14_2 = some r) ∧ Aside0 (kq ≤ k) ∧ Drawn0 w wc)
 case first =>
  have H := HC3.out
  clear HC3
  by_cases c4 : a1 < 0
  ·rw [if_pos c4] at H
   have c4b0 : decide (a1 < 0) = true := decide_eq_true c4
   clear c4
   (first | rw [c4b0] | (simp only [i64_w, i32_w]; rw [c4b0]) | skip)
   have H' := sd_ H
   clear H
   go_wp2
   go_meet
   case rel => exact ⟨_, (true), (by first | rfl | (simp; done) | (simp [*]; done)), H', ⟨by first | omega | exact Nat.le_refl _⟩, by repeat (first | exact Drawn0.refl _ | apply Drawn0.step)⟩
  ·rw [if_neg c4] at H
   have c4b0 : decide (a1 < 0) = false := decide_eq_false c4
   clear c4
   (first | rw [c4b0] | (simp only [i64_w, i32_w]; rw [c4b0]) | skip)
   have H' := sd_ H
   clear H
   go_wp2
   go_meet
   case rel => exact ⟨_, (decide (a1 ≥ (l0.length : Int))), (by first | rfl | (simp; done) | (simp [*]; done)), H', ⟨by first | omega | exact Nat.le_refl _⟩, by repeat (first | exact Drawn0.refl _ | apply Drawn0.step)⟩
 case rest =>
  clear HC3
  obtain ⟨kq, x14_2, rfl, HA, HJ2, ⟨mc2, rfl⟩⟩ := hcut
  cases kq with
  | zero => exact absurd HA.out (by simp [impl_typeEnd.j0])
  | succ kj2 =>
   have H := HA.out
   clear HA
   simp only [impl_typeEnd.j0] at H
   by_cases c5 : x14_2 = true
   ·subst c5
    have H1 : (some (-1)) = some r := by rw [if_pos rfl] at H; exact H
    clear H
    have H := H1
    clear H1
    obtain rfl := Option.some.inj H
    go_wp2
    go_ret
    exact ⟨by first | rfl | (simp; done) | (simp [*]; done), by repeat (first | exact Drawn0.refl _ | apply Drawn0.step)⟩
   ·replace c5 := Bool.eq_false_iff.mpr c5
    subst c5
    have H1 : (if 0 ≤ a1 then (if a1 < (l0.length : Int) then ((impl_shape.f (rd l0 a1)).bind fun bt144 => (if bt144.1 = 0 then (some (wrap64 (a1 + 1))) else (if bt144.1 = 4 then ((impl_typeEnd.f kj2 l0 (wrap64 (a1 + 1))).bind fun t146 => (some t146)) else (if bt144.1 = 5 then (some (-1)) else ((impl_typeEnd.f kj2 l0 (wrap64 (a1 + 1))).bind fun t147 => ((impl_typeEnd.f kj2 l0 t147).bind fun t148 => (some t148))))))) else (none)) else (none)) = some r := by rw [if_neg (show ¬ (false = true) by decide)] at H; exact H
    clear H
    have H := H1
    clear H1
    by_cases c6 : 0 ≤ a1
    ·rw [if_pos c6] at H
     have c6b0 : decide (0 ≤ a1) = true := decide_eq_true c6
     clear c6
     by_cases c7 : a1 < (l0.length : Int)
     ·rw [if_pos c7] at H
      have c7b0 : decide (a1 < (l0.length : Int)) = true := decide_eq_true c7
      clear c7
      replace H := Option.bind_eq_some_iff.mp H
      obtain ⟨⟨t144, t145⟩, A80, H⟩ := H
      try dsimp only at H
      have A8 := sd_ A80
      clear A80
      by_cases c9 : t144 = 0
      ·rw [if_pos c9] at H
       have c9b0 : (t144 == 0) = true := beq_iff_eq.mpr c9
       have c9b1 : (t144 != 0) = false := bne_eq_false_iff_eq.mpr c9
       clear c9
       obtain rfl := Option.some.inj H
       have p143 : 0 ≤ (a1 : Int) := of_decide_eq_true (by first | (with_reducible assumption) | assumption)
       have q143 : a1 < (l0.length : Int) := of_decide_eq_true (by first | (with_reducible assumption) | assumption)
       obtain ⟨ad143, e143, hx143_0⟩ := Kd.at_int HR0.out a1 p143 q143
       cases e143
       replace p143 := eq_true p143
       replace q143 := eq_true q143
       go_wp2_with (first | ((with_reducible refine gate_callee (f := 56) rfl ?_); refine goesL_ (some 20) rfl rfl Try.func56 (by kernel_rfl) rfl #[.int .i64 (rd l0 a1)] rfl (by (try simp only [List.map_toArray, List.map_cons, List.map_nil]); first | done | rfl | (simp only [List.length_drop, List.length_take]; rfl)) ?_; (with_reducible refine (impl_shape.calls (rd l0 a1) t144 t145 _ A8.out).mono ?_); rintro e w' ⟨rfl, ⟨nd, rfl⟩⟩; refine ⟨_, rfl, ?_⟩))
       go_ret
       exact ⟨by first | rfl | (simp; done) | (simp [*]; done), by repeat (first | exact Drawn0.refl _ | apply Drawn0.step)⟩
      ·rw [if_neg c9] at H
       have c9b0 : (t144 == 0) = false := beq_eq_false_iff_ne.mpr c9
       have c9b1 : (t144 != 0) = true := bne_iff_ne.mpr c9
       by_cases c10 : t144 = 4
       ·rw [if_pos c10] at H
        have c10b0 : (t144 == 4) = true := beq_iff_eq.mpr c10
        have c10b1 : (t144 != 4) = false := bne_eq_false_iff_eq.mpr c10
        clear c10
        replace H := Option.bind_eq_some_iff.mp H
        obtain ⟨t146, A110, H⟩ := H
        try dsimp only at H
        have A11 := sd_ A110
        clear A110
        obtain rfl := Option.some.inj H
        have p143 : 0 ≤ (a1 : Int) := of_decide_eq_true (by first | (with_reducible assumption) | assumption)
        have q143 : a1 < (l0.length : Int) := of_decide_eq_true (by first | (with_reducible assumption) | assumption)
        obtain ⟨ad143, e143, hx143_0⟩ := Kd.at_int HR0.out a1 p143 q143
        cases e143
        replace p143 := eq_true p143
        replace q143 := eq_true q143
        go_wp2_with (first | ((with_reducible refine gate_callee (f := 56) rfl ?_); refine goesL_ (some 20) rfl rfl Try.func56 (by kernel_rfl) rfl #[.int .i64 (rd l0 a1)] rfl (by (try simp only [List.map_toArray, List.map_cons, List.map_nil]); first | done | rfl | (simp only [List.length_drop, List.length_take]; rfl)) ?_; (with_reducible refine (impl_shape.calls (rd l0 a1) t144 t145 _ A8.out).mono ?_); rintro e w' ⟨rfl, ⟨nd, rfl⟩⟩; refine ⟨_, rfl, ?_⟩) | ((with_reducible refine gate_callee (f := 86) rfl ?_); refine goesL_ (some 33) rfl rfl Try.func86 (by kernel_rfl) rfl #[.slice (some ad143) l0.length c0, .int .i64 (wrap64 (a1 + 1))] rfl (by (try simp only [List.map_toArray, List.map_cons, List.map_nil]); first | done | rfl | (simp only [List.length_drop, List.length_take]; rfl)) ?_; (with_reducible refine (ih kj2 (by have := HJ2.out; omega) _ _ l0 (wrap64 (a1 + 1)) t146 _ ?side1 ?side2 A11.out).mono ?_); (case side1 => exact kp_ HR0.out); (case side2 => exact HC0.out); rintro e w' ⟨rfl, ⟨nd, rfl⟩⟩; refine ⟨_, rfl, ?_⟩))
        go_ret
        exact ⟨by first | rfl | (simp; done) | (simp [*]; done), by repeat (first | exact Drawn0.refl _ | apply Drawn0.step)⟩
       ·rw [if_neg c10] at H
        have c10b0 : (t144 == 4) = false := beq_eq_false_iff_ne.mpr c10
        have c10b1 : (t144 != 4) = true := bne_iff_ne.mpr c10
        by_cases c12 : t144 = 5
        ·rw [if_pos c12] at H
         have c12b0 : (t144 == 5) = true := beq_iff_eq.mpr c12
         have c12b1 : (t144 != 5) = false := bne_eq_false_iff_eq.mpr c12
         clear c12
         obtain rfl := Option.some.inj H
         have p143 : 0 ≤ (a1 : Int) := of_decide_eq_true (by first | (with_reducible assumption) | assumption)
         have q143 : a1 < (l0.length : Int) := of_decide_eq_true (by first | (with_reducible assumption) | assumption)
         obtain ⟨ad143, e143, hx143_0⟩ := Kd.at_int HR0.out a1 p143 q143
         cases e143
         replace p143 := eq_true p143
         replace q143 := eq_true q143
         go_wp2_with (first | ((with_reducible refine gate_callee (f := 56) rfl ?_); refine goesL_ (some 20) rfl rfl Try.func56 (by kernel_rfl) rfl #[.int .i64 (rd l0 a1)] rfl (by (try simp only [List.map_toArray, List.map_cons, List.map_nil]); first | done | rfl | (simp only [List.length_drop, List.length_take]; rfl)) ?_; (with_reducible refine (impl_shape.calls (rd l0 a1) t144 t145 _ A8.out).mono ?_); rintro e w' ⟨rfl, ⟨nd, rfl⟩⟩; refine ⟨_, rfl, ?_⟩))
         go_ret
         exact ⟨by first | rfl | (simp; done) | (simp [*]; done), by repeat (first | exact Drawn0.refl _ | apply Drawn0.step)⟩
        ·rw [if_neg c12] at H
         have c12b0 : (t144 == 5) = false := beq_eq_false_iff_ne.mpr c12
         have c12b1 : (t144 != 5) = true := bne_iff_ne.mpr c12
         replace H := Option.bind_eq_some_iff.mp H
         obtain ⟨t147, A130, H⟩ := H
         try dsimp only at H
         have A13 := sd_ A130
         clear A130
         replace H := Option.bind_eq_some_iff.mp H
         obtain ⟨t148, A140, H⟩ := H
         try dsimp only at H
         have A14 := sd_ A140
         clear A140
         obtain rfl := Option.some.inj H
         have p143 : 0 ≤ (a1 : Int) := of_decide_eq_true (by first | (with_reducible assumption) | assumption)
         have q143 : a1 < (l0.length : Int) := of_decide_eq_true (by first | (with_reducible assumption) | assumption)
         obtain ⟨ad143, e143, hx143_0⟩ := Kd.at_int HR0.out a1 p143 q143
         cases e143
         replace p143 := eq_true p143
         replace q143 := eq_true q143
         go_wp2_with (first | ((with_reducible refine gate_callee (f := 56) rfl ?_); refine goesL_ (some 20) rfl rfl Try.func56 (by kernel_rfl) rfl #[.int .i64 (rd l0 a1)] rfl (by (try simp only [List.map_toArray, List.map_cons, List.map_nil]); first | done | rfl | (simp only [List.length_drop, List.length_take]; rfl)) ?_; (with_reducible refine (impl_shape.calls (rd l0 a1) t144 t145 _ A8.out).mono ?_); rintro e w' ⟨rfl, ⟨nd, rfl⟩⟩; refine ⟨_, rfl, ?_⟩) | ((with_reducible refine gate_callee (f := 86) rfl ?_); refine goesL_ (some 40) rfl rfl Try.func86 (by kernel_rfl) rfl #[.slice (some ad143) l0.length c0, .int .i64 (wrap64 (a1 + 1))] rfl (by (try simp only [List.map_toArray, List.map_cons, List.map_nil]); first | done | rfl | (simp only [List.length_drop, List.length_take]; rfl)) ?_; (with_reducible refine (ih kj2 (by have := HJ2.out; omega) _ _ l0 (wrap64 (a1 + 1)) t147 _ ?side1 ?side2 A13.out).mono ?_); (case side1 => exact kp_ HR0.out); (case side2 => exact HC0.out); rintro e w' ⟨rfl, ⟨nd, rfl⟩⟩; refine ⟨_, rfl, ?_⟩) | ((with_reducible refine gate_callee (f := 86) rfl ?_); refine goesL_ (some 41) rfl rfl Try.func86 (by kernel_rfl) rfl #[.slice (some ad143) l0.length c0, .int .i64 t147] rfl (by (try simp only [List.map_toArray, List.map_cons, List.map_nil]); first | done | rfl | (simp only [List.length_drop, List.length_take]; rfl)) ?_; (with_reducible refine (ih kj2 (by have := HJ2.out; omega) _ _ l0 t147 t148 _ ?side1 ?side2 A14.out).mono ?_); (case side1 => exact kp_ HR0.out); (case side2 => exact HC0.out); rintro e w' ⟨rfl, ⟨nd, rfl⟩⟩; refine ⟨_, rfl, ?_⟩))
         go_ret
         exact ⟨by first | rfl | (simp; done) | (simp [*]; done), by repeat (first | exact Drawn0.refl _ | apply Drawn0.step)⟩
     ·rw [if_neg c7] at H
      exact absurd H (by simp)
    ·rw [if_neg c6] at H
     exact absurd H (by simp)


/-! ### impl_isWrittenType: function 49 -/
def impl_isWrittenType.f (k : Nat) (l0 : List Int) : Option (Bool) := (impl_within.f (l0.length : Int) 1 40).bind fun t149 => (if t149 = true then ((impl_typeEnd.f k l0 0).bind fun t150 => (some (t150 == (l0.length : Int)))) else (some false))
set_option maxHeartbeats 8000000 in
set_option maxRecDepth 100000 in
theorem impl_isWrittenType.calls (k : Nat) (A0 : Option Addr) (c0 : Nat) (l0 : List Int) (r : Bool) (w : World) (hr0 : Kd.C (Kd.int .i64) w A0 l0.length l0) (hc0 : l0.length ≤ c0) (h : impl_isWrittenType.f k l0 = some r) :
  Calls Try.prog 49 #[.slice A0 l0.length c0] w fun e w' => e = .returned (.bool r) ∧ Drawn0 w w' := by
 have HR0 := sd_ hr0
 have HC0 := sd_ hc0
 clear hr0 hc0
 have H : ((impl_within.f (l0.length : Int) 1 40).bind fun t149 => (if t149 = true then ((impl_typeEnd.f k l0 0).bind fun t150 => (some (t150 == (l0.length : Int)))) else (some false))) = some r := h
 clear h
 replace H := Option.bind_eq_some_iff.mp H
 obtain ⟨t149, A20, H⟩ := H
 try dsimp only at H
 have A2 := sd_ A20
 clear A20
 by_cases c3 : t149 = true
 ·subst c3
  have H1 : ((impl_typeEnd.f k l0 0).bind fun t150 => (some (t150 == (l0.length : Int)))) = some r := by rw [if_pos rfl] at H; exact H
  clear H
  have H := H1
  clear H1
  replace H := Option.bind_eq_some_iff.mp H
  obtain ⟨t150, A40, H⟩ := H
  try dsimp only at H
  have A4 := sd_ A40
  clear A40
  obtain rfl := Option.some.inj H
  go_enter Try.func49, Try.ntmps49
  go_wp2_with (first | ((with_reducible refine gate_callee (f := 85) rfl ?_); refine goesL_ (some 5) rfl rfl Try.func85 (by kernel_rfl) rfl #[.int .i64 (l0.length : Int), .int .i64 1, .int .i64 40] rfl (by (try simp only [List.map_toArray, List.map_cons, List.map_nil]); first | done | rfl | (simp only [List.length_drop, List.length_take]; rfl)) ?_; (with_reducible refine (impl_within.calls (l0.length : Int) 1 40 true _ A2.out).mono ?_); rintro e w' ⟨rfl, ⟨nd, rfl⟩⟩; refine ⟨_, rfl, ?_⟩) | (go_at_call 86; (with_reducible refine (impl_typeEnd.calls k _ _ l0 0 t150 _ ?side1 ?side2 A4.out).mono ?_); (case side1 => exact kp_ HR0.out); (case side2 => exact HC0.out); rintro e w' ⟨rfl, ⟨nd, rfl⟩⟩))
  go_ret
  exact ⟨by first | rfl | (simp; done) | (simp [*]; done), by repeat (first | exact Drawn0.refl _ | apply Drawn0.step)⟩
 ·replace c3 := Bool.eq_false_iff.mpr c3
  subst c3
  have H1 : (some false) = some r := by rw [if_neg (show ¬ (false = true) by decide)] at H; exact H
  clear H
  have H := H1
  clear H1
  obtain rfl := Option.some.inj H
  go_enter Try.func49, Try.ntmps49
  go_wp2_with (first | ((with_reducible refine gate_callee (f := 85) rfl ?_); refine goesL_ (some 5) rfl rfl Try.func85 (by kernel_rfl) rfl #[.int .i64 (l0.length : Int), .int .i64 1, .int .i64 40] rfl (by (try simp only [List.map_toArray, List.map_cons, List.map_nil]); first | done | rfl | (simp only [List.length_drop, List.length_take]; rfl)) ?_; (with_reducible refine (impl_within.calls (l0.length : Int) 1 40 false _ A2.out).mono ?_); rintro e w' ⟨rfl, ⟨nd, rfl⟩⟩; refine ⟨_, rfl, ?_⟩))
  go_ret
  exact ⟨by first | rfl | (simp; done) | (simp [*]; done), by repeat (first | exact Drawn0.refl _ | apply Drawn0.step)⟩

end Go.Proofs.Ytnokgkhkmnldeaa.P
end
