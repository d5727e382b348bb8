-- Printed by this session's own program (wip/tools/mkprint.py) out of the translation. Not trusted: Lean checks it.
import Derived.Test.YtnokgkhkmnldeaaP0
import Derived.Test.YtnokgkhkmnldeaaPf47
import Derived.Test.YtnokgkhkmnldeaaPf52
/-! short words -/
namespace Go.Proofs.Ytnokgkhkmnldeaa.P
open Go.RowKit Go.Proofs.YtnokgkhkmnldeaaW.PrintWords Go.Proofs.YtnokgkhkmnldeaaW.PrintLast Go.Proofs.YtnokgkhkmnldeaaW.PrintMore
attribute [local go_sem] max2_int min2_int max_two min_two max_three min_three max_four min_four   -- for this text's walks alone
set_option linter.unusedVariables false
set_option linter.unusedSimpArgs false

/-! ### spec_l2Graded: function 61 -/
mutual
def spec_l2Graded.l0 : Nat → List Int → Int → Bool → Int → Option (Bool)
 | 0, _, _, _, _ => none
 | k + 1, x0, x1, x2, x7 => if x7 < (x0.length : Int) then (if 0 ≤ x7 then ((spec_l2Kids.f k (rd x0 x7)).bind fun t327 => (if t327 > 0 then (spec_l2Graded.j1 k x0 x1 x2 x7 (decide ((rd x0 x7) > 2))) else (spec_l2Graded.j1 k x0 x1 x2 x7 false))) else (none)) else (some true)
def spec_l2Graded.j1 : Nat → List Int → Int → Bool → Int → Bool → Option (Bool)
 | 0, _, _, _, _, _ => none
 | k + 1, x0, x1, x2, x7, x27 => if x27 = true then (if 0 ≤ x7 then (if x7 < (x0.length : Int) then ((spec_l2Grade.f (rd x0 x7)).bind fun t330 => (if t330 ≥ x1 then (some false) else (if x2 = true then (if t330 < 0 then (some false) else (spec_l2Graded.l0 k x0 x1 x2 (wrap64 (x7 + 1)))) else (spec_l2Graded.l0 k x0 x1 x2 (wrap64 (x7 + 1)))))) else (none)) else (none)) else (spec_l2Graded.l0 k x0 x1 x2 (wrap64 (x7 + 1)))
end
def spec_l2Graded.f (k : Nat) (l0 : List Int) (a1 : Int) (a2 : Bool) : Option (Bool) := spec_l2Graded.l0 k l0 a1 a2 0
set_option maxHeartbeats 8000000 in
set_option maxRecDepth 100000 in
theorem spec_l2Graded.calls (k : Nat) (A0 : Option Addr) (c0 : Nat) (l0 : List Int) (a1 : Int) (a2 : Bool) (r : Bool) (w : World) (hr0 : Kd.C (Kd.int .i64) w A0 l0.length l0) (hc0 : l0.length ≤ c0) (h : spec_l2Graded.f k l0 a1 a2 = some r) :
  Calls Try.prog 61 #[.slice A0 l0.length c0, .int .i64 a1, .bool a2] w fun e w' => e = .returned (.bool r) ∧ Drawn0 w w' := by
 have HR0 := sd_ hr0
 have HC0 := sd_ hc0
 clear hr0 hc0
 have H : (spec_l2Graded.l0 k l0 a1 a2 0) = some r := h
 clear h
 have H' := sd_ H
 clear H
 go_enter Try.func61, Try.ntmps61
 go_wp2
 go_loopg [7] k (fun kq v7 w' => ∃ (x7_1 : Int), v7 = .int .i64 x7_1 ∧ Aside0 (spec_l2Graded.l0 kq l0 a1 a2 x7_1 = some r) ∧ Aside0 (kq ≤ k) ∧ Drawn0 w w')
 case atStart => exact ⟨(0), (by first | rfl | (simp; done) | (simp [*]; done)), H', ⟨Nat.le_refl _⟩, by repeat (first | exact Drawn0.refl _ | apply Drawn0.step)⟩
 case round =>
  clear H'
  try clear p2
  obtain ⟨x7_1, rfl, HA, HK1, ⟨m1, rfl⟩⟩ := hrel
  cases gk with
  | zero => exact absurd HA.out (by simp [spec_l2Graded.l0])
  | succ k1 =>
   have H := HA.out
   clear HA
   simp only [spec_l2Graded.l0] at H
   by_cases c4 : x7_1 < (l0.length : Int)
   ·rw [if_pos c4] at H
    have c4b0 : decide (x7_1 < (l0.length : Int)) = true := decide_eq_true c4
    clear c4
    have HC5 := sd_ H
    clear H
    go_upto_region 4 with (fail)
    go_cut [27] (fun v27 wc => ∃ (kq : Nat) (x27_4 : Bool), v27 = .bool x27_4 ∧ Aside0 (spec_l2Graded.j1 kq l0 a1 a2 x7_1 x27_4 = some r) ∧ Aside0 (kq ≤ k1) ∧ Drawn0 w wc)
    case first =>
     have H := HC5.out
     clear HC5
     by_cases c6 : 0 ≤ x7_1
     ·rw [if_pos c6] at H
      have c6b0 : decide (0 ≤ x7_1) = true := decide_eq_true c6
      clear c6
      (first | rw [c6b0] | (simp only [i64_w, i32_w]; rw [c6b0]) | skip)
      replace H := Option.bind_eq_some_iff.mp H
      obtain ⟨t327, A70, H⟩ := H
      replace H : (if t327 > 0 then (spec_l2Graded.j1 k1 l0 a1 a2 x7_1 (decide ((rd l0 x7_1) > 2))) else (spec_l2Graded.j1 k1 l0 a1 a2 x7_1 false)) = some r := H
      have A7 := sd_ A70
      clear A70
      by_cases c8 : t327 > 0
      ·rw [if_pos c8] at H
       have c8b0 : decide (0 < t327) = true := decide_eq_true c8
       clear c8
       have H' := sd_ H
       clear H
       have p326 : 0 ≤ (x7_1 : Int) := of_decide_eq_true (by first | (with_reducible assumption) | assumption)
       have q326 : x7_1 < (l0.length : Int) := of_decide_eq_true (by first | (with_reducible assumption) | assumption)
       obtain ⟨ad326, e326, hx326_0⟩ := Kd.at_int HR0.out x7_1 p326 q326
       cases e326
       replace p326 := eq_true p326
       replace q326 := eq_true q326
       go_wp2_with (first | ((with_reducible refine gate_callee (f := 47) rfl ?_); refine goesL_ (some 19) rfl rfl Try.func47 (by kernel_rfl) rfl #[.int .i64 (rd l0 x7_1)] rfl (by (try simp only [List.map_toArray, List.map_cons, List.map_nil]); first | done | rfl | (simp only [List.length_drop, List.length_take]; rfl)) ?_; (with_reducible refine (spec_l2Kids.calls k1 (rd l0 x7_1) t327 _ A7.out).mono ?_); rintro e w' ⟨rfl, ⟨nd, rfl⟩⟩; refine ⟨_, rfl, ?_⟩; have p328 : 0 ≤ (x7_1 : Int) := of_decide_eq_true (by first | (with_reducible assumption) | assumption); have q328 : x7_1 < (l0.length : Int) := of_decide_eq_true (by first | (with_reducible assumption) | assumption); obtain ⟨ad328, e328, hx328_0⟩ := Kd.at_int HR0.out x7_1 p328 q328; obtain rfl : ad326 = ad328 := (by injection e328); replace p328 := eq_true p328; replace q328 := eq_true q328))
       go_meet
       case rel => exact ⟨_, (decide ((rd l0 x7_1) > 2)), (by first | rfl | (simp; done) | (simp [*]; done)), H', ⟨by have := HK1.out; first | omega | exact Nat.le_refl _⟩, by repeat (first | exact Drawn0.refl _ | apply Drawn0.step)⟩
      ·rw [if_neg c8] at H
       have c8b0 : decide (0 < t327) = false := decide_eq_false c8
       clear c8
       have H' := sd_ H
       clear H
       have p326 : 0 ≤ (x7_1 : Int) := of_decide_eq_true (by first | (with_reducible assumption) | assumption)
       have q326 : x7_1 < (l0.length : Int) := of_decide_eq_true (by first | (with_reducible assumption) | assumption)
       obtain ⟨ad326, e326, hx326_0⟩ := Kd.at_int HR0.out x7_1 p326 q326
       cases e326
       replace p326 := eq_true p326
       replace q326 := eq_true q326
       go_wp2_with (first | ((with_reducible refine gate_callee (f := 47) rfl ?_); refine goesL_ (some 19) rfl rfl Try.func47 (by kernel_rfl) rfl #[.int .i64 (rd l0 x7_1)] rfl (by (try simp only [List.map_toArray, List.map_cons, List.map_nil]); first | done | rfl | (simp only [List.length_drop, List.length_take]; rfl)) ?_; (with_reducible refine (spec_l2Kids.calls k1 (rd l0 x7_1) t327 _ A7.out).mono ?_); rintro e w' ⟨rfl, ⟨nd, rfl⟩⟩; refine ⟨_, rfl, ?_⟩))
       go_meet
       case rel => exact ⟨_, (false), (by first | rfl | (simp; done) | (simp [*]; done)), H', ⟨by have := HK1.out; first | omega | exact Nat.le_refl _⟩, by repeat (first | exact Drawn0.refl _ | apply Drawn0.step)⟩
     ·rw [if_neg c6] at H
      exact absurd H (by simp)
    case rest =>
     clear HC5
     try clear p2
     try clear c4
     try clear c4b0
     try clear c6
     try clear p2
     obtain ⟨kq, x27_4, rfl, HA, HJ4, ⟨mc4, rfl⟩⟩ := hcut
     cases kq with
     | zero => exact absurd HA.out (by simp [spec_l2Graded.j1])
     | succ kj4 =>
      have H := HA.out
      clear HA
      simp only [spec_l2Graded.j1] at H
      by_cases c9 : x27_4 = true
      ·subst c9
       have H1 : (if 0 ≤ x7_1 then (if x7_1 < (l0.length : Int) then ((spec_l2Grade.f (rd l0 x7_1)).bind fun t330 => (if t330 ≥ a1 then (some false) else (if a2 = true then (if t330 < 0 then (some false) else (spec_l2Graded.l0 kj4 l0 a1 a2 (wrap64 (x7_1 + 1)))) else (spec_l2Graded.l0 kj4 l0 a1 a2 (wrap64 (x7_1 + 1)))))) else (none)) else (none)) = some r := by rw [if_pos rfl] at H; exact H
       clear H
       have H := H1
       clear H1
       by_cases c10 : 0 ≤ x7_1
       ·rw [if_pos c10] at H
        have c10b0 : decide (0 ≤ x7_1) = true := decide_eq_true c10
        clear c10
        by_cases c11 : x7_1 < (l0.length : Int)
        ·rw [if_pos c11] at H
         have c11b0 : decide (x7_1 < (l0.length : Int)) = true := decide_eq_true c11
         clear c11
         replace H := Option.bind_eq_some_iff.mp H
         obtain ⟨t330, A120, H⟩ := H
         replace H : (if t330 ≥ a1 then (some false) else (if a2 = true then (if t330 < 0 then (some false) else (spec_l2Graded.l0 kj4 l0 a1 a2 (wrap64 (x7_1 + 1)))) else (spec_l2Graded.l0 kj4 l0 a1 a2 (wrap64 (x7_1 + 1))))) = some r := H
         have A12 := sd_ A120
         clear A120
         by_cases c13 : t330 ≥ a1
         ·rw [if_pos c13] at H
          have c13b0 : decide (a1 ≤ t330) = true := decide_eq_true c13
          clear c13
          obtain rfl := Option.some.inj H
          have p329 : 0 ≤ (x7_1 : Int) := of_decide_eq_true (by first | (with_reducible assumption) | assumption)
          have q329 : x7_1 < (l0.length : Int) := of_decide_eq_true (by first | (with_reducible assumption) | assumption)
          obtain ⟨ad329, e329, hx329_0⟩ := Kd.at_int HR0.out x7_1 p329 q329
          cases e329
          replace p329 := eq_true p329
          replace q329 := eq_true q329
          go_wp2_with (first | ((with_reducible refine gate_callee (f := 52) rfl ?_); refine goesL_ (some 32) rfl rfl Try.func52 (by kernel_rfl) rfl #[.int .i64 (rd l0 x7_1)] rfl (by (try simp only [List.map_toArray, List.map_cons, List.map_nil]); first | done | rfl | (simp only [List.length_drop, List.length_take]; rfl)) ?_; (with_reducible refine (spec_l2Grade.calls (rd l0 x7_1) t330 _ A12.out).mono ?_); rintro e w' ⟨rfl, ⟨nd, rfl⟩⟩; refine ⟨_, rfl, ?_⟩))
          go_ret
          exact ⟨by first | rfl | (simp; done) | (simp [*]; done), by repeat (first | exact Drawn0.refl _ | apply Drawn0.step)⟩
         ·rw [if_neg c13] at H
          have c13b0 : decide (a1 ≤ t330) = false := decide_eq_false c13
          clear c13
          by_cases c14 : a2 = true
          ·subst c14
           have H1 : (if t330 < 0 then (some false) else (spec_l2Graded.l0 kj4 l0 a1 true (wrap64 (x7_1 + 1)))) = some r := by rw [if_pos rfl] at H; exact H
           clear H
           have H := H1
           clear H1
           by_cases c15 : t330 < 0
           ·rw [if_pos c15] at H
            have c15b0 : decide (t330 < 0) = true := decide_eq_true c15
            clear c15
            obtain rfl := Option.some.inj H
            have p329 : 0 ≤ (x7_1 : Int) := of_decide_eq_true (by first | (with_reducible assumption) | assumption)
            have q329 : x7_1 < (l0.length : Int) := of_decide_eq_true (by first | (with_reducible assumption) | assumption)
            obtain ⟨ad329, e329, hx329_0⟩ := Kd.at_int HR0.out x7_1 p329 q329
            cases e329
            replace p329 := eq_true p329
            replace q329 := eq_true q329
            go_wp2_with (first | ((with_reducible refine gate_callee (f := 52) rfl ?_); refine goesL_ (some 32) rfl rfl Try.func52 (by kernel_rfl) rfl #[.int .i64 (rd l0 x7_1)] rfl (by (try simp only [List.map_toArray, List.map_cons, List.map_nil]); first | done | rfl | (simp only [List.length_drop, List.length_take]; rfl)) ?_; (with_reducible refine (spec_l2Grade.calls (rd l0 x7_1) t330 _ A12.out).mono ?_); rintro e w' ⟨rfl, ⟨nd, rfl⟩⟩; refine ⟨_, rfl, ?_⟩))
            go_ret
            exact ⟨by first | rfl | (simp; done) | (simp [*]; done), by repeat (first | exact Drawn0.refl _ | apply Drawn0.step)⟩
           ·rw [if_neg c15] at H
            have c15b0 : decide (t330 < 0) = false := decide_eq_false c15
            clear c15
            have H' := sd_ H
            clear H
            have p329 : 0 ≤ (x7_1 : Int) := of_decide_eq_true (by first | (with_reducible assumption) | assumption)
            have q329 : x7_1 < (l0.length : Int) := of_decide_eq_true (by first | (with_reducible assumption) | assumption)
            obtain ⟨ad329, e329, hx329_0⟩ := Kd.at_int HR0.out x7_1 p329 q329
            cases e329
            replace p329 := eq_true p329
            replace q329 := eq_true q329
            go_wp2_with (first | ((with_reducible refine gate_callee (f := 52) rfl ?_); refine goesL_ (some 32) rfl rfl Try.func52 (by kernel_rfl) rfl #[.int .i64 (rd l0 x7_1)] rfl (by (try simp only [List.map_toArray, List.map_cons, List.map_nil]); first | done | rfl | (simp only [List.length_drop, List.length_take]; rfl)) ?_; (with_reducible refine (spec_l2Grade.calls (rd l0 x7_1) t330 _ A12.out).mono ?_); rintro e w' ⟨rfl, ⟨nd, rfl⟩⟩; refine ⟨_, rfl, ?_⟩))
            go_roundg kj4
            case measure => have := HK1.out; have := HJ4.out; omega
            case rel => exact ⟨(wrap64 (x7_1 + 1)), (by first | rfl | (simp; done) | (simp [*]; done)), H', ⟨by have := HK1.out; have := HJ4.out; omega⟩, by repeat (first | exact Drawn0.refl _ | apply Drawn0.step)⟩
          ·replace c14 := Bool.eq_false_iff.mpr c14
           subst c14
           have H1 : (spec_l2Graded.l0 kj4 l0 a1 false (wrap64 (x7_1 + 1))) = some r := by rw [if_neg (show ¬ (false = true) by decide)] at H; exact H
           clear H
           have H := H1
           clear H1
           have H' := sd_ H
           clear H
           have p329 : 0 ≤ (x7_1 : Int) := of_decide_eq_true (by first | (with_reducible assumption) | assumption)
           have q329 : x7_1 < (l0.length : Int) := of_decide_eq_true (by first | (with_reducible assumption) | assumption)
           obtain ⟨ad329, e329, hx329_0⟩ := Kd.at_int HR0.out x7_1 p329 q329
           cases e329
           replace p329 := eq_true p329
           replace q329 := eq_true q329
           go_wp2_with (first | ((with_reducible refine gate_callee (f := 52) rfl ?_); refine goesL_ (some 32) rfl rfl Try.func52 (by kernel_rfl) rfl #[.int .i64 (rd l0 x7_1)] rfl (by (try simp only [List.map_toArray, List.map_cons, List.map_nil]); first | done | rfl | (simp only [List.length_drop, List.length_take]; rfl)) ?_; (with_reducible refine (spec_l2Grade.calls (rd l0 x7_1) t330 _ A12.out).mono ?_); rintro e w' ⟨rfl, ⟨nd, rfl⟩⟩; refine ⟨_, rfl, ?_⟩))
           go_roundg kj4
           case measure => have := HK1.out; have := HJ4.out; omega
           case rel => exact ⟨(wrap64 (x7_1 + 1)), (by first | rfl | (simp; done) | (simp [*]; done)), H', ⟨by have := HK1.out; have := HJ4.out; omega⟩, by repeat (first | exact Drawn0.refl _ | apply Drawn0.step)⟩
        ·rw [if_neg c11] at H
         exact absurd H (by simp)
       ·rw [if_neg c10] at H
        exact absurd H (by simp)
      ·replace c9 := Bool.eq_false_iff.mpr c9
       subst c9
       have H1 : (spec_l2Graded.l0 kj4 l0 a1 a2 (wrap64 (x7_1 + 1))) = some r := by rw [if_neg (show ¬ (false = true) by decide)] at H; exact H
       clear H
       have H := H1
       clear H1
       have H' := sd_ H
       clear H
       go_wp2
       go_roundg kj4
       case measure => have := HK1.out; have := HJ4.out; omega
       case rel => exact ⟨(wrap64 (x7_1 + 1)), (by first | rfl | (simp; done) | (simp [*]; done)), H', ⟨by have := HK1.out; have := HJ4.out; omega⟩, by repeat (first | exact Drawn0.refl _ | apply Drawn0.step)⟩
   ·rw [if_neg c4] at H
    have c4b0 : decide (x7_1 < (l0.length : Int)) = false := decide_eq_false c4
    clear c4
    obtain rfl := Option.some.inj H
    go_wp2
    go_ret
    exact ⟨by first | rfl | (simp; done) | (simp [*]; done), by repeat (first | exact Drawn0.refl _ | apply Drawn0.step)⟩

end Go.Proofs.Ytnokgkhkmnldeaa.P
