-- Several texts in one (wip/tools/merge.py).
import Derived.Test.YtipfkicndjddgaaP0
import Derived.Test.YtipfkicndjddgaaM4
import Derived.Test.YtipfkicndjddgaaM5
section
namespace Go.Proofs.Ytipfkicndjddgaa.P
open Go.RowKit Go.Proofs.YtipfkicndjddgaaW.PrintWords Go.Proofs.YtipfkicndjddgaaW.PrintLast Go.Proofs.YtipfkicndjddgaaW.PrintMore
attribute [local go_sem] max2_int min2_int max_two min_two max_three min_three max_four min_four   -- for this text's walks alone
set_option linter.unusedVariables false
set_option linter.unusedSimpArgs false

/-! ### spec_l1Less: function 76 -/
mutual
def spec_l1Less.l0 : Nat → List Int → List Int → Int → Option (Bool)
 | 0, _, _, _ => none
 | k + 1, x0, x1, x5 => if x5 < (x0.length : Int) then (spec_l1Less.j1 k x0 x1 x5 (decide (x5 < (x1.length : Int)))) else (spec_l1Less.j1 k x0 x1 x5 false)
def spec_l1Less.j1 : Nat → List Int → List Int → Int → Bool → Option (Bool)
 | 0, _, _, _, _ => none
 | k + 1, x0, x1, x5, x15 => if x15 = true then (if 0 ≤ x5 then (if x5 < (x0.length : Int) then (if x5 < (x1.length : Int) then (if (rd x0 x5) = (rd x1 x5) then (spec_l1Less.l0 k x0 x1 (wrap64 (x5 + 1))) else (some (decide ((rd x0 x5) < (rd x1 x5))))) else (none)) else (none)) else (none)) else (some (decide ((x0.length : Int) < (x1.length : Int))))
end
def spec_l1Less.f (k : Nat) (l0 : List Int) (l1 : List Int) : Option (Bool) := spec_l1Less.l0 k l0 l1 0
set_option maxHeartbeats 8000000 in
set_option maxRecDepth 100000 in
theorem spec_l1Less.calls (k : Nat) (A0 : Option Addr) (c0 : Nat) (l0 : List Int) (A1 : Option Addr) (c1 : Nat) (l1 : List Int) (r : Bool) (w : World) (hr0 : Kd.C (Kd.int .i64) w A0 l0.length l0) (hc0 : l0.length ≤ c0) (hr1 : Kd.C (Kd.int .i64) w A1 l1.length l1) (hc1 : l1.length ≤ c1) (h : spec_l1Less.f k l0 l1 = some r) :
  Calls Try.prog 76 #[.slice A0 l0.length c0, .slice A1 l1.length c1] w fun e w' => e = .returned (.bool r) ∧ Drawn0 w w' := by
 have HR0 := sd_ hr0
 have HC0 := sd_ hc0
 clear hr0 hc0
 have HR1 := sd_ hr1
 have HC1 := sd_ hc1
 clear hr1 hc1
 have H : (spec_l1Less.l0 k l0 l1 0) = some r := h
 clear h
 have H' := sd_ H
 clear H
 go_enter Try.func76, Try.ntmps76
 go_wp2
 repeat (go_quiet (fail); try go_wp2)
 go_loopg [5] k (fun kq v5 w' => ∃ (x5_1 : Int), v5 = .int .i64 x5_1 ∧ Aside0 (spec_l1Less.l0 kq l0 l1 x5_1 = some r) ∧ Aside0 (kq ≤ k) ∧ Drawn0 w w')
 case atStart => exact ⟨(0), sm_, H', ⟨Nat.le_refl _⟩, by repeat (first | exact Drawn0.refl _ | apply Drawn0.step)⟩
 case round =>
  clear H'
  try clear c1
  try clear p2
  obtain ⟨x5_1, rfl, HA, HK1, ⟨m1, rfl⟩⟩ := hrel
  cases gk with
  | zero => exact absurd HA.out (by simp [spec_l1Less.l0])
  | succ k1 =>
   have H := HA.out
   clear HA
   simp only [spec_l1Less.l0] at H
   have HC3 := sd_ H
   clear H
   go_upto_region 2 with (fail)
   repeat (go_quiet (fail); go_upto_region 2 with (fail))
   go_cut [15] (fun v15 wc => ∃ (kq : Nat) (x15_2 : Bool), v15 = .bool x15_2 ∧ Aside0 (spec_l1Less.j1 kq l0 l1 x5_1 x15_2 = some r) ∧ Aside0 (kq ≤ k1) ∧ Drawn0 w wc)
   case first =>
    have H := HC3.out
    clear HC3
    by_cases c4 : x5_1 < (l0.length : Int)
    ·rw [if_pos c4] at H
     have c4b0 : decide (x5_1 < (l0.length : Int)) = true := decide_eq_true c4
     clear c4
     (first | rw [c4b0] | (simp only [i64_w, i32_w]; rw [c4b0]) | skip)
     have H' := sd_ H
     clear H
     go_wp2
     repeat (go_quiet (fail); try go_wp2)
     go_meet
     case rel => exact ⟨_, (decide (x5_1 < (l1.length : Int))), sm_, H', ⟨by have := HK1.out; first | omega | exact Nat.le_refl _⟩, by repeat (first | exact Drawn0.refl _ | apply Drawn0.step)⟩
    rw [if_neg c4] at H
    have c4b0 : decide (x5_1 < (l0.length : Int)) = false := decide_eq_false c4
    clear c4
    (first | rw [c4b0] | (simp only [i64_w, i32_w]; rw [c4b0]) | skip)
    have H' := sd_ H
    clear H
    go_wp2
    repeat (go_quiet (fail); try go_wp2)
    go_meet
    case rel => exact ⟨_, (false), sm_, H', ⟨by have := HK1.out; first | omega | exact Nat.le_refl _⟩, by repeat (first | exact Drawn0.refl _ | apply Drawn0.step)⟩
   case rest =>
    clear HC3
    try clear c1
    try clear p2
    try clear p2
    obtain ⟨kq, x15_2, rfl, HA, HJ2, ⟨mc2, rfl⟩⟩ := hcut
    cases kq with
    | zero => exact absurd HA.out (by simp [spec_l1Less.j1])
    | succ kj2 =>
     have H := HA.out
     clear HA
     simp only [spec_l1Less.j1] at H
     by_cases c5 : x15_2 = true
     ·subst c5
      have H1 : (if 0 ≤ x5_1 then (if x5_1 < (l0.length : Int) then (if x5_1 < (l1.length : Int) then (if (rd l0 x5_1) = (rd l1 x5_1) then (spec_l1Less.l0 kj2 l0 l1 (wrap64 (x5_1 + 1))) else (some (decide ((rd l0 x5_1) < (rd l1 x5_1))))) else (none)) else (none)) else (none)) = some r := by rw [if_pos rfl] at H; exact H
      clear H
      have H := H1
      clear H1
      by_cases c6 : 0 ≤ x5_1
      ·rw [if_pos c6] at H
       have c6b0 : decide (0 ≤ x5_1) = true := decide_eq_true c6
       clear c6
       by_cases c7 : x5_1 < (l0.length : Int)
       ·rw [if_pos c7] at H
        have c7b0 : decide (x5_1 < (l0.length : Int)) = true := decide_eq_true c7
        clear c7
        by_cases c8 : x5_1 < (l1.length : Int)
        ·rw [if_pos c8] at H
         have c8b0 : decide (x5_1 < (l1.length : Int)) = true := decide_eq_true c8
         clear c8
         by_cases c9 : (rd l0 x5_1) = (rd l1 x5_1)
         ·rw [if_pos c9] at H
          have c9b0 : ((rd l0 x5_1) == (rd l1 x5_1)) = true := beq_iff_eq.mpr c9
          have c9b1 : ((rd l0 x5_1) != (rd l1 x5_1)) = false := bne_eq_false_iff_eq.mpr c9
          clear c9
          have H' := sd_ H
          clear H
          have p260 : 0 ≤ (x5_1 : Int) := dt_
          have q260 : x5_1 < (l0.length : Int) := dt_
          obtain ⟨ad260, e260, hx260_0⟩ := Kd.at_int HR0.out x5_1 p260 q260
          cases e260
          replace p260 := eq_true p260
          replace q260 := eq_true q260
          have p261 : 0 ≤ (x5_1 : Int) := dt_
          have q261 : x5_1 < (l1.length : Int) := dt_
          obtain ⟨ad261, e261, hx261_0⟩ := Kd.at_int HR1.out x5_1 p261 q261
          cases e261
          replace p261 := eq_true p261
          replace q261 := eq_true q261
          go_wp2
          repeat (go_quiet (fail); try go_wp2)
          go_roundg kj2
          case measure => have := HK1.out; have := HJ2.out; omega
          case rel => exact ⟨(wrap64 (x5_1 + 1)), sm_, H', ⟨by have := HK1.out; have := HJ2.out; omega⟩, by repeat (first | exact Drawn0.refl _ | apply Drawn0.step)⟩
         rw [if_neg c9] at H
         have c9b0 : ((rd l0 x5_1) == (rd l1 x5_1)) = false := beq_eq_false_iff_ne.mpr c9
         have c9b1 : ((rd l0 x5_1) != (rd l1 x5_1)) = true := bne_iff_ne.mpr c9
         obtain rfl := Option.some.inj H
         have p260 : 0 ≤ (x5_1 : Int) := dt_
         have q260 : x5_1 < (l0.length : Int) := dt_
         obtain ⟨ad260, e260, hx260_0⟩ := Kd.at_int HR0.out x5_1 p260 q260
         cases e260
         replace p260 := eq_true p260
         replace q260 := eq_true q260
         have p261 : 0 ≤ (x5_1 : Int) := dt_
         have q261 : x5_1 < (l1.length : Int) := dt_
         obtain ⟨ad261, e261, hx261_0⟩ := Kd.at_int HR1.out x5_1 p261 q261
         cases e261
         replace p261 := eq_true p261
         replace q261 := eq_true q261
         have p262 : 0 ≤ (x5_1 : Int) := dt_
         have q262 : x5_1 < (l0.length : Int) := dt_
         obtain ⟨ad262, e262, hx262_0⟩ := Kd.at_int HR0.out x5_1 p262 q262
         obtain rfl : ad260 = ad262 := (by injection e262)
         replace p262 := eq_true p262
         replace q262 := eq_true q262
         have p263 : 0 ≤ (x5_1 : Int) := dt_
         have q263 : x5_1 < (l1.length : Int) := dt_
         obtain ⟨ad263, e263, hx263_0⟩ := Kd.at_int HR1.out x5_1 p263 q263
         obtain rfl : ad261 = ad263 := (by injection e263)
         replace p263 := eq_true p263
         replace q263 := eq_true q263
         go_wp2
         repeat (go_quiet (fail); try go_wp2)
         go_ret
         exact ⟨by first | rfl | (simp; done) | (simp [*]; done), by repeat (first | exact Drawn0.refl _ | apply Drawn0.step)⟩
        rw [if_neg c8] at H
        exact absurd H (by simp)
       rw [if_neg c7] at H
       exact absurd H (by simp)
      rw [if_neg c6] at H
      exact absurd H (by simp)
     replace c5 := Bool.eq_false_iff.mpr c5
     subst c5
     have H1 : (some (decide ((l0.length : Int) < (l1.length : Int)))) = some r := by rw [if_neg (show ¬ (false = true) by decide)] at H; exact H
     clear H
     have H := H1
     clear H1
     obtain rfl := Option.some.inj H
     go_wp2
     repeat (go_quiet (fail); try go_wp2)
     go_ret
     exact ⟨by first | rfl | (simp; done) | (simp [*]; done), by repeat (first | exact Drawn0.refl _ | apply Drawn0.step)⟩


/-! ### spec_l1Tables: function 99 -/
mutual
def spec_l1Tables.j0 : Nat → Bool → Int → List Int → List Int → List Bool → Option (Bool)
 | 0, _, _, _, _, _ => none
 | k + 1, x40, x146000, x146001, x146002, x146003 => if x40 = true then (some false) else (spec_l1Tables.l0 k 0 x146000 x146001 x146002 x146003)
def spec_l1Tables.l0 : Nat → Int → Int → List Int → List Int → List Bool → Option (Bool)
 | 0, _, _, _, _, _ => none
 | k + 1, x3, x146000, x146001, x146002, x146003 => if x3 < (x146001.length : Int) then (if 0 ≤ x3 then ((spec_l1In.f (rd x146001 x3) 0 (wrap64 (x146000 - 1))).bind fun t148 => (if t148 = true then (if x3 < (x146002.length : Int) then ((spec_l1In.f (rd x146002 x3) 0 (wrap64 (x146000 - 1))).bind fun t150 => (if t150 = true then (spec_l1Tables.l0 k (wrap64 (x3 + 1)) x146000 x146001 x146002 x146003) else (some false))) else (none)) else (some false))) else (none)) else (some true)
end
def spec_l1Tables.f (k : Nat) (a0_0 : Int) (l0_1 : List Int) (l0_2 : List Int) (l0_3 : List Bool) : Option (Bool) := (spec_l1In.f a0_0 2 16).bind fun t146 => (if t146 = true then (if (l0_1.length : Int) = (wrap64 (a0_0 * a0_0)) then (if (l0_2.length : Int) = (wrap64 (a0_0 * a0_0)) then (spec_l1Tables.j0 k ((l0_3.length : Int) != (wrap64 (a0_0 * a0_0))) a0_0 l0_1 l0_2 l0_3) else (spec_l1Tables.j0 k true a0_0 l0_1 l0_2 l0_3)) else (spec_l1Tables.j0 k true a0_0 l0_1 l0_2 l0_3)) else (spec_l1Tables.j0 k true a0_0 l0_1 l0_2 l0_3))
set_option maxHeartbeats 8000000 in
set_option maxRecDepth 100000 in
theorem spec_l1Tables.calls (k : Nat) (a0_0 : Int) (A0_1 : Option Addr) (c0_1 : Nat) (l0_1 : List Int) (A0_2 : Option Addr) (c0_2 : Nat) (l0_2 : List Int) (A0_3 : Option Addr) (c0_3 : Nat) (l0_3 : List Bool) (r : Bool) (w : World) (hr0_1 : Kd.C (Kd.int .i64) w A0_1 l0_1.length l0_1) (hc0_1 : l0_1.length ≤ c0_1) (hr0_2 : Kd.C (Kd.int .i64) w A0_2 l0_2.length l0_2) (hc0_2 : l0_2.length ≤ c0_2) (hr0_3 : Kd.C Kd.bool w A0_3 l0_3.length l0_3) (hc0_3 : l0_3.length ≤ c0_3) (h : spec_l1Tables.f k a0_0 l0_1 l0_2 l0_3 = some r) :
  Calls Try.prog 99 #[.agg #[.int .i64 a0_0, .slice A0_1 l0_1.length c0_1, .slice A0_2 l0_2.length c0_2, .slice A0_3 l0_3.length c0_3]] w fun e w' => e = .returned (.bool r) ∧ Below w.heap.size w w' := by
 have hu27 := Try.underlying27
 have HR0_1 := sd_ hr0_1
 have HC0_1 := sd_ hc0_1
 clear hr0_1 hc0_1
 have HR0_2 := sd_ hr0_2
 have HC0_2 := sd_ hc0_2
 clear hr0_2 hc0_2
 have HR0_3 := sd_ hr0_3
 have HC0_3 := sd_ hc0_3
 clear hr0_3 hc0_3
 have HB := sd_ (Below.refl w.heap.size w)
 have H : ((spec_l1In.f a0_0 2 16).bind fun t146 => (if t146 = true then (if (l0_1.length : Int) = (wrap64 (a0_0 * a0_0)) then (if (l0_2.length : Int) = (wrap64 (a0_0 * a0_0)) then (spec_l1Tables.j0 k ((l0_3.length : Int) != (wrap64 (a0_0 * a0_0))) a0_0 l0_1 l0_2 l0_3) else (spec_l1Tables.j0 k true a0_0 l0_1 l0_2 l0_3)) else (spec_l1Tables.j0 k true a0_0 l0_1 l0_2 l0_3)) else (spec_l1Tables.j0 k true a0_0 l0_1 l0_2 l0_3))) = some r := h
 clear h
 have HC2 := sd_ H
 clear H
 go_enter Try.func99, Try.ntmps99
 go_upto_region 1 with (first | ((with_reducible refine gate_dst (N := 1) rfl ?_); (try (refine gate_guard (by rfl) ?_; dsimp only)); refine bx_ (N := 1) (cs := #[.int .i64 a0_0, .slice A0_1 l0_1.length c0_1, .slice A0_2 l0_2.length c0_2, .slice A0_3 l0_3.length c0_3]) (t := 27) ?_; intro gb145 hg w3 hbox hb; have BK145 := sd_ (hbox); have GW145 := sd_ (gs_ hg (bw0_ HB.out)); have GE145 := sd_ (gs_ hg (bw0_ HB.out)); replace HB := sd_ (below_step (bw0_ HB.out) hb); clear hb hbox hg))
 (try simp only [Act.put, List.setIfInBounds_toArray, List.set_cons_zero, List.set_cons_succ])
 go_cut [40] (fun v40 wc => ∃ (kq : Nat) (x40_1 : Bool), v40 = .bool x40_1 ∧ Aside0 (spec_l1Tables.j0 kq x40_1 a0_0 l0_1 l0_2 l0_3 = some r) ∧ Aside0 (kq ≤ k) ∧ Aside0 (wc.heap[gb145]? = some (.cells #[.int .i64 a0_0, (.slice A0_1 l0_1.length c0_1), (.slice A0_2 l0_2.length c0_2), (.slice A0_3 l0_3.length c0_3)] 27 (0, 0))) ∧ Aside0 (Below w.heap.size w wc))
 case first =>
  have H := HC2.out
  clear HC2
  replace H := Option.bind_eq_some_iff.mp H
  obtain ⟨t146, A40, H⟩ := H
  try dsimp only at H
  have A4 := sd_ A40
  clear A40
  by_cases c5 : t146 = true
  ·subst c5
   have H1 : (if (l0_1.length : Int) = (wrap64 (a0_0 * a0_0)) then (if (l0_2.length : Int) = (wrap64 (a0_0 * a0_0)) then (spec_l1Tables.j0 k ((l0_3.length : Int) != (wrap64 (a0_0 * a0_0))) a0_0 l0_1 l0_2 l0_3) else (spec_l1Tables.j0 k true a0_0 l0_1 l0_2 l0_3)) else (spec_l1Tables.j0 k true a0_0 l0_1 l0_2 l0_3)) = some r := by rw [if_pos rfl] at H; exact H
   clear H
   have H := H1
   clear H1
   by_cases c6 : (l0_1.length : Int) = (wrap64 (a0_0 * a0_0))
   ·rw [if_pos c6] at H
    have c6b0 : ((l0_1.length : Int) == (wrap64 (a0_0 * a0_0))) = true := beq_iff_eq.mpr c6
    have c6b1 : ((l0_1.length : Int) != (wrap64 (a0_0 * a0_0))) = false := bne_eq_false_iff_eq.mpr c6
    clear c6
    (first | rw [c6b0] | (simp only [i64_w, i32_w]; rw [c6b0]) | skip)
    by_cases c7 : (l0_2.length : Int) = (wrap64 (a0_0 * a0_0))
    ·rw [if_pos c7] at H
     have c7b0 : ((l0_2.length : Int) == (wrap64 (a0_0 * a0_0))) = true := beq_iff_eq.mpr c7
     have c7b1 : ((l0_2.length : Int) != (wrap64 (a0_0 * a0_0))) = false := bne_eq_false_iff_eq.mpr c7
     clear c7
     have H' := sd_ H
     clear H
     obtain ⟨hcz8_0, hcz8_1, hcz8_2, hcz8_3, hfz8_0, hfz8_1, hfz8_2, hfz8_3⟩ := bf4_ BK145.out
     go_wp2_with (first | ((with_reducible refine gate_callee (f := 112) rfl ?_); refine goesL_ (some 6) rfl rfl Try.func112 (by kernel_rfl) rfl #[.int .i64 a0_0, .int .i64 2, .int .i64 16] rfl la_ ?_; (with_reducible refine (spec_l1In.calls a0_0 2 16 true _ A4.out).mono ?_); rintro e w' ⟨rfl, ⟨nd, rfl⟩⟩; refine ⟨_, rfl, ?_⟩))
     go_meet
     case rel => exact ⟨_, (((l0_3.length : Int) != (wrap64 (a0_0 * a0_0)))), sm_, H', ⟨by first | omega | exact Nat.le_refl _⟩, ⟨by exact bz_ BK145.out⟩, ⟨bw1_ HB.out GE145.out⟩⟩
    rw [if_neg c7] at H
    have c7b0 : ((l0_2.length : Int) == (wrap64 (a0_0 * a0_0))) = false := beq_eq_false_iff_ne.mpr c7
    have c7b1 : ((l0_2.length : Int) != (wrap64 (a0_0 * a0_0))) = true := bne_iff_ne.mpr c7
    have H' := sd_ H
    clear H
    obtain ⟨hcz9_0, hcz9_1, hcz9_2, hcz9_3, hfz9_0, hfz9_1, hfz9_2, hfz9_3⟩ := bf4_ BK145.out
    go_wp2_with (first | ((with_reducible refine gate_callee (f := 112) rfl ?_); refine goesL_ (some 6) rfl rfl Try.func112 (by kernel_rfl) rfl #[.int .i64 a0_0, .int .i64 2, .int .i64 16] rfl la_ ?_; (with_reducible refine (spec_l1In.calls a0_0 2 16 true _ A4.out).mono ?_); rintro e w' ⟨rfl, ⟨nd, rfl⟩⟩; refine ⟨_, rfl, ?_⟩))
    go_meet
    case rel => exact ⟨_, (true), sm_, H', ⟨by first | omega | exact Nat.le_refl _⟩, ⟨by exact bz_ BK145.out⟩, ⟨bw1_ HB.out GE145.out⟩⟩
   rw [if_neg c6] at H
   have c6b0 : ((l0_1.length : Int) == (wrap64 (a0_0 * a0_0))) = false := beq_eq_false_iff_ne.mpr c6
   have c6b1 : ((l0_1.length : Int) != (wrap64 (a0_0 * a0_0))) = true := bne_iff_ne.mpr c6
   (first | rw [c6b0] | (simp only [i64_w, i32_w]; rw [c6b0]) | skip)
   have H' := sd_ H
   clear H
   obtain ⟨hcz10_0, hcz10_1, hcz10_2, hcz10_3, hfz10_0, hfz10_1, hfz10_2, hfz10_3⟩ := bf4_ BK145.out
   go_wp2_with (first | ((with_reducible refine gate_callee (f := 112) rfl ?_); refine goesL_ (some 6) rfl rfl Try.func112 (by kernel_rfl) rfl #[.int .i64 a0_0, .int .i64 2, .int .i64 16] rfl la_ ?_; (with_reducible refine (spec_l1In.calls a0_0 2 16 true _ A4.out).mono ?_); rintro e w' ⟨rfl, ⟨nd, rfl⟩⟩; refine ⟨_, rfl, ?_⟩))
   go_meet
   case rel => exact ⟨_, (true), sm_, H', ⟨by first | omega | exact Nat.le_refl _⟩, ⟨by exact bz_ BK145.out⟩, ⟨bw1_ HB.out GE145.out⟩⟩
  replace c5 := Bool.eq_false_iff.mpr c5
  subst c5
  have H1 : (spec_l1Tables.j0 k true a0_0 l0_1 l0_2 l0_3) = some r := by rw [if_neg (show ¬ (false = true) by decide)] at H; exact H
  clear H
  have H := H1
  clear H1
  have H' := sd_ H
  clear H
  obtain ⟨hcz11_0, hcz11_1, hcz11_2, hcz11_3, hfz11_0, hfz11_1, hfz11_2, hfz11_3⟩ := bf4_ BK145.out
  go_wp2_with (first | ((with_reducible refine gate_callee (f := 112) rfl ?_); refine goesL_ (some 6) rfl rfl Try.func112 (by kernel_rfl) rfl #[.int .i64 a0_0, .int .i64 2, .int .i64 16] rfl la_ ?_; (with_reducible refine (spec_l1In.calls a0_0 2 16 false _ A4.out).mono ?_); rintro e w' ⟨rfl, ⟨nd, rfl⟩⟩; refine ⟨_, rfl, ?_⟩))
  go_meet
  case rel => exact ⟨_, (true), sm_, H', ⟨by first | omega | exact Nat.le_refl _⟩, ⟨by exact bz_ BK145.out⟩, ⟨bw1_ HB.out GE145.out⟩⟩
 case rest =>
  clear HC2
  try clear p6
  try clear c9
  obtain ⟨kq, x40_1, rfl, HA, HJ1, BK145, HB⟩ := hcut
  cases kq with
  | zero => exact absurd HA.out (by simp [spec_l1Tables.j0])
  | succ kj1 =>
   have H := HA.out
   clear HA
   simp only [spec_l1Tables.j0] at H
   by_cases c12 : x40_1 = true
   ·subst c12
    have H1 : (some false) = some r := by rw [if_pos rfl] at H; exact H
    clear H
    have H := H1
    clear H1
    obtain rfl := Option.some.inj H
    go_wp2
    go_ret
    exact ⟨an_, bw1_ HB.out GE145.out⟩
   replace c12 := Bool.eq_false_iff.mpr c12
   subst c12
   have H1 : (spec_l1Tables.l0 kj1 0 a0_0 l0_1 l0_2 l0_3) = some r := by rw [if_neg (show ¬ (false = true) by decide)] at H; exact H
   clear H
   have H := H1
   clear H1
   have H' := sd_ H
   clear H
   go_wp2
   go_loopg [3] kj1 (fun kq v3 w' => ∃ (x3_2 : Int), v3 = .int .i64 x3_2 ∧ Aside0 (spec_l1Tables.l0 kq x3_2 a0_0 l0_1 l0_2 l0_3 = some r) ∧ Aside0 (kq ≤ kj1) ∧ Aside0 (w'.heap[gb145]? = some (.cells #[.int .i64 a0_0, (.slice A0_1 l0_1.length c0_1), (.slice A0_2 l0_2.length c0_2), (.slice A0_3 l0_3.length c0_3)] 27 (0, 0))) ∧ Aside0 (Below w.heap.size w w'))
   case atStart => exact ⟨(0), sm_, H', ⟨Nat.le_refl _⟩, ⟨by exact bz_ BK145.out⟩, ⟨bw1_ HB.out GE145.out⟩⟩
   case round =>
    clear H'
    try clear c1
    try clear p2
    try clear p6
    try clear c9
    try clear c12
    try clear p6
    obtain ⟨x3_2, rfl, HA, HK2, BK145, HB⟩ := hrel
    cases gk with
    | zero => exact absurd HA.out (by simp [spec_l1Tables.l0])
    | succ k2 =>
     have H := HA.out
     clear HA
     simp only [spec_l1Tables.l0] at H
     by_cases c13 : x3_2 < (l0_1.length : Int)
     ·rw [if_pos c13] at H
      have c13b0 : decide (x3_2 < (l0_1.length : Int)) = true := decide_eq_true c13
      clear c13
      by_cases c14 : 0 ≤ x3_2
      ·rw [if_pos c14] at H
       have c14b0 : decide (0 ≤ x3_2) = true := decide_eq_true c14
       clear c14
       replace H := Option.bind_eq_some_iff.mp H
       obtain ⟨t148, A150, H⟩ := H
       try dsimp only at H
       have A15 := sd_ A150
       clear A150
       by_cases c16 : t148 = true
       ·subst c16
        have H1 : (if x3_2 < (l0_2.length : Int) then ((spec_l1In.f (rd l0_2 x3_2) 0 (wrap64 (a0_0 - 1))).bind fun t150 => (if t150 = true then (spec_l1Tables.l0 k2 (wrap64 (x3_2 + 1)) a0_0 l0_1 l0_2 l0_3) else (some false))) else (none)) = some r := by rw [if_pos rfl] at H; exact H
        clear H
        have H := H1
        clear H1
        by_cases c17 : x3_2 < (l0_2.length : Int)
        ·rw [if_pos c17] at H
         have c17b0 : decide (x3_2 < (l0_2.length : Int)) = true := decide_eq_true c17
         clear c17
         replace H := Option.bind_eq_some_iff.mp H
         obtain ⟨t150, A180, H⟩ := H
         try dsimp only at H
         have A18 := sd_ A180
         clear A180
         by_cases c19 : t150 = true
         ·subst c19
          have H1 : (spec_l1Tables.l0 k2 (wrap64 (x3_2 + 1)) a0_0 l0_1 l0_2 l0_3) = some r := by rw [if_pos rfl] at H; exact H
          clear H
          have H := H1
          clear H1
          have H' := sd_ H
          clear H
          obtain ⟨hcz20_0, hcz20_1, hcz20_2, hcz20_3, hfz20_0, hfz20_1, hfz20_2, hfz20_3⟩ := bf4_ BK145.out
          try go_wp2
          have p147 : 0 ≤ (x3_2 : Int) := dt_
          have q147 : x3_2 < (l0_1.length : Int) := dt_
          obtain ⟨ad147, e147, hx147_0⟩ := Kd.at_int HR0_1.out x3_2 p147 q147
          cases e147
          replace hx147_0 := (HB.out.cell (World.block_lt_of_cell? w _ hx147_0)).trans hx147_0
          replace p147 := eq_true p147
          replace q147 := eq_true q147
          have p149 : 0 ≤ (x3_2 : Int) := dt_
          have q149 : x3_2 < (l0_2.length : Int) := dt_
          obtain ⟨ad149, e149, hx149_0⟩ := Kd.at_int HR0_2.out x3_2 p149 q149
          cases e149
          replace hx149_0 := (HB.out.cell (World.block_lt_of_cell? w _ hx149_0)).trans hx149_0
          replace p149 := eq_true p149
          replace q149 := eq_true q149
          refine qb_region (by kernel_rfl) (by kernel_rfl) ?_
          repeat ((first | (apply qb_skip; (focus rfl)) | (refine qb_callN 56 rfl ?_; apply qb_call 56 rfl Try.func112 (by kernel_rfl) rfl rfl; (focus rfl); (focus (exact fun wq9 hb9 => qb_d hb9 (spec_l1In.calls (rd l0_1 x3_2) 0 (wrap64 (a0_0 - 1)) true _ A15.out))); (focus (rfl))) | (refine qb_callN 67 rfl ?_; apply qb_call 67 rfl Try.func112 (by kernel_rfl) rfl rfl; (focus rfl); (focus (exact fun wq9 hb9 => qb_d hb9 (spec_l1In.calls (rd l0_2 x3_2) 0 (wrap64 (a0_0 - 1)) true _ A18.out))); (focus (rfl))) | (apply qb_val; (focus rfl); (focus (intro wq9 _; go_simp; with_reducible rfl))) | (apply qb_val; (focus rfl); (focus (intro wq9 hb9_; have hb9 : Below wr.heap.size wr wq9 := hb9_; have BK145 := sd_ (blk_below BK145.out hb9); have hc9_145_0 : wq9.cell? ⟨gb145, 0, none⟩ = some (.int .i64 a0_0) := (blk_cell BK145.out 0).trans rfl; have hc9_145_1 : wq9.cell? ⟨gb145, 1, none⟩ = some (.slice (some ad147) l0_1.length c0_1) := (blk_cell BK145.out 1).trans rfl; have hc9_145_2 : wq9.cell? ⟨gb145, 2, none⟩ = some (.slice (some ad149) l0_2.length c0_2) := (blk_cell BK145.out 2).trans rfl; have hc9_145_3 : wq9.cell? ⟨gb145, 3, none⟩ = some (.slice A0_3 l0_3.length c0_3) := (blk_cell BK145.out 3).trans rfl; have hx147_0 := (hb9.cell (World.block_lt_of_cell? _ _ hx147_0)).trans hx147_0; have hx149_0 := (hb9.cell (World.block_lt_of_cell? _ _ hx149_0)).trans hx149_0; go_simp; with_reducible rfl)))); (focus (simp only [Act.put, List.setIfInBounds_toArray, List.set_cons_zero, List.set_cons_succ, i64_w, i32_w]; rfl)))
          refine qb_nil ?_
          intro w21 hb
          replace BK145 := sd_ (blk_below BK145.out hb)
          replace HB := sd_ (below_step HB.out hb)
          clear hb
          (try clear HQ)
          try go_wp2
          go_roundg k2
          case measure => have := HJ1.out; have := HK2.out; omega
          case rel => exact ⟨(wrap64 (x3_2 + 1)), sm_, H', ⟨by have := HJ1.out; have := HK2.out; omega⟩, ⟨by exact bz_ BK145.out⟩, ⟨bw1_ HB.out GE145.out⟩⟩
         replace c19 := Bool.eq_false_iff.mpr c19
         subst c19
         have H1 : (some false) = some r := by rw [if_neg (show ¬ (false = true) by decide)] at H; exact H
         clear H
         have H := H1
         clear H1
         obtain rfl := Option.some.inj H
         obtain ⟨hcz22_0, hcz22_1, hcz22_2, hcz22_3, hfz22_0, hfz22_1, hfz22_2, hfz22_3⟩ := bf4_ BK145.out
         try go_wp2
         have p147 : 0 ≤ (x3_2 : Int) := dt_
         have q147 : x3_2 < (l0_1.length : Int) := dt_
         obtain ⟨ad147, e147, hx147_0⟩ := Kd.at_int HR0_1.out x3_2 p147 q147
         cases e147
         replace hx147_0 := (HB.out.cell (World.block_lt_of_cell? w _ hx147_0)).trans hx147_0
         replace p147 := eq_true p147
         replace q147 := eq_true q147
         have p149 : 0 ≤ (x3_2 : Int) := dt_
         have q149 : x3_2 < (l0_2.length : Int) := dt_
         obtain ⟨ad149, e149, hx149_0⟩ := Kd.at_int HR0_2.out x3_2 p149 q149
         cases e149
         replace hx149_0 := (HB.out.cell (World.block_lt_of_cell? w _ hx149_0)).trans hx149_0
         replace p149 := eq_true p149
         replace q149 := eq_true q149
         refine qb_region (by kernel_rfl) (by kernel_rfl) ?_
         repeat ((first | (apply qb_skip; (focus rfl)) | (refine qb_callN 56 rfl ?_; apply qb_call 56 rfl Try.func112 (by kernel_rfl) rfl rfl; (focus rfl); (focus (exact fun wq9 hb9 => qb_d hb9 (spec_l1In.calls (rd l0_1 x3_2) 0 (wrap64 (a0_0 - 1)) true _ A15.out))); (focus (rfl))) | (refine qb_callN 67 rfl ?_; apply qb_call 67 rfl Try.func112 (by kernel_rfl) rfl rfl; (focus rfl); (focus (exact fun wq9 hb9 => qb_d hb9 (spec_l1In.calls (rd l0_2 x3_2) 0 (wrap64 (a0_0 - 1)) false _ A18.out))); (focus (rfl))) | (apply qb_val; (focus rfl); (focus (intro wq9 _; go_simp; with_reducible rfl))) | (apply qb_val; (focus rfl); (focus (intro wq9 hb9_; have hb9 : Below wr.heap.size wr wq9 := hb9_; have BK145 := sd_ (blk_below BK145.out hb9); have hc9_145_0 : wq9.cell? ⟨gb145, 0, none⟩ = some (.int .i64 a0_0) := (blk_cell BK145.out 0).trans rfl; have hc9_145_1 : wq9.cell? ⟨gb145, 1, none⟩ = some (.slice (some ad147) l0_1.length c0_1) := (blk_cell BK145.out 1).trans rfl; have hc9_145_2 : wq9.cell? ⟨gb145, 2, none⟩ = some (.slice (some ad149) l0_2.length c0_2) := (blk_cell BK145.out 2).trans rfl; have hc9_145_3 : wq9.cell? ⟨gb145, 3, none⟩ = some (.slice A0_3 l0_3.length c0_3) := (blk_cell BK145.out 3).trans rfl; have hx147_0 := (hb9.cell (World.block_lt_of_cell? _ _ hx147_0)).trans hx147_0; have hx149_0 := (hb9.cell (World.block_lt_of_cell? _ _ hx149_0)).trans hx149_0; go_simp; with_reducible rfl)))); (focus (simp only [Act.put, List.setIfInBounds_toArray, List.set_cons_zero, List.set_cons_succ, i64_w, i32_w]; rfl)))
         refine qb_nil ?_
         intro w23 hb
         replace BK145 := sd_ (blk_below BK145.out hb)
         replace HB := sd_ (below_step HB.out hb)
         clear hb
         (try clear HQ)
         try go_wp2
         go_ret
         exact ⟨an_, bw1_ HB.out GE145.out⟩
        rw [if_neg c17] at H
        exact absurd H (by simp)
       replace c16 := Bool.eq_false_iff.mpr c16
       subst c16
       have H1 : (some false) = some r := by rw [if_neg (show ¬ (false = true) by decide)] at H; exact H
       clear H
       have H := H1
       clear H1
       obtain rfl := Option.some.inj H
       obtain ⟨hcz24_0, hcz24_1, hcz24_2, hcz24_3, hfz24_0, hfz24_1, hfz24_2, hfz24_3⟩ := bf4_ BK145.out
       try go_wp2
       have p147 : 0 ≤ (x3_2 : Int) := dt_
       have q147 : x3_2 < (l0_1.length : Int) := dt_
       obtain ⟨ad147, e147, hx147_0⟩ := Kd.at_int HR0_1.out x3_2 p147 q147
       cases e147
       replace hx147_0 := (HB.out.cell (World.block_lt_of_cell? w _ hx147_0)).trans hx147_0
       replace p147 := eq_true p147
       replace q147 := eq_true q147
       refine qb_region (by kernel_rfl) (by kernel_rfl) ?_
       repeat ((first | (apply qb_skip; (focus rfl)) | (refine qb_callN 56 rfl ?_; apply qb_call 56 rfl Try.func112 (by kernel_rfl) rfl rfl; (focus rfl); (focus (exact fun wq9 hb9 => qb_d hb9 (spec_l1In.calls (rd l0_1 x3_2) 0 (wrap64 (a0_0 - 1)) false _ A15.out))); (focus (rfl))) | (apply qb_val; (focus rfl); (focus (intro wq9 _; go_simp; with_reducible rfl))) | (apply qb_val; (focus rfl); (focus (intro wq9 hb9_; have hb9 : Below wr.heap.size wr wq9 := hb9_; have BK145 := sd_ (blk_below BK145.out hb9); have hc9_145_0 : wq9.cell? ⟨gb145, 0, none⟩ = some (.int .i64 a0_0) := (blk_cell BK145.out 0).trans rfl; have hc9_145_1 : wq9.cell? ⟨gb145, 1, none⟩ = some (.slice (some ad147) l0_1.length c0_1) := (blk_cell BK145.out 1).trans rfl; have hc9_145_2 : wq9.cell? ⟨gb145, 2, none⟩ = some (.slice A0_2 l0_2.length c0_2) := (blk_cell BK145.out 2).trans rfl; have hc9_145_3 : wq9.cell? ⟨gb145, 3, none⟩ = some (.slice A0_3 l0_3.length c0_3) := (blk_cell BK145.out 3).trans rfl; have hx147_0 := (hb9.cell (World.block_lt_of_cell? _ _ hx147_0)).trans hx147_0; go_simp; with_reducible rfl)))); (focus (simp only [Act.put, List.setIfInBounds_toArray, List.set_cons_zero, List.set_cons_succ, i64_w, i32_w]; rfl)))
       refine qb_nil ?_
       intro w25 hb
       replace BK145 := sd_ (blk_below BK145.out hb)
       replace HB := sd_ (below_step HB.out hb)
       clear hb
       (try clear HQ)
       try go_wp2
       go_ret
       exact ⟨an_, bw1_ HB.out GE145.out⟩
      rw [if_neg c14] at H
      exact absurd H (by simp)
     rw [if_neg c13] at H
     have c13b0 : decide (x3_2 < (l0_1.length : Int)) = false := decide_eq_false c13
     clear c13
     obtain rfl := Option.some.inj H
     obtain ⟨hcz26_0, hcz26_1, hcz26_2, hcz26_3, hfz26_0, hfz26_1, hfz26_2, hfz26_3⟩ := bf4_ BK145.out
     go_wp2
     go_ret
     exact ⟨an_, bw1_ HB.out GE145.out⟩


/-! ### cmp_Compare_int: function 110 -/
def cmp_Compare_int.f (a0 : Int) (a1 : Int) : Option (Int) := (cmp_isNaN_int.f a0).bind fun t377 => ((cmp_isNaN_int.f a1).bind fun t378 => (if t377 = true then (if t378 = true then (some 0) else (some (-1))) else (if t378 = true then (some 1) else (if a0 < a1 then (some (-1)) else (if a0 > a1 then (some 1) else (some 0))))))
set_option maxHeartbeats 8000000 in
set_option maxRecDepth 100000 in
theorem cmp_Compare_int.calls (a0 : Int) (a1 : Int) (r : Int) (w : World) (h : cmp_Compare_int.f a0 a1 = some r) :
  Calls Try.prog 110 #[.int .i64 a0, .int .i64 a1] w fun e w' => e = .returned (.int .i64 r) ∧ Drawn0 w w' := by
 have H : ((cmp_isNaN_int.f a0).bind fun t377 => ((cmp_isNaN_int.f a1).bind fun t378 => (if t377 = true then (if t378 = true then (some 0) else (some (-1))) else (if t378 = true then (some 1) else (if a0 < a1 then (some (-1)) else (if a0 > a1 then (some 1) else (some 0))))))) = some r := h
 clear h
 replace H := Option.bind_eq_some_iff.mp H
 obtain ⟨t377, A30, H⟩ := H
 try dsimp only at H
 have A3 := sd_ A30
 clear A30
 replace H := Option.bind_eq_some_iff.mp H
 obtain ⟨t378, A40, H⟩ := H
 try dsimp only at H
 have A4 := sd_ A40
 clear A40
 by_cases c5 : t377 = true
 ·subst c5
  have H1 : (if t378 = true then (some 0) else (some (-1))) = some r := by rw [if_pos rfl] at H; exact H
  clear H
  have H := H1
  clear H1
  by_cases c6 : t378 = true
  ·subst c6
   have H1 : (some 0) = some r := by rw [if_pos rfl] at H; exact H
   clear H
   have H := H1
   clear H1
   obtain rfl := Option.some.inj H
   go_enter Try.func110, Try.ntmps110
   go_wp2_with (first | ((with_reducible refine gate_callee (f := 135) rfl ?_); refine goesL_ (some 8) rfl rfl Try.func135 (by kernel_rfl) rfl #[.int .i64 a0] rfl la_ ?_; (with_reducible refine (cmp_isNaN_int.calls a0 true _ A3.out).mono ?_); rintro e w' ⟨rfl, ⟨nd, rfl⟩⟩; refine ⟨_, rfl, ?_⟩) | ((with_reducible refine gate_callee (f := 135) rfl ?_); refine goesL_ (some 10) rfl rfl Try.func135 (by kernel_rfl) rfl #[.int .i64 a1] rfl la_ ?_; (with_reducible refine (cmp_isNaN_int.calls a1 true _ A4.out).mono ?_); rintro e w' ⟨rfl, ⟨nd, rfl⟩⟩; refine ⟨_, rfl, ?_⟩))
   go_ret
   exact ⟨by first | rfl | (simp; done) | (simp [*]; done), by repeat (first | exact Drawn0.refl _ | apply Drawn0.step)⟩
  replace c6 := Bool.eq_false_iff.mpr c6
  subst c6
  have H1 : (some (-1)) = some r := by rw [if_neg (show ¬ (false = true) by decide)] at H; exact H
  clear H
  have H := H1
  clear H1
  obtain rfl := Option.some.inj H
  go_enter Try.func110, Try.ntmps110
  go_wp2_with (first | ((with_reducible refine gate_callee (f := 135) rfl ?_); refine goesL_ (some 8) rfl rfl Try.func135 (by kernel_rfl) rfl #[.int .i64 a0] rfl la_ ?_; (with_reducible refine (cmp_isNaN_int.calls a0 true _ A3.out).mono ?_); rintro e w' ⟨rfl, ⟨nd, rfl⟩⟩; refine ⟨_, rfl, ?_⟩) | ((with_reducible refine gate_callee (f := 135) rfl ?_); refine goesL_ (some 10) rfl rfl Try.func135 (by kernel_rfl) rfl #[.int .i64 a1] rfl la_ ?_; (with_reducible refine (cmp_isNaN_int.calls a1 false _ A4.out).mono ?_); rintro e w' ⟨rfl, ⟨nd, rfl⟩⟩; refine ⟨_, rfl, ?_⟩))
  go_ret
  exact ⟨by first | rfl | (simp; done) | (simp [*]; done), by repeat (first | exact Drawn0.refl _ | apply Drawn0.step)⟩
 replace c5 := Bool.eq_false_iff.mpr c5
 subst c5
 have H1 : (if t378 = true then (some 1) else (if a0 < a1 then (some (-1)) else (if a0 > a1 then (some 1) else (some 0)))) = some r := by rw [if_neg (show ¬ (false = true) by decide)] at H; exact H
 clear H
 have H := H1
 clear H1
 by_cases c7 : t378 = true
 ·subst c7
  have H1 : (some 1) = some r := by rw [if_pos rfl] at H; exact H
  clear H
  have H := H1
  clear H1
  obtain rfl := Option.some.inj H
  go_enter Try.func110, Try.ntmps110
  go_wp2_with (first | ((with_reducible refine gate_callee (f := 135) rfl ?_); refine goesL_ (some 8) rfl rfl Try.func135 (by kernel_rfl) rfl #[.int .i64 a0] rfl la_ ?_; (with_reducible refine (cmp_isNaN_int.calls a0 false _ A3.out).mono ?_); rintro e w' ⟨rfl, ⟨nd, rfl⟩⟩; refine ⟨_, rfl, ?_⟩) | ((with_reducible refine gate_callee (f := 135) rfl ?_); refine goesL_ (some 10) rfl rfl Try.func135 (by kernel_rfl) rfl #[.int .i64 a1] rfl la_ ?_; (with_reducible refine (cmp_isNaN_int.calls a1 true _ A4.out).mono ?_); rintro e w' ⟨rfl, ⟨nd, rfl⟩⟩; refine ⟨_, rfl, ?_⟩))
  go_ret
  exact ⟨by first | rfl | (simp; done) | (simp [*]; done), by repeat (first | exact Drawn0.refl _ | apply Drawn0.step)⟩
 replace c7 := Bool.eq_false_iff.mpr c7
 subst c7
 have H1 : (if a0 < a1 then (some (-1)) else (if a0 > a1 then (some 1) else (some 0))) = some r := by rw [if_neg (show ¬ (false = true) by decide)] at H; exact H
 clear H
 have H := H1
 clear H1
 by_cases c8 : a0 < a1
 ·rw [if_pos c8] at H
  have c8b0 : decide (a0 < a1) = true := decide_eq_true c8
  clear c8
  obtain rfl := Option.some.inj H
  go_enter Try.func110, Try.ntmps110
  go_wp2_with (first | ((with_reducible refine gate_callee (f := 135) rfl ?_); refine goesL_ (some 8) rfl rfl Try.func135 (by kernel_rfl) rfl #[.int .i64 a0] rfl la_ ?_; (with_reducible refine (cmp_isNaN_int.calls a0 false _ A3.out).mono ?_); rintro e w' ⟨rfl, ⟨nd, rfl⟩⟩; refine ⟨_, rfl, ?_⟩) | ((with_reducible refine gate_callee (f := 135) rfl ?_); refine goesL_ (some 10) rfl rfl Try.func135 (by kernel_rfl) rfl #[.int .i64 a1] rfl la_ ?_; (with_reducible refine (cmp_isNaN_int.calls a1 false _ A4.out).mono ?_); rintro e w' ⟨rfl, ⟨nd, rfl⟩⟩; refine ⟨_, rfl, ?_⟩))
  go_ret
  exact ⟨by first | rfl | (simp; done) | (simp [*]; done), by repeat (first | exact Drawn0.refl _ | apply Drawn0.step)⟩
 rw [if_neg c8] at H
 have c8b0 : decide (a0 < a1) = false := decide_eq_false c8
 clear c8
 by_cases c9 : a0 > a1
 ·rw [if_pos c9] at H
  have c9b0 : decide (a1 < a0) = true := decide_eq_true c9
  clear c9
  obtain rfl := Option.some.inj H
  go_enter Try.func110, Try.ntmps110
  go_wp2_with (first | ((with_reducible refine gate_callee (f := 135) rfl ?_); refine goesL_ (some 8) rfl rfl Try.func135 (by kernel_rfl) rfl #[.int .i64 a0] rfl la_ ?_; (with_reducible refine (cmp_isNaN_int.calls a0 false _ A3.out).mono ?_); rintro e w' ⟨rfl, ⟨nd, rfl⟩⟩; refine ⟨_, rfl, ?_⟩) | ((with_reducible refine gate_callee (f := 135) rfl ?_); refine goesL_ (some 10) rfl rfl Try.func135 (by kernel_rfl) rfl #[.int .i64 a1] rfl la_ ?_; (with_reducible refine (cmp_isNaN_int.calls a1 false _ A4.out).mono ?_); rintro e w' ⟨rfl, ⟨nd, rfl⟩⟩; refine ⟨_, rfl, ?_⟩))
  go_ret
  exact ⟨by first | rfl | (simp; done) | (simp [*]; done), by repeat (first | exact Drawn0.refl _ | apply Drawn0.step)⟩
 rw [if_neg c9] at H
 have c9b0 : decide (a1 < a0) = false := decide_eq_false c9
 clear c9
 obtain rfl := Option.some.inj H
 go_enter Try.func110, Try.ntmps110
 go_wp2_with (first | ((with_reducible refine gate_callee (f := 135) rfl ?_); refine goesL_ (some 8) rfl rfl Try.func135 (by kernel_rfl) rfl #[.int .i64 a0] rfl la_ ?_; (with_reducible refine (cmp_isNaN_int.calls a0 false _ A3.out).mono ?_); rintro e w' ⟨rfl, ⟨nd, rfl⟩⟩; refine ⟨_, rfl, ?_⟩) | ((with_reducible refine gate_callee (f := 135) rfl ?_); refine goesL_ (some 10) rfl rfl Try.func135 (by kernel_rfl) rfl #[.int .i64 a1] rfl la_ ?_; (with_reducible refine (cmp_isNaN_int.calls a1 false _ A4.out).mono ?_); rintro e w' ⟨rfl, ⟨nd, rfl⟩⟩; refine ⟨_, rfl, ?_⟩))
 go_ret
 exact ⟨by first | rfl | (simp; done) | (simp [*]; done), by repeat (first | exact Drawn0.refl _ | apply Drawn0.step)⟩

end Go.Proofs.Ytipfkicndjddgaa.P
end
