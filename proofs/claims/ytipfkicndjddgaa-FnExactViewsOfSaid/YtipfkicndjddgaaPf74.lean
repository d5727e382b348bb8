-- Printed by this session's own program (wip/tools/mkprint.py) out of the translation. Not trusted: Lean checks it.
import Derived.Test.YtipfkicndjddgaaP0
import Derived.Test.YtipfkicndjddgaaPf100
import Derived.Test.YtipfkicndjddgaaPf101
import Derived.Test.YtipfkicndjddgaaPf102
import Derived.Test.YtipfkicndjddgaaM7
/-! short words -/
namespace Go.Proofs.Ytipfkicndjddgaa.P
open Go.RowKit Go.Proofs.YtipfkicndjddgaaW.PrintWords Go.Proofs.YtipfkicndjddgaaW.PrintLast Go.Proofs.YtipfkicndjddgaaW.PrintMore
attribute [local go_sem] max2_int min2_int max_two min_two max_three min_three max_four min_four   -- for this text's walks alone
set_option linter.unusedVariables false
set_option linter.unusedSimpArgs false

/-! ### spec_IsSystem: function 74 -/
mutual
def spec_IsSystem.l0 : Nat → Int → Int → List Int → List Int → List Bool → Option (Bool)
 | 0, _, _, _, _, _ => none
 | k + 1, x3, x210000, x210001, x210002, x210003 => if x3 < x210000 then ((spec_l1One.f x210000 x210001 x210002 x210003 x3).bind fun t211 => (if t211 = true then (spec_IsSystem.l1 k x3 0 x210000 x210001 x210002 x210003) else (some false))) else (some true)
def spec_IsSystem.l1 : Nat → Int → Int → Int → List Int → List Int → List Bool → Option (Bool)
 | 0, _, _, _, _, _, _ => none
 | k + 1, x3, x4, x210000, x210001, x210002, x210003 => if x4 < x210000 then ((spec_l1Two.f k x210000 x210001 x210002 x210003 x3 x4).bind fun t212 => (if t212 = true then (spec_IsSystem.l2 k x3 x4 0 x210000 x210001 x210002 x210003) else (some false))) else (spec_IsSystem.l0 k (wrap64 (x3 + 1)) x210000 x210001 x210002 x210003)
def spec_IsSystem.l2 : Nat → Int → Int → Int → Int → List Int → List Int → List Bool → Option (Bool)
 | 0, _, _, _, _, _, _, _ => none
 | k + 1, x3, x4, x5, x210000, x210001, x210002, x210003 => if x5 < x210000 then ((spec_l1Three.f k x210000 x210001 x210002 x210003 x3 x4 x5).bind fun t213 => (if t213 = true then (spec_IsSystem.l2 k x3 x4 (wrap64 (x5 + 1)) x210000 x210001 x210002 x210003) else (some false))) else (spec_IsSystem.l1 k x3 (wrap64 (x4 + 1)) x210000 x210001 x210002 x210003)
end
def spec_IsSystem.f (k : Nat) (a0_0 : Int) (l0_1 : List Int) (l0_2 : List Int) (l0_3 : List Bool) : Option (Bool) := (spec_l1Tables.f k a0_0 l0_1 l0_2 l0_3).bind fun t210 => (if t210 = true then (spec_IsSystem.l0 k 0 a0_0 l0_1 l0_2 l0_3) else (some false))
set_option maxHeartbeats 8000000 in
set_option maxRecDepth 100000 in
theorem spec_IsSystem.calls (k : Nat) (a0_0 : Int) (A0_1 : Option Addr) (c0_1 : Nat) (l0_1 : List Int) (A0_2 : Option Addr) (c0_2 : Nat) (l0_2 : List Int) (A0_3 : Option Addr) (c0_3 : Nat) (l0_3 : List Bool) (r : Bool) (w : World) (hr0_1 : Kd.C (Kd.int .i64) w A0_1 l0_1.length l0_1) (hc0_1 : l0_1.length ≤ c0_1) (hr0_2 : Kd.C (Kd.int .i64) w A0_2 l0_2.length l0_2) (hc0_2 : l0_2.length ≤ c0_2) (hr0_3 : Kd.C Kd.bool w A0_3 l0_3.length l0_3) (hc0_3 : l0_3.length ≤ c0_3) (h : spec_IsSystem.f k a0_0 l0_1 l0_2 l0_3 = some r) :
  Calls Try.prog 74 #[.agg #[.int .i64 a0_0, .slice A0_1 l0_1.length c0_1, .slice A0_2 l0_2.length c0_2, .slice A0_3 l0_3.length c0_3]] w fun e w' => e = .returned (.bool r) ∧ Below w.heap.size w w' := by
 have hu27 := Try.underlying27
 have HR0_1 := sd_ hr0_1
 have HC0_1 := sd_ hc0_1
 clear hr0_1 hc0_1
 have HR0_2 := sd_ hr0_2
 have HC0_2 := sd_ hc0_2
 clear hr0_2 hc0_2
 have HR0_3 := sd_ hr0_3
 have HC0_3 := sd_ hc0_3
 clear hr0_3 hc0_3
 have HB := sd_ (Below.refl w.heap.size w)
 have H : ((spec_l1Tables.f k a0_0 l0_1 l0_2 l0_3).bind fun t210 => (if t210 = true then (spec_IsSystem.l0 k 0 a0_0 l0_1 l0_2 l0_3) else (some false))) = some r := h
 clear h
 replace H := Option.bind_eq_some_iff.mp H
 obtain ⟨t210, A20, H⟩ := H
 try dsimp only at H
 have A2 := sd_ A20
 clear A20
 have HP3 := sd_ H
 clear H
 go_enter Try.func74, Try.ntmps74
 go_upto_if 8 with (first | ((with_reducible refine gate_dst (N := 1) rfl ?_); refine bx_ (N := 1) (cs := #[.int .i64 a0_0, .slice A0_1 l0_1.length c0_1, .slice A0_2 l0_2.length c0_2, .slice A0_3 l0_3.length c0_3]) (t := 27) ?_; intro gb209 hg w4 hbox hb; have BK209 := sd_ (hbox); have GW209 := sd_ (gs_ hg (bw0_ HB.out)); have GE209 := sd_ (gs_ hg (bw0_ HB.out)); replace HB := sd_ (below_step (bw0_ HB.out) hb); clear hb hbox hg; obtain ⟨hcz5_0, hcz5_1, hcz5_2, hcz5_3, hfz5_0, hfz5_1, hfz5_2, hfz5_3⟩ := bf4_ BK209.out) | ((with_reducible refine gate_callee (f := 99) rfl ?_); refine goesL_ (some 7) rfl rfl Try.func99 (by kernel_rfl) rfl #[.agg #[.int .i64 a0_0, .slice A0_1 l0_1.length c0_1, .slice A0_2 l0_2.length c0_2, .slice A0_3 l0_3.length c0_3]] rfl la_ ?_; (with_reducible refine (spec_l1Tables.calls k a0_0 _ _ l0_1 _ _ l0_2 _ _ l0_3 t210 _ (kc_ HR0_1.out HB.out) HC0_1.out (kc_ HR0_2.out HB.out) HC0_2.out (kc_ HR0_3.out HB.out) HC0_3.out A2.out).mono ?_); rintro e w6 ⟨rfl, hb⟩; refine ⟨_, rfl, ?_⟩; replace BK209 := sd_ (bb_ BK209.out hb); replace HB := sd_ (below_step (bw1_ HB.out GE209.out) hb); (try clear hb)))
 have H := HP3.out
 clear HP3
 by_cases c7 : t210 = true
 ·subst c7
  have H1 : (spec_IsSystem.l0 k 0 a0_0 l0_1 l0_2 l0_3) = some r := by rw [if_pos rfl] at H; exact H
  clear H
  have H := H1
  clear H1
  have H' := sd_ H
  clear H
  go_wp2
  go_loopg [3] k (fun kq v3 w' => ∃ (x3_1 : Int), v3 = .int .i64 x3_1 ∧ Aside0 (spec_IsSystem.l0 kq x3_1 a0_0 l0_1 l0_2 l0_3 = some r) ∧ Aside0 (kq ≤ k) ∧ Aside0 (w'.heap[gb209]? = some (.cells #[.int .i64 a0_0, (.slice A0_1 l0_1.length c0_1), (.slice A0_2 l0_2.length c0_2), (.slice A0_3 l0_3.length c0_3)] 27 (0, 0))) ∧ Aside0 (Below w.heap.size w w'))
  case atStart => exact ⟨(0), sm_, H', ⟨Nat.le_refl _⟩, ⟨by exact bz_ BK209.out⟩, ⟨bw1_ HB.out GE209.out⟩⟩
  case round =>
   clear H'
   try clear p2
   try clear c7
   try clear hcz5_0
   try clear hcz5_1
   try clear hcz5_2
   try clear hcz5_3
   try clear hfz5_0
   try clear hfz5_1
   try clear hfz5_2
   try clear hfz5_3
   obtain ⟨x3_1, rfl, HA, HK1, BK209, HB⟩ := hrel
   cases gk with
   | zero => exact absurd HA.out (by simp [spec_IsSystem.l0])
   | succ k1 =>
    have H := HA.out
    clear HA
    simp only [spec_IsSystem.l0] at H
    by_cases c8 : x3_1 < a0_0
    ·rw [if_pos c8] at H
     have c8b0 : decide (x3_1 < a0_0) = true := decide_eq_true c8
     clear c8
     (first | rw [c8b0] | (simp only [i64_w, i32_w]; rw [c8b0]) | skip)
     replace H := Option.bind_eq_some_iff.mp H
     obtain ⟨t211, A90, H⟩ := H
     try dsimp only at H
     have A9 := sd_ A90
     clear A90
     have HP10 := sd_ H
     clear H
     obtain ⟨hcz11_0, hcz11_1, hcz11_2, hcz11_3, hfz11_0, hfz11_1, hfz11_2, hfz11_3⟩ := bf4_ BK209.out
     go_upto_if 18 with (first | ((with_reducible refine gate_callee (f := 100) rfl ?_); refine goesL_ (some 17) rfl rfl Try.func100 (by kernel_rfl) rfl #[.agg #[.int .i64 a0_0, .slice A0_1 l0_1.length c0_1, .slice A0_2 l0_2.length c0_2, .slice A0_3 l0_3.length c0_3], .int .i64 x3_1] rfl la_ ?_; (with_reducible refine (spec_l1One.calls a0_0 _ _ l0_1 _ _ l0_2 _ _ l0_3 x3_1 t211 _ (kc_ HR0_1.out HB.out) HC0_1.out (kc_ HR0_2.out HB.out) HC0_2.out (kc_ HR0_3.out HB.out) HC0_3.out A9.out).mono ?_); rintro e w12 ⟨rfl, hb⟩; refine ⟨_, rfl, ?_⟩; replace BK209 := sd_ (bb_ BK209.out hb); replace HB := sd_ (below_step (bw1_ HB.out GE209.out) hb); (try clear hb)))
     have H := HP10.out
     clear HP10
     by_cases c13 : t211 = true
     ·subst c13
      have H1 : (spec_IsSystem.l1 k1 x3_1 0 a0_0 l0_1 l0_2 l0_3) = some r := by rw [if_pos rfl] at H; exact H
      clear H
      have H := H1
      clear H1
      have H' := sd_ H
      clear H
      go_wp2
      go_loopg [4] k1 (fun kq v4 w' => ∃ (x4_2 : Int), v4 = .int .i64 x4_2 ∧ Aside0 (spec_IsSystem.l1 kq x3_1 x4_2 a0_0 l0_1 l0_2 l0_3 = some r) ∧ Aside0 (kq ≤ k1) ∧ Aside0 (w'.heap[gb209]? = some (.cells #[.int .i64 a0_0, (.slice A0_1 l0_1.length c0_1), (.slice A0_2 l0_2.length c0_2), (.slice A0_3 l0_3.length c0_3)] 27 (0, 0))) ∧ Aside0 (Below w.heap.size w w'))
      case atStart => exact ⟨(0), sm_, H', ⟨Nat.le_refl _⟩, ⟨by exact bz_ BK209.out⟩, ⟨bw1_ HB.out GE209.out⟩⟩
      case round =>
       clear H'
       try clear c1
       try clear p2
       try clear c7
       try clear c8
       try clear c8b0
       try clear c9
       try clear c10
       try clear c13
       try clear hcz11_0
       try clear hcz11_1
       try clear hcz11_2
       try clear hcz11_3
       try clear hcz5_0
       try clear hcz5_1
       try clear hcz5_2
       try clear hcz5_3
       try clear hfz11_0
       try clear hfz11_1
       try clear hfz11_2
       try clear hfz11_3
       try clear hfz5_0
       try clear hfz5_1
       try clear hfz5_2
       try clear hfz5_3
       try clear p2
       obtain ⟨x4_2, rfl, HA, HK2, BK209, HB⟩ := hrel
       cases gk with
       | zero => exact absurd HA.out (by simp [spec_IsSystem.l1])
       | succ k2 =>
        have H := HA.out
        clear HA
        simp only [spec_IsSystem.l1] at H
        by_cases c14 : x4_2 < a0_0
        ·rw [if_pos c14] at H
         have c14b0 : decide (x4_2 < a0_0) = true := decide_eq_true c14
         clear c14
         (first | rw [c14b0] | (simp only [i64_w, i32_w]; rw [c14b0]) | skip)
         replace H := Option.bind_eq_some_iff.mp H
         obtain ⟨t212, A150, H⟩ := H
         try dsimp only at H
         have A15 := sd_ A150
         clear A150
         have HP16 := sd_ H
         clear H
         obtain ⟨hcz17_0, hcz17_1, hcz17_2, hcz17_3, hfz17_0, hfz17_1, hfz17_2, hfz17_3⟩ := bf4_ BK209.out
         go_upto_if 29 with (first | ((with_reducible refine gate_callee (f := 101) rfl ?_); refine goesL_ (some 28) rfl rfl Try.func101 (by kernel_rfl) rfl #[.agg #[.int .i64 a0_0, .slice A0_1 l0_1.length c0_1, .slice A0_2 l0_2.length c0_2, .slice A0_3 l0_3.length c0_3], .int .i64 x3_1, .int .i64 x4_2] rfl la_ ?_; (with_reducible refine (spec_l1Two.calls k2 a0_0 _ _ l0_1 _ _ l0_2 _ _ l0_3 x3_1 x4_2 t212 _ (kc_ HR0_1.out HB.out) HC0_1.out (kc_ HR0_2.out HB.out) HC0_2.out (kc_ HR0_3.out HB.out) HC0_3.out A15.out).mono ?_); rintro e w18 ⟨rfl, hb⟩; refine ⟨_, rfl, ?_⟩; replace BK209 := sd_ (bb_ BK209.out hb); replace HB := sd_ (below_step (bw1_ HB.out GE209.out) hb); (try clear hb)))
         have H := HP16.out
         clear HP16
         by_cases c19 : t212 = true
         ·subst c19
          have H1 : (spec_IsSystem.l2 k2 x3_1 x4_2 0 a0_0 l0_1 l0_2 l0_3) = some r := by rw [if_pos rfl] at H; exact H
          clear H
          have H := H1
          clear H1
          have H' := sd_ H
          clear H
          go_wp2
          go_loopg [5] k2 (fun kq v5 w' => ∃ (x5_3 : Int), v5 = .int .i64 x5_3 ∧ Aside0 (spec_IsSystem.l2 kq x3_1 x4_2 x5_3 a0_0 l0_1 l0_2 l0_3 = some r) ∧ Aside0 (kq ≤ k2) ∧ Aside0 (w'.heap[gb209]? = some (.cells #[.int .i64 a0_0, (.slice A0_1 l0_1.length c0_1), (.slice A0_2 l0_2.length c0_2), (.slice A0_3 l0_3.length c0_3)] 27 (0, 0))) ∧ Aside0 (Below w.heap.size w w'))
          case atStart => exact ⟨(0), sm_, H', ⟨Nat.le_refl _⟩, ⟨by exact bz_ BK209.out⟩, ⟨bw1_ HB.out GE209.out⟩⟩
          case round =>
           clear H'
           try clear c1
           try clear p2
           try clear c7
           try clear c8
           try clear c8b0
           try clear c9
           try clear c10
           try clear c13
           try clear c14
           try clear c14b0
           try clear c19
           try clear hcz11_0
           try clear hcz11_1
           try clear hcz11_2
           try clear hcz11_3
           try clear hcz17_0
           try clear hcz17_1
           try clear hcz17_2
           try clear hcz17_3
           try clear hcz5_0
           try clear hcz5_1
           try clear hcz5_2
           try clear hcz5_3
           try clear hfz11_0
           try clear hfz11_1
           try clear hfz11_2
           try clear hfz11_3
           try clear hfz17_0
           try clear hfz17_1
           try clear hfz17_2
           try clear hfz17_3
           try clear hfz5_0
           try clear hfz5_1
           try clear hfz5_2
           try clear hfz5_3
           try clear p2
           obtain ⟨x5_3, rfl, HA, HK3, BK209, HB⟩ := hrel
           cases gk with
           | zero => exact absurd HA.out (by simp [spec_IsSystem.l2])
           | succ k3 =>
            have H := HA.out
            clear HA
            simp only [spec_IsSystem.l2] at H
            by_cases c20 : x5_3 < a0_0
            ·rw [if_pos c20] at H
             have c20b0 : decide (x5_3 < a0_0) = true := decide_eq_true c20
             clear c20
             (first | rw [c20b0] | (simp only [i64_w, i32_w]; rw [c20b0]) | skip)
             replace H := Option.bind_eq_some_iff.mp H
             obtain ⟨t213, A210, H⟩ := H
             try dsimp only at H
             have A21 := sd_ A210
             clear A210
             have HP22 := sd_ H
             clear H
             obtain ⟨hcz23_0, hcz23_1, hcz23_2, hcz23_3, hfz23_0, hfz23_1, hfz23_2, hfz23_3⟩ := bf4_ BK209.out
             go_upto_if 41 with (first | ((with_reducible refine gate_callee (f := 102) rfl ?_); refine goesL_ (some 40) rfl rfl Try.func102 (by kernel_rfl) rfl #[.agg #[.int .i64 a0_0, .slice A0_1 l0_1.length c0_1, .slice A0_2 l0_2.length c0_2, .slice A0_3 l0_3.length c0_3], .int .i64 x3_1, .int .i64 x4_2, .int .i64 x5_3] rfl la_ ?_; (with_reducible refine (spec_l1Three.calls k3 a0_0 _ _ l0_1 _ _ l0_2 _ _ l0_3 x3_1 x4_2 x5_3 t213 _ (kc_ HR0_1.out HB.out) HC0_1.out (kc_ HR0_2.out HB.out) HC0_2.out (kc_ HR0_3.out HB.out) HC0_3.out A21.out).mono ?_); rintro e w24 ⟨rfl, hb⟩; refine ⟨_, rfl, ?_⟩; replace BK209 := sd_ (bb_ BK209.out hb); replace HB := sd_ (below_step (bw1_ HB.out GE209.out) hb); (try clear hb)))
             have H := HP22.out
             clear HP22
             by_cases c25 : t213 = true
             ·subst c25
              have H1 : (spec_IsSystem.l2 k3 x3_1 x4_2 (wrap64 (x5_3 + 1)) a0_0 l0_1 l0_2 l0_3) = some r := by rw [if_pos rfl] at H; exact H
              clear H
              have H := H1
              clear H1
              have H' := sd_ H
              clear H
              go_wp2
              go_roundg k3
              case measure => have := HK1.out; have := HK2.out; have := HK3.out; omega
              case rel => exact ⟨(wrap64 (x5_3 + 1)), sm_, H', ⟨by have := HK1.out; have := HK2.out; have := HK3.out; omega⟩, ⟨by exact bz_ BK209.out⟩, ⟨bw1_ HB.out GE209.out⟩⟩
             replace c25 := Bool.eq_false_iff.mpr c25
             subst c25
             have H1 : (some false) = some r := by rw [if_neg (show ¬ (false = true) by decide)] at H; exact H
             clear H
             have H := H1
             clear H1
             obtain rfl := Option.some.inj H
             go_wp2
             go_ret
             exact ⟨an_, bw1_ HB.out GE209.out⟩
            rw [if_neg c20] at H
            have c20b0 : decide (x5_3 < a0_0) = false := decide_eq_false c20
            clear c20
            (first | rw [c20b0] | (simp only [i64_w, i32_w]; rw [c20b0]) | skip)
            have H' := sd_ H
            clear H
            obtain ⟨hcz26_0, hcz26_1, hcz26_2, hcz26_3, hfz26_0, hfz26_1, hfz26_2, hfz26_3⟩ := bf4_ BK209.out
            go_wp2
            go_roundg k3
            case measure => have := HK1.out; have := HK2.out; have := HK3.out; omega
            case rel => exact ⟨(wrap64 (x4_2 + 1)), sm_, H', ⟨by have := HK1.out; have := HK2.out; have := HK3.out; omega⟩, ⟨by exact bz_ BK209.out⟩, ⟨bw1_ HB.out GE209.out⟩⟩
         replace c19 := Bool.eq_false_iff.mpr c19
         subst c19
         have H1 : (some false) = some r := by rw [if_neg (show ¬ (false = true) by decide)] at H; exact H
         clear H
         have H := H1
         clear H1
         obtain rfl := Option.some.inj H
         go_wp2
         go_ret
         exact ⟨an_, bw1_ HB.out GE209.out⟩
        rw [if_neg c14] at H
        have c14b0 : decide (x4_2 < a0_0) = false := decide_eq_false c14
        clear c14
        (first | rw [c14b0] | (simp only [i64_w, i32_w]; rw [c14b0]) | skip)
        have H' := sd_ H
        clear H
        obtain ⟨hcz27_0, hcz27_1, hcz27_2, hcz27_3, hfz27_0, hfz27_1, hfz27_2, hfz27_3⟩ := bf4_ BK209.out
        go_wp2
        go_roundg k2
        case measure => have := HK1.out; have := HK2.out; omega
        case rel => exact ⟨(wrap64 (x3_1 + 1)), sm_, H', ⟨by have := HK1.out; have := HK2.out; omega⟩, ⟨by exact bz_ BK209.out⟩, ⟨bw1_ HB.out GE209.out⟩⟩
     replace c13 := Bool.eq_false_iff.mpr c13
     subst c13
     have H1 : (some false) = some r := by rw [if_neg (show ¬ (false = true) by decide)] at H; exact H
     clear H
     have H := H1
     clear H1
     obtain rfl := Option.some.inj H
     go_wp2
     go_ret
     exact ⟨an_, bw1_ HB.out GE209.out⟩
    rw [if_neg c8] at H
    have c8b0 : decide (x3_1 < a0_0) = false := decide_eq_false c8
    clear c8
    (first | rw [c8b0] | (simp only [i64_w, i32_w]; rw [c8b0]) | skip)
    obtain rfl := Option.some.inj H
    obtain ⟨hcz28_0, hcz28_1, hcz28_2, hcz28_3, hfz28_0, hfz28_1, hfz28_2, hfz28_3⟩ := bf4_ BK209.out
    go_wp2
    go_ret
    exact ⟨an_, bw1_ HB.out GE209.out⟩
 replace c7 := Bool.eq_false_iff.mpr c7
 subst c7
 have H1 : (some false) = some r := by rw [if_neg (show ¬ (false = true) by decide)] at H; exact H
 clear H
 have H := H1
 clear H1
 obtain rfl := Option.some.inj H
 go_wp2
 go_ret
 exact ⟨an_, bw1_ HB.out GE209.out⟩

end Go.Proofs.Ytipfkicndjddgaa.P
