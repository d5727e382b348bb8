-- Several texts in one (wip/tools/merge.py).
import Derived.Test.YtipfkicndjddgaaM1
import Derived.Test.YtipfkicndjddgaaPf100
import Derived.Test.YtipfkicndjddgaaPf101
import Derived.Test.YtipfkicndjddgaaPf102
import Derived.Test.YtipfkicndjddgaaPf99
section
namespace Go.Proofs.Ytipfkicndjddgaa.P
open Go.RowKit Go.Proofs.YtipfkicndjddgaaW.PrintWords Go.Proofs.YtipfkicndjddgaaW.PrintLast Go.Proofs.YtipfkicndjddgaaW.PrintMore
attribute [local go_sem] max2_int min2_int max_two min_two max_three min_three max_four min_four   -- for this text's walks alone
set_option linter.unusedVariables false
set_option linter.unusedSimpArgs false

/-! ### spec_IsSystem: function 74 -/
mutual
def spec_IsSystem.l0 : Nat → Int → Int → List Int → List Int → List Bool → Option (Bool)
 | 0, _, _, _, _, _ => none
 | k + 1, x3, x170000, x170001, x170002, x170003 => if x3 < x170000 then ((spec_l1One.f x170000 x170001 x170002 x170003 x3).bind fun t171 => (if t171 = true then (spec_IsSystem.l1 k x3 0 x170000 x170001 x170002 x170003) else (some false))) else (some true)
def spec_IsSystem.l1 : Nat → Int → Int → Int → List Int → List Int → List Bool → Option (Bool)
 | 0, _, _, _, _, _, _ => none
 | k + 1, x3, x4, x170000, x170001, x170002, x170003 => if x4 < x170000 then ((spec_l1Two.f k x170000 x170001 x170002 x170003 x3 x4).bind fun t172 => (if t172 = true then (spec_IsSystem.l2 k x3 x4 0 x170000 x170001 x170002 x170003) else (some false))) else (spec_IsSystem.l0 k (wrap64 (x3 + 1)) x170000 x170001 x170002 x170003)
def spec_IsSystem.l2 : Nat → Int → Int → Int → Int → List Int → List Int → List Bool → Option (Bool)
 | 0, _, _, _, _, _, _, _ => none
 | k + 1, x3, x4, x5, x170000, x170001, x170002, x170003 => if x5 < x170000 then ((spec_l1Three.f k x170000 x170001 x170002 x170003 x3 x4 x5).bind fun t173 => (if t173 = true then (spec_IsSystem.l2 k x3 x4 (wrap64 (x5 + 1)) x170000 x170001 x170002 x170003) else (some false))) else (spec_IsSystem.l1 k x3 (wrap64 (x4 + 1)) x170000 x170001 x170002 x170003)
end
def spec_IsSystem.f (k : Nat) (a0_0 : Int) (l0_1 : List Int) (l0_2 : List Int) (l0_3 : List Bool) : Option (Bool) := (spec_l1Tables.f k a0_0 l0_1 l0_2 l0_3).bind fun t170 => (if t170 = true then (spec_IsSystem.l0 k 0 a0_0 l0_1 l0_2 l0_3) else (some false))
set_option maxHeartbeats 8000000 in
set_option maxRecDepth 100000 in
theorem spec_IsSystem.calls (k : Nat) (a0_0 : Int) (A0_1 : Option Addr) (c0_1 : Nat) (l0_1 : List Int) (A0_2 : Option Addr) (c0_2 : Nat) (l0_2 : List Int) (A0_3 : Option Addr) (c0_3 : Nat) (l0_3 : List Bool) (r : Bool) (w : World) (hr0_1 : Kd.C (Kd.int .i64) w A0_1 l0_1.length l0_1) (hc0_1 : l0_1.length ≤ c0_1) (hr0_2 : Kd.C (Kd.int .i64) w A0_2 l0_2.length l0_2) (hc0_2 : l0_2.length ≤ c0_2) (hr0_3 : Kd.C Kd.bool w A0_3 l0_3.length l0_3) (hc0_3 : l0_3.length ≤ c0_3) (h : spec_IsSystem.f k a0_0 l0_1 l0_2 l0_3 = some r) :
  Calls Try.prog 74 #[.agg #[.int .i64 a0_0, .slice A0_1 l0_1.length c0_1, .slice A0_2 l0_2.length c0_2, .slice A0_3 l0_3.length c0_3]] w fun e w' => e = .returned (.bool r) ∧ Below w.heap.size w w' := by
 have hu27 := Try.underlying27
 have HR0_1 := sd_ hr0_1
 have HC0_1 := sd_ hc0_1
 clear hr0_1 hc0_1
 have HR0_2 := sd_ hr0_2
 have HC0_2 := sd_ hc0_2
 clear hr0_2 hc0_2
 have HR0_3 := sd_ hr0_3
 have HC0_3 := sd_ hc0_3
 clear hr0_3 hc0_3
 have HB := sd_ (Below.refl w.heap.size w)
 have H : ((spec_l1Tables.f k a0_0 l0_1 l0_2 l0_3).bind fun t170 => (if t170 = true then (spec_IsSystem.l0 k 0 a0_0 l0_1 l0_2 l0_3) else (some false))) = some r := h
 clear h
 replace H := Option.bind_eq_some_iff.mp H
 obtain ⟨t170, A20, H⟩ := H
 try dsimp only at H
 have A2 := sd_ A20
 clear A20
 have HP3 := sd_ H
 clear H
 go_enter Try.func74, Try.ntmps74
 go_upto_if 8 with (first | ((with_reducible refine gate_dst (N := 1) rfl ?_); refine bx_ (N := 1) (cs := #[.int .i64 a0_0, .slice A0_1 l0_1.length c0_1, .slice A0_2 l0_2.length c0_2, .slice A0_3 l0_3.length c0_3]) (t := 27) ?_; intro gb169 hg w4 hbox hb; have BK169 := sd_ (hbox); have GW169 := sd_ (gs_ hg (bw0_ HB.out)); have GE169 := sd_ (gs_ hg (bw0_ HB.out)); replace HB := sd_ (below_step (bw0_ HB.out) hb); clear hb hbox hg; obtain ⟨hcz5_0, hcz5_1, hcz5_2, hcz5_3, hfz5_0, hfz5_1, hfz5_2, hfz5_3⟩ := bf4_ BK169.out) | ((with_reducible refine gate_callee (f := 99) rfl ?_); refine goesL_ (some 7) rfl rfl Try.func99 (by kernel_rfl) rfl #[.agg #[.int .i64 a0_0, .slice A0_1 l0_1.length c0_1, .slice A0_2 l0_2.length c0_2, .slice A0_3 l0_3.length c0_3]] rfl la_ ?_; (with_reducible refine (spec_l1Tables.calls k a0_0 _ _ l0_1 _ _ l0_2 _ _ l0_3 t170 _ (kc_ HR0_1.out HB.out) HC0_1.out (kc_ HR0_2.out HB.out) HC0_2.out (kc_ HR0_3.out HB.out) HC0_3.out A2.out).mono ?_); rintro e w6 ⟨rfl, hb⟩; refine ⟨_, rfl, ?_⟩; replace BK169 := sd_ (bb_ BK169.out hb); replace HB := sd_ (below_step (bw1_ HB.out GE169.out) hb); (try clear hb)))
 have H := HP3.out
 clear HP3
 by_cases c7 : t170 = true
 ·subst c7
  have H1 : (spec_IsSystem.l0 k 0 a0_0 l0_1 l0_2 l0_3) = some r := by rw [if_pos rfl] at H; exact H
  clear H
  have H := H1
  clear H1
  have H' := sd_ H
  clear H
  go_wp2
  go_loopg [3] k (fun kq v3 w' => ∃ (x3_1 : Int), v3 = .int .i64 x3_1 ∧ Aside0 (spec_IsSystem.l0 kq x3_1 a0_0 l0_1 l0_2 l0_3 = some r) ∧ Aside0 (kq ≤ k) ∧ Aside0 (w'.heap[gb169]? = some (.cells #[.int .i64 a0_0, (.slice A0_1 l0_1.length c0_1), (.slice A0_2 l0_2.length c0_2), (.slice A0_3 l0_3.length c0_3)] 27 (0, 0))) ∧ Aside0 (Below w.heap.size w w'))
  case atStart => exact ⟨(0), sm_, H', ⟨Nat.le_refl _⟩, ⟨by exact bz_ BK169.out⟩, ⟨bw1_ HB.out GE169.out⟩⟩
  case round =>
   clear H'
   try clear p2
   try clear c7
   try clear hcz5_0
   try clear hcz5_1
   try clear hcz5_2
   try clear hcz5_3
   try clear hfz5_0
   try clear hfz5_1
   try clear hfz5_2
   try clear hfz5_3
   obtain ⟨x3_1, rfl, HA, HK1, BK169, HB⟩ := hrel
   cases gk with
   | zero => exact absurd HA.out (by simp [spec_IsSystem.l0])
   | succ k1 =>
    have H := HA.out
    clear HA
    simp only [spec_IsSystem.l0] at H
    by_cases c8 : x3_1 < a0_0
    ·rw [if_pos c8] at H
     have c8b0 : decide (x3_1 < a0_0) = true := decide_eq_true c8
     clear c8
     (first | rw [c8b0] | (simp only [i64_w, i32_w]; rw [c8b0]) | skip)
     replace H := Option.bind_eq_some_iff.mp H
     obtain ⟨t171, A90, H⟩ := H
     try dsimp only at H
     have A9 := sd_ A90
     clear A90
     have HP10 := sd_ H
     clear H
     obtain ⟨hcz11_0, hcz11_1, hcz11_2, hcz11_3, hfz11_0, hfz11_1, hfz11_2, hfz11_3⟩ := bf4_ BK169.out
     go_upto_if 18 with (first | ((with_reducible refine gate_callee (f := 100) rfl ?_); refine goesL_ (some 17) rfl rfl Try.func100 (by kernel_rfl) rfl #[.agg #[.int .i64 a0_0, .slice A0_1 l0_1.length c0_1, .slice A0_2 l0_2.length c0_2, .slice A0_3 l0_3.length c0_3], .int .i64 x3_1] rfl la_ ?_; (with_reducible refine (spec_l1One.calls a0_0 _ _ l0_1 _ _ l0_2 _ _ l0_3 x3_1 t171 _ (kc_ HR0_1.out HB.out) HC0_1.out (kc_ HR0_2.out HB.out) HC0_2.out (kc_ HR0_3.out HB.out) HC0_3.out A9.out).mono ?_); rintro e w12 ⟨rfl, hb⟩; refine ⟨_, rfl, ?_⟩; replace BK169 := sd_ (bb_ BK169.out hb); replace HB := sd_ (below_step (bw1_ HB.out GE169.out) hb); (try clear hb)))
     have H := HP10.out
     clear HP10
     by_cases c13 : t171 = true
     ·subst c13
      have H1 : (spec_IsSystem.l1 k1 x3_1 0 a0_0 l0_1 l0_2 l0_3) = some r := by rw [if_pos rfl] at H; exact H
      clear H
      have H := H1
      clear H1
      have H' := sd_ H
      clear H
      go_wp2
      go_loopg [4] k1 (fun kq v4 w' => ∃ (x4_2 : Int), v4 = .int .i64 x4_2 ∧ Aside0 (spec_IsSystem.l1 kq x3_1 x4_2 a0_0 l0_1 l0_2 l0_3 = some r) ∧ Aside0 (kq ≤ k1) ∧ Aside0 (w'.heap[gb169]? = some (.cells #[.int .i64 a0_0, (.slice A0_1 l0_1.length c0_1), (.slice A0_2 l0_2.length c0_2), (.slice A0_3 l0_3.length c0_3)] 27 (0, 0))) ∧ Aside0 (Below w.heap.size w w'))
      case atStart => exact ⟨(0), sm_, H', ⟨Nat.le_refl _⟩, ⟨by exact bz_ BK169.out⟩, ⟨bw1_ HB.out GE169.out⟩⟩
      case round =>
       clear H'
       try clear c1
       try clear p2
       try clear c7
       try clear c8
       try clear c8b0
       try clear c9
       try clear c10
       try clear c13
       try clear hcz11_0
       try clear hcz11_1
       try clear hcz11_2
       try clear hcz11_3
       try clear hcz5_0
       try clear hcz5_1
       try clear hcz5_2
       try clear hcz5_3
       try clear hfz11_0
       try clear hfz11_1
       try clear hfz11_2
       try clear hfz11_3
       try clear hfz5_0
       try clear hfz5_1
       try clear hfz5_2
       try clear hfz5_3
       try clear p2
       obtain ⟨x4_2, rfl, HA, HK2, BK169, HB⟩ := hrel
       cases gk with
       | zero => exact absurd HA.out (by simp [spec_IsSystem.l1])
       | succ k2 =>
        have H := HA.out
        clear HA
        simp only [spec_IsSystem.l1] at H
        by_cases c14 : x4_2 < a0_0
        ·rw [if_pos c14] at H
         have c14b0 : decide (x4_2 < a0_0) = true := decide_eq_true c14
         clear c14
         (first | rw [c14b0] | (simp only [i64_w, i32_w]; rw [c14b0]) | skip)
         replace H := Option.bind_eq_some_iff.mp H
         obtain ⟨t172, A150, H⟩ := H
         try dsimp only at H
         have A15 := sd_ A150
         clear A150
         have HP16 := sd_ H
         clear H
         obtain ⟨hcz17_0, hcz17_1, hcz17_2, hcz17_3, hfz17_0, hfz17_1, hfz17_2, hfz17_3⟩ := bf4_ BK169.out
         go_upto_if 29 with (first | ((with_reducible refine gate_callee (f := 101) rfl ?_); refine goesL_ (some 28) rfl rfl Try.func101 (by kernel_rfl) rfl #[.agg #[.int .i64 a0_0, .slice A0_1 l0_1.length c0_1, .slice A0_2 l0_2.length c0_2, .slice A0_3 l0_3.length c0_3], .int .i64 x3_1, .int .i64 x4_2] rfl la_ ?_; (with_reducible refine (spec_l1Two.calls k2 a0_0 _ _ l0_1 _ _ l0_2 _ _ l0_3 x3_1 x4_2 t172 _ (kc_ HR0_1.out HB.out) HC0_1.out (kc_ HR0_2.out HB.out) HC0_2.out (kc_ HR0_3.out HB.out) HC0_3.out A15.out).mono ?_); rintro e w18 ⟨rfl, hb⟩; refine ⟨_, rfl, ?_⟩; replace BK169 := sd_ (bb_ BK169.out hb); replace HB := sd_ (below_step (bw1_ HB.out GE169.out) hb); (try clear hb)))
         have H := HP16.out
         clear HP16
         by_cases c19 : t172 = true
         ·subst c19
          have H1 : (spec_IsSystem.l2 k2 x3_1 x4_2 0 a0_0 l0_1 l0_2 l0_3) = some r := by rw [if_pos rfl] at H; exact H
          clear H
          have H := H1
          clear H1
          have H' := sd_ H
          clear H
          go_wp2
          go_loopg [5] k2 (fun kq v5 w' => ∃ (x5_3 : Int), v5 = .int .i64 x5_3 ∧ Aside0 (spec_IsSystem.l2 kq x3_1 x4_2 x5_3 a0_0 l0_1 l0_2 l0_3 = some r) ∧ Aside0 (kq ≤ k2) ∧ Aside0 (w'.heap[gb169]? = some (.cells #[.int .i64 a0_0, (.slice A0_1 l0_1.length c0_1), (.slice A0_2 l0_2.length c0_2), (.slice A0_3 l0_3.length c0_3)] 27 (0, 0))) ∧ Aside0 (Below w.heap.size w w'))
          case atStart => exact ⟨(0), sm_, H', ⟨Nat.le_refl _⟩, ⟨by exact bz_ BK169.out⟩, ⟨bw1_ HB.out GE169.out⟩⟩
          case round =>
           clear H'
           try clear c1
           try clear p2
           try clear c7
           try clear c8
           try clear c8b0
           try clear c9
           try clear c10
           try clear c13
           try clear c14
           try clear c14b0
           try clear c19
           try clear hcz11_0
           try clear hcz11_1
           try clear hcz11_2
           try clear hcz11_3
           try clear hcz17_0
           try clear hcz17_1
           try clear hcz17_2
           try clear hcz17_3
           try clear hcz5_0
           try clear hcz5_1
           try clear hcz5_2
           try clear hcz5_3
           try clear hfz11_0
           try clear hfz11_1
           try clear hfz11_2
           try clear hfz11_3
           try clear hfz17_0
           try clear hfz17_1
           try clear hfz17_2
           try clear hfz17_3
           try clear hfz5_0
           try clear hfz5_1
           try clear hfz5_2
           try clear hfz5_3
           try clear p2
           obtain ⟨x5_3, rfl, HA, HK3, BK169, HB⟩ := hrel
           cases gk with
           | zero => exact absurd HA.out (by simp [spec_IsSystem.l2])
           | succ k3 =>
            have H := HA.out
            clear HA
            simp only [spec_IsSystem.l2] at H
            by_cases c20 : x5_3 < a0_0
            ·rw [if_pos c20] at H
             have c20b0 : decide (x5_3 < a0_0) = true := decide_eq_true c20
             clear c20
             (first | rw [c20b0] | (simp only [i64_w, i32_w]; rw [c20b0]) | skip)
             replace H := Option.bind_eq_some_iff.mp H
             obtain ⟨t173, A210, H⟩ := H
             try dsimp only at H
             have A21 := sd_ A210
             clear A210
             have HP22 := sd_ H
             clear H
             obtain ⟨hcz23_0, hcz23_1, hcz23_2, hcz23_3, hfz23_0, hfz23_1, hfz23_2, hfz23_3⟩ := bf4_ BK169.out
             go_upto_if 41 with (first | ((with_reducible refine gate_callee (f := 102) rfl ?_); refine goesL_ (some 40) rfl rfl Try.func102 (by kernel_rfl) rfl #[.agg #[.int .i64 a0_0, .slice A0_1 l0_1.length c0_1, .slice A0_2 l0_2.length c0_2, .slice A0_3 l0_3.length c0_3], .int .i64 x3_1, .int .i64 x4_2, .int .i64 x5_3] rfl la_ ?_; (with_reducible refine (spec_l1Three.calls k3 a0_0 _ _ l0_1 _ _ l0_2 _ _ l0_3 x3_1 x4_2 x5_3 t173 _ (kc_ HR0_1.out HB.out) HC0_1.out (kc_ HR0_2.out HB.out) HC0_2.out (kc_ HR0_3.out HB.out) HC0_3.out A21.out).mono ?_); rintro e w24 ⟨rfl, hb⟩; refine ⟨_, rfl, ?_⟩; replace BK169 := sd_ (bb_ BK169.out hb); replace HB := sd_ (below_step (bw1_ HB.out GE169.out) hb); (try clear hb)))
             have H := HP22.out
             clear HP22
             by_cases c25 : t173 = true
             ·subst c25
              have H1 : (spec_IsSystem.l2 k3 x3_1 x4_2 (wrap64 (x5_3 + 1)) a0_0 l0_1 l0_2 l0_3) = some r := by rw [if_pos rfl] at H; exact H
              clear H
              have H := H1
              clear H1
              have H' := sd_ H
              clear H
              go_wp2
              go_roundg k3
              case measure => have := HK1.out; have := HK2.out; have := HK3.out; omega
              case rel => exact ⟨(wrap64 (x5_3 + 1)), sm_, H', ⟨by have := HK1.out; have := HK2.out; have := HK3.out; omega⟩, ⟨by exact bz_ BK169.out⟩, ⟨bw1_ HB.out GE169.out⟩⟩
             replace c25 := Bool.eq_false_iff.mpr c25
             subst c25
             have H1 : (some false) = some r := by rw [if_neg (show ¬ (false = true) by decide)] at H; exact H
             clear H
             have H := H1
             clear H1
             obtain rfl := Option.some.inj H
             go_wp2
             go_ret
             exact ⟨an_, bw1_ HB.out GE169.out⟩
            rw [if_neg c20] at H
            have c20b0 : decide (x5_3 < a0_0) = false := decide_eq_false c20
            clear c20
            (first | rw [c20b0] | (simp only [i64_w, i32_w]; rw [c20b0]) | skip)
            have H' := sd_ H
            clear H
            obtain ⟨hcz26_0, hcz26_1, hcz26_2, hcz26_3, hfz26_0, hfz26_1, hfz26_2, hfz26_3⟩ := bf4_ BK169.out
            go_wp2
            go_roundg k3
            case measure => have := HK1.out; have := HK2.out; have := HK3.out; omega
            case rel => exact ⟨(wrap64 (x4_2 + 1)), sm_, H', ⟨by have := HK1.out; have := HK2.out; have := HK3.out; omega⟩, ⟨by exact bz_ BK169.out⟩, ⟨bw1_ HB.out GE169.out⟩⟩
         replace c19 := Bool.eq_false_iff.mpr c19
         subst c19
         have H1 : (some false) = some r := by rw [if_neg (show ¬ (false = true) by decide)] at H; exact H
         clear H
         have H := H1
         clear H1
         obtain rfl := Option.some.inj H
         go_wp2
         go_ret
         exact ⟨an_, bw1_ HB.out GE169.out⟩
        rw [if_neg c14] at H
        have c14b0 : decide (x4_2 < a0_0) = false := decide_eq_false c14
        clear c14
        (first | rw [c14b0] | (simp only [i64_w, i32_w]; rw [c14b0]) | skip)
        have H' := sd_ H
        clear H
        obtain ⟨hcz27_0, hcz27_1, hcz27_2, hcz27_3, hfz27_0, hfz27_1, hfz27_2, hfz27_3⟩ := bf4_ BK169.out
        go_wp2
        go_roundg k2
        case measure => have := HK1.out; have := HK2.out; omega
        case rel => exact ⟨(wrap64 (x3_1 + 1)), sm_, H', ⟨by have := HK1.out; have := HK2.out; omega⟩, ⟨by exact bz_ BK169.out⟩, ⟨bw1_ HB.out GE169.out⟩⟩
     replace c13 := Bool.eq_false_iff.mpr c13
     subst c13
     have H1 : (some false) = some r := by rw [if_neg (show ¬ (false = true) by decide)] at H; exact H
     clear H
     have H := H1
     clear H1
     obtain rfl := Option.some.inj H
     go_wp2
     go_ret
     exact ⟨an_, bw1_ HB.out GE169.out⟩
    rw [if_neg c8] at H
    have c8b0 : decide (x3_1 < a0_0) = false := decide_eq_false c8
    clear c8
    (first | rw [c8b0] | (simp only [i64_w, i32_w]; rw [c8b0]) | skip)
    obtain rfl := Option.some.inj H
    obtain ⟨hcz28_0, hcz28_1, hcz28_2, hcz28_3, hfz28_0, hfz28_1, hfz28_2, hfz28_3⟩ := bf4_ BK169.out
    go_wp2
    go_ret
    exact ⟨an_, bw1_ HB.out GE169.out⟩
 replace c7 := Bool.eq_false_iff.mpr c7
 subst c7
 have H1 : (some false) = some r := by rw [if_neg (show ¬ (false = true) by decide)] at H; exact H
 clear H
 have H := H1
 clear H1
 obtain rfl := Option.some.inj H
 go_wp2
 go_ret
 exact ⟨an_, bw1_ HB.out GE169.out⟩


/-! ### spec_l1Product: function 36 -/
def spec_l1Product.f (k : Nat) (a0_0 : Int) (l0_1 : List Int) (l0_2 : List Int) (l0_3 : List Bool) (a1_0 : Int) (l1_1 : List Int) (l1_2 : List Int) (l1_3 : List Bool) : Option (Bool) := (spec_IsSystem.f k a0_0 l0_1 l0_2 l0_3).bind fun t176 => (if t176 = true then ((spec_IsSystem.f k a1_0 l1_1 l1_2 l1_3).bind fun t177 => (if t177 = true then (some (decide ((wrap64 (a0_0 * a1_0)) ≤ 16))) else (some false))) else (some false))
set_option maxHeartbeats 8000000 in
set_option maxRecDepth 100000 in
theorem spec_l1Product.calls (k : Nat) (a0_0 : Int) (A0_1 : Option Addr) (c0_1 : Nat) (l0_1 : List Int) (A0_2 : Option Addr) (c0_2 : Nat) (l0_2 : List Int) (A0_3 : Option Addr) (c0_3 : Nat) (l0_3 : List Bool) (a1_0 : Int) (A1_1 : Option Addr) (c1_1 : Nat) (l1_1 : List Int) (A1_2 : Option Addr) (c1_2 : Nat) (l1_2 : List Int) (A1_3 : Option Addr) (c1_3 : Nat) (l1_3 : List Bool) (r : Bool) (w : World) (hr0_1 : Kd.C (Kd.int .i64) w A0_1 l0_1.length l0_1) (hc0_1 : l0_1.length ≤ c0_1) (hr0_2 : Kd.C (Kd.int .i64) w A0_2 l0_2.length l0_2) (hc0_2 : l0_2.length ≤ c0_2) (hr0_3 : Kd.C Kd.bool w A0_3 l0_3.length l0_3) (hc0_3 : l0_3.length ≤ c0_3) (hr1_1 : Kd.C (Kd.int .i64) w A1_1 l1_1.length l1_1) (hc1_1 : l1_1.length ≤ c1_1) (hr1_2 : Kd.C (Kd.int .i64) w A1_2 l1_2.length l1_2) (hc1_2 : l1_2.length ≤ c1_2) (hr1_3 : Kd.C Kd.bool w A1_3 l1_3.length l1_3) (hc1_3 : l1_3.length ≤ c1_3) (h : spec_l1Product.f k a0_0 l0_1 l0_2 l0_3 a1_0 l1_1 l1_2 l1_3 = some r) :
  Calls Try.prog 36 #[.agg #[.int .i64 a0_0, .slice A0_1 l0_1.length c0_1, .slice A0_2 l0_2.length c0_2, .slice A0_3 l0_3.length c0_3], .agg #[.int .i64 a1_0, .slice A1_1 l1_1.length c1_1, .slice A1_2 l1_2.length c1_2, .slice A1_3 l1_3.length c1_3]] w fun e w' => e = .returned (.bool r) ∧ Below w.heap.size w w' := by
 have hu27 := Try.underlying27
 have HR0_1 := sd_ hr0_1
 have HC0_1 := sd_ hc0_1
 clear hr0_1 hc0_1
 have HR0_2 := sd_ hr0_2
 have HC0_2 := sd_ hc0_2
 clear hr0_2 hc0_2
 have HR0_3 := sd_ hr0_3
 have HC0_3 := sd_ hc0_3
 clear hr0_3 hc0_3
 have HR1_1 := sd_ hr1_1
 have HC1_1 := sd_ hc1_1
 clear hr1_1 hc1_1
 have HR1_2 := sd_ hr1_2
 have HC1_2 := sd_ hc1_2
 clear hr1_2 hc1_2
 have HR1_3 := sd_ hr1_3
 have HC1_3 := sd_ hc1_3
 clear hr1_3 hc1_3
 have HB := sd_ (Below.refl w.heap.size w)
 have H : ((spec_IsSystem.f k a0_0 l0_1 l0_2 l0_3).bind fun t176 => (if t176 = true then ((spec_IsSystem.f k a1_0 l1_1 l1_2 l1_3).bind fun t177 => (if t177 = true then (some (decide ((wrap64 (a0_0 * a1_0)) ≤ 16))) else (some false))) else (some false))) = some r := h
 clear h
 replace H := Option.bind_eq_some_iff.mp H
 obtain ⟨t176, A30, H⟩ := H
 try dsimp only at H
 have A3 := sd_ A30
 clear A30
 by_cases c4 : t176 = true
 ·subst c4
  have H1 : ((spec_IsSystem.f k a1_0 l1_1 l1_2 l1_3).bind fun t177 => (if t177 = true then (some (decide ((wrap64 (a0_0 * a1_0)) ≤ 16))) else (some false))) = some r := by rw [if_pos rfl] at H; exact H
  clear H
  have H := H1
  clear H1
  replace H := Option.bind_eq_some_iff.mp H
  obtain ⟨t177, A50, H⟩ := H
  try dsimp only at H
  have A5 := sd_ A50
  clear A50
  by_cases c6 : t177 = true
  ·subst c6
   have H1 : (some (decide ((wrap64 (a0_0 * a1_0)) ≤ 16))) = some r := by rw [if_pos rfl] at H; exact H
   clear H
   have H := H1
   clear H1
   obtain rfl := Option.some.inj H
   go_enter Try.func36, Try.ntmps36
   go_wp2_with (first | ((with_reducible refine gate_dst (N := 2) rfl ?_); refine bx_ (N := 2) (cs := #[.int .i64 a0_0, .slice A0_1 l0_1.length c0_1, .slice A0_2 l0_2.length c0_2, .slice A0_3 l0_3.length c0_3]) (t := 27) ?_; intro gb174 hg w7 hbox hb; have BK174 := sd_ (hbox); have GW174 := sd_ (gs_ hg (bw0_ HB.out)); have GE174 := sd_ (gs_ hg (bw0_ HB.out)); replace HB := sd_ (below_step (bw0_ HB.out) hb); clear hb hbox hg) | ((with_reducible refine gate_dst (N := 3) rfl ?_); refine bx_ (N := 3) (cs := #[.int .i64 a1_0, .slice A1_1 l1_1.length c1_1, .slice A1_2 l1_2.length c1_2, .slice A1_3 l1_3.length c1_3]) (t := 27) ?_; intro gb175 hg w8 hbox hb; have BK175 := sd_ (hbox); have GW175 := sd_ (gs_ hg (bw1_ HB.out GE174.out)); have GE175 := sd_ (gs_ hg (bw1_ HB.out GE174.out)); replace HB := sd_ (below_step (bw1_ HB.out GE174.out) hb); have NB174_175 := sd_ (nl_ hg (bl_ BK174.out)); have NB175_174 := sd_ (ng_ hg (bl_ BK174.out)); replace BK174 := sd_ (bb_ BK174.out hb); clear hb hbox hg; have hnb9 := NB174_175.out; have hnc9 := NB175_174.out; obtain ⟨hcz10_0, hcz10_1, hcz10_2, hcz10_3, hfz10_0, hfz10_1, hfz10_2, hfz10_3⟩ := bf4_ BK174.out) | ((with_reducible refine gate_callee (f := 74) rfl ?_); refine goesL_ (some 6) rfl rfl Try.func74 (by kernel_rfl) rfl #[.agg #[.int .i64 a0_0, .slice A0_1 l0_1.length c0_1, .slice A0_2 l0_2.length c0_2, .slice A0_3 l0_3.length c0_3]] rfl la_ ?_; (with_reducible refine (spec_IsSystem.calls k a0_0 _ _ l0_1 _ _ l0_2 _ _ l0_3 true _ (kc_ HR0_1.out HB.out) HC0_1.out (kc_ HR0_2.out HB.out) HC0_2.out (kc_ HR0_3.out HB.out) HC0_3.out A3.out).mono ?_); rintro e w11 ⟨rfl, hb⟩; refine ⟨_, rfl, ?_⟩; replace BK174 := sd_ (bb_ BK174.out hb); replace BK175 := sd_ (bb_ BK175.out hb); replace HB := sd_ (below_step (bw2_ HB.out GE174.out GE175.out) hb); (try clear hb); obtain ⟨hcz12_0, hcz12_1, hcz12_2, hcz12_3, hfz12_0, hfz12_1, hfz12_2, hfz12_3⟩ := bf4_ BK175.out) | (go_at_call 74; (with_reducible refine (spec_IsSystem.calls k a1_0 _ _ l1_1 _ _ l1_2 _ _ l1_3 true _ (kc_ HR1_1.out HB.out) HC1_1.out (kc_ HR1_2.out HB.out) HC1_2.out (kc_ HR1_3.out HB.out) HC1_3.out A5.out).mono ?_); rintro e w13 ⟨rfl, hb⟩; replace BK174 := sd_ (bb_ BK174.out hb); replace BK175 := sd_ (bb_ BK175.out hb); replace HB := sd_ (below_step (bw2_ HB.out GE174.out GE175.out) hb); (try clear hb); obtain ⟨hcz14_0, hcz14_1, hcz14_2, hcz14_3, hfz14_0, hfz14_1, hfz14_2, hfz14_3⟩ := bf4_ BK174.out; obtain ⟨hcz15_0, hcz15_1, hcz15_2, hcz15_3, hfz15_0, hfz15_1, hfz15_2, hfz15_3⟩ := bf4_ BK175.out))
   go_ret
   exact ⟨an_, bw2_ HB.out GE174.out GE175.out⟩
  replace c6 := Bool.eq_false_iff.mpr c6
  subst c6
  have H1 : (some false) = some r := by rw [if_neg (show ¬ (false = true) by decide)] at H; exact H
  clear H
  have H := H1
  clear H1
  obtain rfl := Option.some.inj H
  go_enter Try.func36, Try.ntmps36
  go_wp2_with (first | ((with_reducible refine gate_dst (N := 2) rfl ?_); refine bx_ (N := 2) (cs := #[.int .i64 a0_0, .slice A0_1 l0_1.length c0_1, .slice A0_2 l0_2.length c0_2, .slice A0_3 l0_3.length c0_3]) (t := 27) ?_; intro gb174 hg w16 hbox hb; have BK174 := sd_ (hbox); have GW174 := sd_ (gs_ hg (bw0_ HB.out)); have GE174 := sd_ (gs_ hg (bw0_ HB.out)); replace HB := sd_ (below_step (bw0_ HB.out) hb); clear hb hbox hg) | ((with_reducible refine gate_dst (N := 3) rfl ?_); refine bx_ (N := 3) (cs := #[.int .i64 a1_0, .slice A1_1 l1_1.length c1_1, .slice A1_2 l1_2.length c1_2, .slice A1_3 l1_3.length c1_3]) (t := 27) ?_; intro gb175 hg w17 hbox hb; have BK175 := sd_ (hbox); have GW175 := sd_ (gs_ hg (bw1_ HB.out GE174.out)); have GE175 := sd_ (gs_ hg (bw1_ HB.out GE174.out)); replace HB := sd_ (below_step (bw1_ HB.out GE174.out) hb); have NB174_175 := sd_ (nl_ hg (bl_ BK174.out)); have NB175_174 := sd_ (ng_ hg (bl_ BK174.out)); replace BK174 := sd_ (bb_ BK174.out hb); clear hb hbox hg; have hnb18 := NB174_175.out; have hnc18 := NB175_174.out; obtain ⟨hcz19_0, hcz19_1, hcz19_2, hcz19_3, hfz19_0, hfz19_1, hfz19_2, hfz19_3⟩ := bf4_ BK174.out) | ((with_reducible refine gate_callee (f := 74) rfl ?_); refine goesL_ (some 6) rfl rfl Try.func74 (by kernel_rfl) rfl #[.agg #[.int .i64 a0_0, .slice A0_1 l0_1.length c0_1, .slice A0_2 l0_2.length c0_2, .slice A0_3 l0_3.length c0_3]] rfl la_ ?_; (with_reducible refine (spec_IsSystem.calls k a0_0 _ _ l0_1 _ _ l0_2 _ _ l0_3 true _ (kc_ HR0_1.out HB.out) HC0_1.out (kc_ HR0_2.out HB.out) HC0_2.out (kc_ HR0_3.out HB.out) HC0_3.out A3.out).mono ?_); rintro e w20 ⟨rfl, hb⟩; refine ⟨_, rfl, ?_⟩; replace BK174 := sd_ (bb_ BK174.out hb); replace BK175 := sd_ (bb_ BK175.out hb); replace HB := sd_ (below_step (bw2_ HB.out GE174.out GE175.out) hb); (try clear hb); obtain ⟨hcz21_0, hcz21_1, hcz21_2, hcz21_3, hfz21_0, hfz21_1, hfz21_2, hfz21_3⟩ := bf4_ BK175.out) | (go_at_call 74; (with_reducible refine (spec_IsSystem.calls k a1_0 _ _ l1_1 _ _ l1_2 _ _ l1_3 false _ (kc_ HR1_1.out HB.out) HC1_1.out (kc_ HR1_2.out HB.out) HC1_2.out (kc_ HR1_3.out HB.out) HC1_3.out A5.out).mono ?_); rintro e w22 ⟨rfl, hb⟩; replace BK174 := sd_ (bb_ BK174.out hb); replace BK175 := sd_ (bb_ BK175.out hb); replace HB := sd_ (below_step (bw2_ HB.out GE174.out GE175.out) hb); (try clear hb)))
  go_ret
  exact ⟨an_, bw2_ HB.out GE174.out GE175.out⟩
 replace c4 := Bool.eq_false_iff.mpr c4
 subst c4
 have H1 : (some false) = some r := by rw [if_neg (show ¬ (false = true) by decide)] at H; exact H
 clear H
 have H := H1
 clear H1
 obtain rfl := Option.some.inj H
 go_enter Try.func36, Try.ntmps36
 go_wp2_with (first | ((with_reducible refine gate_dst (N := 2) rfl ?_); refine bx_ (N := 2) (cs := #[.int .i64 a0_0, .slice A0_1 l0_1.length c0_1, .slice A0_2 l0_2.length c0_2, .slice A0_3 l0_3.length c0_3]) (t := 27) ?_; intro gb174 hg w23 hbox hb; have BK174 := sd_ (hbox); have GW174 := sd_ (gs_ hg (bw0_ HB.out)); have GE174 := sd_ (gs_ hg (bw0_ HB.out)); replace HB := sd_ (below_step (bw0_ HB.out) hb); clear hb hbox hg) | ((with_reducible refine gate_dst (N := 3) rfl ?_); refine bx_ (N := 3) (cs := #[.int .i64 a1_0, .slice A1_1 l1_1.length c1_1, .slice A1_2 l1_2.length c1_2, .slice A1_3 l1_3.length c1_3]) (t := 27) ?_; intro gb175 hg w24 hbox hb; have BK175 := sd_ (hbox); have GW175 := sd_ (gs_ hg (bw1_ HB.out GE174.out)); have GE175 := sd_ (gs_ hg (bw1_ HB.out GE174.out)); replace HB := sd_ (below_step (bw1_ HB.out GE174.out) hb); have NB174_175 := sd_ (nl_ hg (bl_ BK174.out)); have NB175_174 := sd_ (ng_ hg (bl_ BK174.out)); replace BK174 := sd_ (bb_ BK174.out hb); clear hb hbox hg; have hnb25 := NB174_175.out; have hnc25 := NB175_174.out; obtain ⟨hcz26_0, hcz26_1, hcz26_2, hcz26_3, hfz26_0, hfz26_1, hfz26_2, hfz26_3⟩ := bf4_ BK174.out) | ((with_reducible refine gate_callee (f := 74) rfl ?_); refine goesL_ (some 6) rfl rfl Try.func74 (by kernel_rfl) rfl #[.agg #[.int .i64 a0_0, .slice A0_1 l0_1.length c0_1, .slice A0_2 l0_2.length c0_2, .slice A0_3 l0_3.length c0_3]] rfl la_ ?_; (with_reducible refine (spec_IsSystem.calls k a0_0 _ _ l0_1 _ _ l0_2 _ _ l0_3 false _ (kc_ HR0_1.out HB.out) HC0_1.out (kc_ HR0_2.out HB.out) HC0_2.out (kc_ HR0_3.out HB.out) HC0_3.out A3.out).mono ?_); rintro e w27 ⟨rfl, hb⟩; refine ⟨_, rfl, ?_⟩; replace BK174 := sd_ (bb_ BK174.out hb); replace BK175 := sd_ (bb_ BK175.out hb); replace HB := sd_ (below_step (bw2_ HB.out GE174.out GE175.out) hb); (try clear hb)))
 go_ret
 exact ⟨an_, bw2_ HB.out GE174.out GE175.out⟩

end Go.Proofs.Ytipfkicndjddgaa.P
end
