-- Printed by this session's own program (wip/tools/mkprint.py) out of the translation. Not trusted: Lean checks it.
import Derived.Test.YtipfkicndjddgaaP0
import Derived.Test.YtipfkicndjddgaaM5
/-! short words -/
namespace Go.Proofs.Ytipfkicndjddgaa.P
open Go.RowKit Go.Proofs.YtipfkicndjddgaaW.PrintWords Go.Proofs.YtipfkicndjddgaaW.PrintLast Go.Proofs.YtipfkicndjddgaaW.PrintMore
attribute [local go_sem] max2_int min2_int max_two min_two max_three min_three max_four min_four   -- for this text's walks alone
set_option linter.unusedVariables false
set_option linter.unusedSimpArgs false

/-! ### impl_System_join: function 106 -/
mutual
def impl_System_join.l0 : Nat → Int → Int → Int → Int → List Int → List Int → List Bool → Option (Int)
 | 0, _, _, _, _, _, _, _ => none
 | k + 1, x1, x2, x7, x273000, x273001, x273002, x273003 => if x7 < x273000 then ((impl_System_below.f x273000 x273001 x273002 x273003 x1 x7).bind fun t273 => (if t273 = true then ((impl_System_below.f x273000 x273001 x273002 x273003 x2 x7).bind fun t274 => (impl_System_join.j1 k x1 x2 x7 (!t274) x273000 x273001 x273002 x273003)) else (impl_System_join.j1 k x1 x2 x7 true x273000 x273001 x273002 x273003))) else (some (-1))
def impl_System_join.j1 : Nat → Int → Int → Int → Bool → Int → List Int → List Int → List Bool → Option (Int)
 | 0, _, _, _, _, _, _, _, _ => none
 | k + 1, x1, x2, x7, x27, x273000, x273001, x273002, x273003 => if x27 = true then (impl_System_join.l0 k x1 x2 (wrap64 (x7 + 1)) x273000 x273001 x273002 x273003) else (impl_System_join.l1 k x1 x2 x7 true 0 x273000 x273001 x273002 x273003)
def impl_System_join.l1 : Nat → Int → Int → Int → Bool → Int → Int → List Int → List Int → List Bool → Option (Int)
 | 0, _, _, _, _, _, _, _, _, _ => none
 | k + 1, x1, x2, x7, x8, x9, x273000, x273001, x273002, x273003 => if x9 < x273000 then (if x8 = true then ((impl_System_below.f x273000 x273001 x273002 x273003 x1 x9).bind fun t275 => (if t275 = true then ((impl_System_below.f x273000 x273001 x273002 x273003 x2 x9).bind fun t276 => (if t276 = true then ((impl_System_below.f x273000 x273001 x273002 x273003 x7 x9).bind fun t277 => (impl_System_join.l1 k x1 x2 x7 t277 (wrap64 (x9 + 1)) x273000 x273001 x273002 x273003)) else (impl_System_join.l1 k x1 x2 x7 true (wrap64 (x9 + 1)) x273000 x273001 x273002 x273003))) else (impl_System_join.l1 k x1 x2 x7 true (wrap64 (x9 + 1)) x273000 x273001 x273002 x273003))) else (impl_System_join.l1 k x1 x2 x7 false (wrap64 (x9 + 1)) x273000 x273001 x273002 x273003)) else (if x8 = true then (some x7) else (impl_System_join.l0 k x1 x2 (wrap64 (x7 + 1)) x273000 x273001 x273002 x273003))
end
def impl_System_join.f (k : Nat) (a0_0 : Int) (l0_1 : List Int) (l0_2 : List Int) (l0_3 : List Bool) (a1 : Int) (a2 : Int) : Option (Int) := impl_System_join.l0 k a1 a2 0 a0_0 l0_1 l0_2 l0_3
set_option maxHeartbeats 8000000 in
set_option maxRecDepth 100000 in
theorem impl_System_join.calls (k : Nat) (a0_0 : Int) (A0_1 : Option Addr) (c0_1 : Nat) (l0_1 : List Int) (A0_2 : Option Addr) (c0_2 : Nat) (l0_2 : List Int) (A0_3 : Option Addr) (c0_3 : Nat) (l0_3 : List Bool) (a1 : Int) (a2 : Int) (r : Int) (w : World) (hr0_1 : Kd.C (Kd.int .i64) w A0_1 l0_1.length l0_1) (hc0_1 : l0_1.length ≤ c0_1) (hr0_2 : Kd.C (Kd.int .i64) w A0_2 l0_2.length l0_2) (hc0_2 : l0_2.length ≤ c0_2) (hr0_3 : Kd.C Kd.bool w A0_3 l0_3.length l0_3) (hc0_3 : l0_3.length ≤ c0_3) (h : impl_System_join.f k a0_0 l0_1 l0_2 l0_3 a1 a2 = some r) :
  Calls Try.prog 106 #[.agg #[.int .i64 a0_0, .slice A0_1 l0_1.length c0_1, .slice A0_2 l0_2.length c0_2, .slice A0_3 l0_3.length c0_3], .int .i64 a1, .int .i64 a2] w fun e w' => e = .returned (.int .i64 r) ∧ Below w.heap.size w w' := by
 have hu27 := Try.underlying27
 have HR0_1 := sd_ hr0_1
 have HC0_1 := sd_ hc0_1
 clear hr0_1 hc0_1
 have HR0_2 := sd_ hr0_2
 have HC0_2 := sd_ hc0_2
 clear hr0_2 hc0_2
 have HR0_3 := sd_ hr0_3
 have HC0_3 := sd_ hc0_3
 clear hr0_3 hc0_3
 have HB := sd_ (Below.refl w.heap.size w)
 have H : (impl_System_join.l0 k a1 a2 0 a0_0 l0_1 l0_2 l0_3) = some r := h
 clear h
 have H' := sd_ H
 clear H
 go_enter Try.func106, Try.ntmps106
 go_wp2_with (first | ((with_reducible refine gate_dst (N := 3) rfl ?_); refine bx_ (N := 3) (cs := #[.int .i64 a0_0, .slice A0_1 l0_1.length c0_1, .slice A0_2 l0_2.length c0_2, .slice A0_3 l0_3.length c0_3]) (t := 27) ?_; intro gb272 hg w4 hbox hb; have BK272 := sd_ (hbox); have GW272 := sd_ (gs_ hg (bw0_ HB.out)); have GE272 := sd_ (gs_ hg (bw0_ HB.out)); replace HB := sd_ (below_step (bw0_ HB.out) hb); clear hb hbox hg))
 go_loopg [7] k (fun kq v7 w' => ∃ (x7_1 : Int), v7 = .int .i64 x7_1 ∧ Aside0 (impl_System_join.l0 kq a1 a2 x7_1 a0_0 l0_1 l0_2 l0_3 = some r) ∧ Aside0 (kq ≤ k) ∧ Aside0 (w'.heap[gb272]? = some (.cells #[.int .i64 a0_0, (.slice A0_1 l0_1.length c0_1), (.slice A0_2 l0_2.length c0_2), (.slice A0_3 l0_3.length c0_3)] 27 (0, 0))) ∧ Aside0 (Below w.heap.size w w'))
 case atStart => exact ⟨(0), sm_, H', ⟨Nat.le_refl _⟩, ⟨by exact bz_ BK272.out⟩, ⟨bw1_ HB.out GE272.out⟩⟩
 case round =>
  clear H'
  try clear c1
  try clear p2
  obtain ⟨x7_1, rfl, HA, HK1, BK272, HB⟩ := hrel
  cases gk with
  | zero => exact absurd HA.out (by simp [impl_System_join.l0])
  | succ k1 =>
   have H := HA.out
   clear HA
   simp only [impl_System_join.l0] at H
   by_cases c5 : x7_1 < a0_0
   ·rw [if_pos c5] at H
    have c5b0 : decide (x7_1 < a0_0) = true := decide_eq_true c5
    clear c5
    have HC6 := sd_ H
    clear H
    obtain ⟨hcz7_0, hcz7_1, hcz7_2, hcz7_3, hfz7_0, hfz7_1, hfz7_2, hfz7_3⟩ := bf4_ BK272.out
    go_upto_region 4 with (fail)
    go_cut [27] (fun v27 wc => ∃ (kq : Nat) (x27_5 : Bool), v27 = .bool x27_5 ∧ Aside0 (impl_System_join.j1 kq a1 a2 x7_1 x27_5 a0_0 l0_1 l0_2 l0_3 = some r) ∧ Aside0 (kq ≤ k1) ∧ Aside0 (wc.heap[gb272]? = some (.cells #[.int .i64 a0_0, (.slice A0_1 l0_1.length c0_1), (.slice A0_2 l0_2.length c0_2), (.slice A0_3 l0_3.length c0_3)] 27 (0, 0))) ∧ Aside0 (Below w.heap.size w wc))
    case first =>
     have H := HC6.out
     clear HC6
     replace H := Option.bind_eq_some_iff.mp H
     obtain ⟨t273, A80, H⟩ := H
     try dsimp only at H
     have A8 := sd_ A80
     clear A80
     by_cases c9 : t273 = true
     ·subst c9
      have H1 : ((impl_System_below.f a0_0 l0_1 l0_2 l0_3 a2 x7_1).bind fun t274 => (impl_System_join.j1 k1 a1 a2 x7_1 (!t274) a0_0 l0_1 l0_2 l0_3)) = some r := by rw [if_pos rfl] at H; exact H
      clear H
      have H := H1
      clear H1
      replace H := Option.bind_eq_some_iff.mp H
      obtain ⟨t274, A100, H⟩ := H
      try dsimp only at H
      have A10 := sd_ A100
      clear A100
      have H' := sd_ H
      clear H
      obtain ⟨hcz11_0, hcz11_1, hcz11_2, hcz11_3, hfz11_0, hfz11_1, hfz11_2, hfz11_3⟩ := bf4_ BK272.out
      go_wp2_with (first | ((with_reducible refine gate_callee (f := 53) rfl ?_); refine goesL_ (some 19) rfl rfl Try.func53 (by kernel_rfl) rfl #[.agg #[.int .i64 a0_0, .slice A0_1 l0_1.length c0_1, .slice A0_2 l0_2.length c0_2, .slice A0_3 l0_3.length c0_3], .int .i64 a1, .int .i64 x7_1] rfl la_ ?_; (with_reducible refine (impl_System_below.calls a0_0 _ _ l0_1 _ _ l0_2 _ _ l0_3 a1 x7_1 true _ (kc_ HR0_1.out HB.out) HC0_1.out (kc_ HR0_2.out HB.out) HC0_2.out (kc_ HR0_3.out HB.out) HC0_3.out A8.out).mono ?_); rintro e w12 ⟨rfl, hb⟩; refine ⟨_, rfl, ?_⟩; replace BK272 := sd_ (bb_ BK272.out hb); replace HB := sd_ (below_step (bw1_ HB.out GE272.out) hb); (try clear hb); obtain ⟨hcz13_0, hcz13_1, hcz13_2, hcz13_3, hfz13_0, hfz13_1, hfz13_2, hfz13_3⟩ := bf4_ BK272.out) | (go_at_call 53; (with_reducible refine (impl_System_below.calls a0_0 _ _ l0_1 _ _ l0_2 _ _ l0_3 a2 x7_1 t274 _ (kc_ HR0_1.out HB.out) HC0_1.out (kc_ HR0_2.out HB.out) HC0_2.out (kc_ HR0_3.out HB.out) HC0_3.out A10.out).mono ?_); rintro e w14 ⟨rfl, hb⟩; replace BK272 := sd_ (bb_ BK272.out hb); replace HB := sd_ (below_step (bw1_ HB.out GE272.out) hb); (try clear hb)))
      go_meet
      case rel => exact ⟨_, (!t274), sm_, H', ⟨by have := HK1.out; first | omega | exact Nat.le_refl _⟩, ⟨by exact bz_ BK272.out⟩, ⟨bw1_ HB.out GE272.out⟩⟩
     replace c9 := Bool.eq_false_iff.mpr c9
     subst c9
     have H1 : (impl_System_join.j1 k1 a1 a2 x7_1 true a0_0 l0_1 l0_2 l0_3) = some r := by rw [if_neg (show ¬ (false = true) by decide)] at H; exact H
     clear H
     have H := H1
     clear H1
     have H' := sd_ H
     clear H
     obtain ⟨hcz15_0, hcz15_1, hcz15_2, hcz15_3, hfz15_0, hfz15_1, hfz15_2, hfz15_3⟩ := bf4_ BK272.out
     go_wp2_with (first | ((with_reducible refine gate_callee (f := 53) rfl ?_); refine goesL_ (some 19) rfl rfl Try.func53 (by kernel_rfl) rfl #[.agg #[.int .i64 a0_0, .slice A0_1 l0_1.length c0_1, .slice A0_2 l0_2.length c0_2, .slice A0_3 l0_3.length c0_3], .int .i64 a1, .int .i64 x7_1] rfl la_ ?_; (with_reducible refine (impl_System_below.calls a0_0 _ _ l0_1 _ _ l0_2 _ _ l0_3 a1 x7_1 false _ (kc_ HR0_1.out HB.out) HC0_1.out (kc_ HR0_2.out HB.out) HC0_2.out (kc_ HR0_3.out HB.out) HC0_3.out A8.out).mono ?_); rintro e w16 ⟨rfl, hb⟩; refine ⟨_, rfl, ?_⟩; replace BK272 := sd_ (bb_ BK272.out hb); replace HB := sd_ (below_step (bw1_ HB.out GE272.out) hb); (try clear hb)))
     go_meet
     case rel => exact ⟨_, (true), sm_, H', ⟨by have := HK1.out; first | omega | exact Nat.le_refl _⟩, ⟨by exact bz_ BK272.out⟩, ⟨bw1_ HB.out GE272.out⟩⟩
    case rest =>
     clear HC6
     try clear c1
     try clear p2
     try clear c5
     try clear c5b0
     try clear c10
     try clear hcz7_0
     try clear hcz7_1
     try clear hcz7_2
     try clear hcz7_3
     try clear hfz7_0
     try clear hfz7_1
     try clear hfz7_2
     try clear hfz7_3
     try clear p2
     obtain ⟨kq, x27_5, rfl, HA, HJ5, BK272, HB⟩ := hcut
     cases kq with
     | zero => exact absurd HA.out (by simp [impl_System_join.j1])
     | succ kj5 =>
      have H := HA.out
      clear HA
      simp only [impl_System_join.j1] at H
      by_cases c17 : x27_5 = true
      ·subst c17
       have H1 : (impl_System_join.l0 kj5 a1 a2 (wrap64 (x7_1 + 1)) a0_0 l0_1 l0_2 l0_3) = some r := by rw [if_pos rfl] at H; exact H
       clear H
       have H := H1
       clear H1
       have H' := sd_ H
       clear H
       go_wp2
       go_roundg kj5
       case measure => have := HK1.out; have := HJ5.out; omega
       case rel => exact ⟨(wrap64 (x7_1 + 1)), sm_, H', ⟨by have := HK1.out; have := HJ5.out; omega⟩, ⟨by exact bz_ BK272.out⟩, ⟨bw1_ HB.out GE272.out⟩⟩
      replace c17 := Bool.eq_false_iff.mpr c17
      subst c17
      have H1 : (impl_System_join.l1 kj5 a1 a2 x7_1 true 0 a0_0 l0_1 l0_2 l0_3) = some r := by rw [if_neg (show ¬ (false = true) by decide)] at H; exact H
      clear H
      have H := H1
      clear H1
      have H' := sd_ H
      clear H
      go_wp2
      go_loopg [8, 9] kj5 (fun kq v8 v9 w' => ∃ (x8_3 : Bool) (x9_3 : Int), v8 = .bool x8_3 ∧ v9 = .int .i64 x9_3 ∧ Aside0 (impl_System_join.l1 kq a1 a2 x7_1 x8_3 x9_3 a0_0 l0_1 l0_2 l0_3 = some r) ∧ Aside0 (kq ≤ kj5) ∧ Aside0 (w'.heap[gb272]? = some (.cells #[.int .i64 a0_0, (.slice A0_1 l0_1.length c0_1), (.slice A0_2 l0_2.length c0_2), (.slice A0_3 l0_3.length c0_3)] 27 (0, 0))) ∧ Aside0 (Below w.heap.size w w'))
      case atStart => exact ⟨(true), (0), sm_, sm_, H', ⟨Nat.le_refl _⟩, ⟨by exact bz_ BK272.out⟩, ⟨bw1_ HB.out GE272.out⟩⟩
      case round =>
       clear H'
       try clear c1
       try clear p2
       try clear c5
       try clear c5b0
       try clear c10
       try clear c17
       try clear hcz7_0
       try clear hcz7_1
       try clear hcz7_2
       try clear hcz7_3
       try clear hfz7_0
       try clear hfz7_1
       try clear hfz7_2
       try clear hfz7_3
       try clear p2
       obtain ⟨x8_3, x9_3, rfl, rfl, HA, HK3, BK272, HB⟩ := hrel
       cases gk with
       | zero => exact absurd HA.out (by simp [impl_System_join.l1])
       | succ k3 =>
        have H := HA.out
        clear HA
        simp only [impl_System_join.l1] at H
        by_cases c18 : x9_3 < a0_0
        ·rw [if_pos c18] at H
         have c18b0 : decide (x9_3 < a0_0) = true := decide_eq_true c18
         clear c18
         by_cases c19 : x8_3 = true
         ·subst c19
          have H1 : ((impl_System_below.f a0_0 l0_1 l0_2 l0_3 a1 x9_3).bind fun t275 => (if t275 = true then ((impl_System_below.f a0_0 l0_1 l0_2 l0_3 a2 x9_3).bind fun t276 => (if t276 = true then ((impl_System_below.f a0_0 l0_1 l0_2 l0_3 x7_1 x9_3).bind fun t277 => (impl_System_join.l1 k3 a1 a2 x7_1 t277 (wrap64 (x9_3 + 1)) a0_0 l0_1 l0_2 l0_3)) else (impl_System_join.l1 k3 a1 a2 x7_1 true (wrap64 (x9_3 + 1)) a0_0 l0_1 l0_2 l0_3))) else (impl_System_join.l1 k3 a1 a2 x7_1 true (wrap64 (x9_3 + 1)) a0_0 l0_1 l0_2 l0_3))) = some r := by rw [if_pos rfl] at H; exact H
          clear H
          have H := H1
          clear H1
          replace H := Option.bind_eq_some_iff.mp H
          obtain ⟨t275, A200, H⟩ := H
          try dsimp only at H
          have A20 := sd_ A200
          clear A200
          by_cases c21 : t275 = true
          ·subst c21
           have H1 : ((impl_System_below.f a0_0 l0_1 l0_2 l0_3 a2 x9_3).bind fun t276 => (if t276 = true then ((impl_System_below.f a0_0 l0_1 l0_2 l0_3 x7_1 x9_3).bind fun t277 => (impl_System_join.l1 k3 a1 a2 x7_1 t277 (wrap64 (x9_3 + 1)) a0_0 l0_1 l0_2 l0_3)) else (impl_System_join.l1 k3 a1 a2 x7_1 true (wrap64 (x9_3 + 1)) a0_0 l0_1 l0_2 l0_3))) = some r := by rw [if_pos rfl] at H; exact H
           clear H
           have H := H1
           clear H1
           replace H := Option.bind_eq_some_iff.mp H
           obtain ⟨t276, A220, H⟩ := H
           try dsimp only at H
           have A22 := sd_ A220
           clear A220
           by_cases c23 : t276 = true
           ·subst c23
            have H1 : ((impl_System_below.f a0_0 l0_1 l0_2 l0_3 x7_1 x9_3).bind fun t277 => (impl_System_join.l1 k3 a1 a2 x7_1 t277 (wrap64 (x9_3 + 1)) a0_0 l0_1 l0_2 l0_3)) = some r := by rw [if_pos rfl] at H; exact H
            clear H
            have H := H1
            clear H1
            replace H := Option.bind_eq_some_iff.mp H
            obtain ⟨t277, A240, H⟩ := H
            try dsimp only at H
            have A24 := sd_ A240
            clear A240
            have H' := sd_ H
            clear H
            obtain ⟨hcz25_0, hcz25_1, hcz25_2, hcz25_3, hfz25_0, hfz25_1, hfz25_2, hfz25_3⟩ := bf4_ BK272.out
            go_wp2_with (first | (go_at_call 53; (with_reducible refine (impl_System_below.calls a0_0 _ _ l0_1 _ _ l0_2 _ _ l0_3 a1 x9_3 true _ (kc_ HR0_1.out HB.out) HC0_1.out (kc_ HR0_2.out HB.out) HC0_2.out (kc_ HR0_3.out HB.out) HC0_3.out A20.out).mono ?_); rintro e w26 ⟨rfl, hb⟩; replace BK272 := sd_ (bb_ BK272.out hb); replace HB := sd_ (below_step (bw1_ HB.out GE272.out) hb); (try clear hb); obtain ⟨hcz27_0, hcz27_1, hcz27_2, hcz27_3, hfz27_0, hfz27_1, hfz27_2, hfz27_3⟩ := bf4_ BK272.out) | (go_at_call 53; (with_reducible refine (impl_System_below.calls a0_0 _ _ l0_1 _ _ l0_2 _ _ l0_3 a2 x9_3 true _ (kc_ HR0_1.out HB.out) HC0_1.out (kc_ HR0_2.out HB.out) HC0_2.out (kc_ HR0_3.out HB.out) HC0_3.out A22.out).mono ?_); rintro e w28 ⟨rfl, hb⟩; replace BK272 := sd_ (bb_ BK272.out hb); replace HB := sd_ (below_step (bw1_ HB.out GE272.out) hb); (try clear hb); obtain ⟨hcz29_0, hcz29_1, hcz29_2, hcz29_3, hfz29_0, hfz29_1, hfz29_2, hfz29_3⟩ := bf4_ BK272.out) | (go_at_call 53; (with_reducible refine (impl_System_below.calls a0_0 _ _ l0_1 _ _ l0_2 _ _ l0_3 x7_1 x9_3 t277 _ (kc_ HR0_1.out HB.out) HC0_1.out (kc_ HR0_2.out HB.out) HC0_2.out (kc_ HR0_3.out HB.out) HC0_3.out A24.out).mono ?_); rintro e w30 ⟨rfl, hb⟩; replace BK272 := sd_ (bb_ BK272.out hb); replace HB := sd_ (below_step (bw1_ HB.out GE272.out) hb); (try clear hb)))
            go_roundg k3
            case measure => have := HK1.out; have := HJ5.out; have := HK3.out; omega
            case rel => exact ⟨(t277), (wrap64 (x9_3 + 1)), sm_, sm_, H', ⟨by have := HK1.out; have := HJ5.out; have := HK3.out; omega⟩, ⟨by exact bz_ BK272.out⟩, ⟨bw1_ HB.out GE272.out⟩⟩
           replace c23 := Bool.eq_false_iff.mpr c23
           subst c23
           have H1 : (impl_System_join.l1 k3 a1 a2 x7_1 true (wrap64 (x9_3 + 1)) a0_0 l0_1 l0_2 l0_3) = some r := by rw [if_neg (show ¬ (false = true) by decide)] at H; exact H
           clear H
           have H := H1
           clear H1
           have H' := sd_ H
           clear H
           obtain ⟨hcz31_0, hcz31_1, hcz31_2, hcz31_3, hfz31_0, hfz31_1, hfz31_2, hfz31_3⟩ := bf4_ BK272.out
           go_wp2_with (first | (go_at_call 53; (with_reducible refine (impl_System_below.calls a0_0 _ _ l0_1 _ _ l0_2 _ _ l0_3 a1 x9_3 true _ (kc_ HR0_1.out HB.out) HC0_1.out (kc_ HR0_2.out HB.out) HC0_2.out (kc_ HR0_3.out HB.out) HC0_3.out A20.out).mono ?_); rintro e w32 ⟨rfl, hb⟩; replace BK272 := sd_ (bb_ BK272.out hb); replace HB := sd_ (below_step (bw1_ HB.out GE272.out) hb); (try clear hb); obtain ⟨hcz33_0, hcz33_1, hcz33_2, hcz33_3, hfz33_0, hfz33_1, hfz33_2, hfz33_3⟩ := bf4_ BK272.out) | (go_at_call 53; (with_reducible refine (impl_System_below.calls a0_0 _ _ l0_1 _ _ l0_2 _ _ l0_3 a2 x9_3 false _ (kc_ HR0_1.out HB.out) HC0_1.out (kc_ HR0_2.out HB.out) HC0_2.out (kc_ HR0_3.out HB.out) HC0_3.out A22.out).mono ?_); rintro e w34 ⟨rfl, hb⟩; replace BK272 := sd_ (bb_ BK272.out hb); replace HB := sd_ (below_step (bw1_ HB.out GE272.out) hb); (try clear hb)))
           go_roundg k3
           case measure => have := HK1.out; have := HJ5.out; have := HK3.out; omega
           case rel => exact ⟨(true), (wrap64 (x9_3 + 1)), sm_, sm_, H', ⟨by have := HK1.out; have := HJ5.out; have := HK3.out; omega⟩, ⟨by exact bz_ BK272.out⟩, ⟨bw1_ HB.out GE272.out⟩⟩
          replace c21 := Bool.eq_false_iff.mpr c21
          subst c21
          have H1 : (impl_System_join.l1 k3 a1 a2 x7_1 true (wrap64 (x9_3 + 1)) a0_0 l0_1 l0_2 l0_3) = some r := by rw [if_neg (show ¬ (false = true) by decide)] at H; exact H
          clear H
          have H := H1
          clear H1
          have H' := sd_ H
          clear H
          obtain ⟨hcz35_0, hcz35_1, hcz35_2, hcz35_3, hfz35_0, hfz35_1, hfz35_2, hfz35_3⟩ := bf4_ BK272.out
          go_wp2_with (first | (go_at_call 53; (with_reducible refine (impl_System_below.calls a0_0 _ _ l0_1 _ _ l0_2 _ _ l0_3 a1 x9_3 false _ (kc_ HR0_1.out HB.out) HC0_1.out (kc_ HR0_2.out HB.out) HC0_2.out (kc_ HR0_3.out HB.out) HC0_3.out A20.out).mono ?_); rintro e w36 ⟨rfl, hb⟩; replace BK272 := sd_ (bb_ BK272.out hb); replace HB := sd_ (below_step (bw1_ HB.out GE272.out) hb); (try clear hb)))
          go_roundg k3
          case measure => have := HK1.out; have := HJ5.out; have := HK3.out; omega
          case rel => exact ⟨(true), (wrap64 (x9_3 + 1)), sm_, sm_, H', ⟨by have := HK1.out; have := HJ5.out; have := HK3.out; omega⟩, ⟨by exact bz_ BK272.out⟩, ⟨bw1_ HB.out GE272.out⟩⟩
         replace c19 := Bool.eq_false_iff.mpr c19
         subst c19
         have H1 : (impl_System_join.l1 k3 a1 a2 x7_1 false (wrap64 (x9_3 + 1)) a0_0 l0_1 l0_2 l0_3) = some r := by rw [if_neg (show ¬ (false = true) by decide)] at H; exact H
         clear H
         have H := H1
         clear H1
         have H' := sd_ H
         clear H
         obtain ⟨hcz37_0, hcz37_1, hcz37_2, hcz37_3, hfz37_0, hfz37_1, hfz37_2, hfz37_3⟩ := bf4_ BK272.out
         go_wp2
         go_roundg k3
         case measure => have := HK1.out; have := HJ5.out; have := HK3.out; omega
         case rel => exact ⟨(false), (wrap64 (x9_3 + 1)), sm_, sm_, H', ⟨by have := HK1.out; have := HJ5.out; have := HK3.out; omega⟩, ⟨by exact bz_ BK272.out⟩, ⟨bw1_ HB.out GE272.out⟩⟩
        rw [if_neg c18] at H
        have c18b0 : decide (x9_3 < a0_0) = false := decide_eq_false c18
        clear c18
        by_cases c38 : x8_3 = true
        ·subst c38
         have H1 : (some x7_1) = some r := by rw [if_pos rfl] at H; exact H
         clear H
         have H := H1
         clear H1
         obtain rfl := Option.some.inj H
         obtain ⟨hcz39_0, hcz39_1, hcz39_2, hcz39_3, hfz39_0, hfz39_1, hfz39_2, hfz39_3⟩ := bf4_ BK272.out
         go_wp2
         go_ret
         exact ⟨an_, bw1_ HB.out GE272.out⟩
        replace c38 := Bool.eq_false_iff.mpr c38
        subst c38
        have H1 : (impl_System_join.l0 k3 a1 a2 (wrap64 (x7_1 + 1)) a0_0 l0_1 l0_2 l0_3) = some r := by rw [if_neg (show ¬ (false = true) by decide)] at H; exact H
        clear H
        have H := H1
        clear H1
        have H' := sd_ H
        clear H
        obtain ⟨hcz40_0, hcz40_1, hcz40_2, hcz40_3, hfz40_0, hfz40_1, hfz40_2, hfz40_3⟩ := bf4_ BK272.out
        go_wp2
        go_roundg k3
        case measure => have := HK1.out; have := HJ5.out; have := HK3.out; omega
        case rel => exact ⟨(wrap64 (x7_1 + 1)), sm_, H', ⟨by have := HK1.out; have := HJ5.out; have := HK3.out; omega⟩, ⟨by exact bz_ BK272.out⟩, ⟨bw1_ HB.out GE272.out⟩⟩
   rw [if_neg c5] at H
   have c5b0 : decide (x7_1 < a0_0) = false := decide_eq_false c5
   clear c5
   obtain rfl := Option.some.inj H
   obtain ⟨hcz41_0, hcz41_1, hcz41_2, hcz41_3, hfz41_0, hfz41_1, hfz41_2, hfz41_3⟩ := bf4_ BK272.out
   go_wp2
   go_ret
   exact ⟨an_, bw1_ HB.out GE272.out⟩

end Go.Proofs.Ytipfkicndjddgaa.P
