-- Several texts in one (wip/tools/merge2.py).
import Derived.Test.YtcdmnofomoadlaaM1
import Derived.Test.YtcdmnofomoadlaaM2
section
namespace Go.Proofs.Ytcdmnofomoadlaa.P
open Go.RowKit Go.Proofs.YtcdmnofomoadlaaW.PrintWords Go.Proofs.YtcdmnofomoadlaaW.PrintLast Go.Proofs.YtcdmnofomoadlaaW.PrintMore
attribute [local go_sem] max2_int min2_int max_two min_two max_three min_three max_four min_four   -- for this text's walks alone
set_option linter.unusedVariables false
set_option linter.unusedSimpArgs false
/-! ### spec_l1Join: function 125 -/
mutual
def spec_l1Join.l0 : Nat → Int → Int → Int → Int → List Int → List Int → List Bool → Option (Int)
 | 0, _, _, _, _, _, _, _ => none
 | k + 1, x1, x2, x7, x160000, x160001, x160002, x160003 => if x7 < x160000 then ((spec_l1Le.f x160000 x160001 x160002 x160003 x1 x7).bind fun t160 => (if t160 = true then ((spec_l1Le.f x160000 x160001 x160002 x160003 x2 x7).bind fun t161 => (spec_l1Join.j1 k x1 x2 x7 t161 x160000 x160001 x160002 x160003)) else (spec_l1Join.j1 k x1 x2 x7 false x160000 x160001 x160002 x160003))) else (some (-1))
def spec_l1Join.j1 : Nat → Int → Int → Int → Bool → Int → List Int → List Int → List Bool → Option (Int)
 | 0, _, _, _, _, _, _, _, _ => none
 | k + 1, x1, x2, x7, x8, x160000, x160001, x160002, x160003 => spec_l1Join.l1 k x1 x2 x7 x8 0 x160000 x160001 x160002 x160003
def spec_l1Join.l1 : Nat → Int → Int → Int → Bool → Int → Int → List Int → List Int → List Bool → Option (Int)
 | 0, _, _, _, _, _, _, _, _, _ => none
 | k + 1, x1, x2, x7, x8, x9, x160000, x160001, x160002, x160003 => if x9 < x160000 then (spec_l1Join.j3 k x1 x2 x7 x8 x9 x8 x160000 x160001 x160002 x160003) else (spec_l1Join.j3 k x1 x2 x7 x8 x9 false x160000 x160001 x160002 x160003)
def spec_l1Join.j3 : Nat → Int → Int → Int → Bool → Int → Bool → Int → List Int → List Int → List Bool → Option (Int)
 | 0, _, _, _, _, _, _, _, _, _, _ => none
 | k + 1, x1, x2, x7, x8, x9, x32, x160000, x160001, x160002, x160003 => if x32 = true then ((spec_l1Le.f x160000 x160001 x160002 x160003 x1 x9).bind fun t162 => (if t162 = true then ((spec_l1Le.f x160000 x160001 x160002 x160003 x2 x9).bind fun t163 => (if t163 = true then ((spec_l1Le.f x160000 x160001 x160002 x160003 x7 x9).bind fun t164 => (spec_l1Join.l1 k x1 x2 x7 t164 (wrap64 (x9 + 1)) x160000 x160001 x160002 x160003)) else (spec_l1Join.l1 k x1 x2 x7 true (wrap64 (x9 + 1)) x160000 x160001 x160002 x160003))) else (spec_l1Join.l1 k x1 x2 x7 true (wrap64 (x9 + 1)) x160000 x160001 x160002 x160003))) else (if x8 = true then (some x7) else (spec_l1Join.l0 k x1 x2 (wrap64 (x7 + 1)) x160000 x160001 x160002 x160003))
end
def spec_l1Join.f (k : Nat) (a0_0 : Int) (l0_1 : List Int) (l0_2 : List Int) (l0_3 : List Bool) (a1 : Int) (a2 : Int) : Option (Int) := spec_l1Join.l0 k a1 a2 0 a0_0 l0_1 l0_2 l0_3
set_option maxHeartbeats 8000000 in
set_option maxRecDepth 100000 in
theorem spec_l1Join.calls (k : Nat) (a0_0 : Int) (A0_1 : Option Addr) (c0_1 : Nat) (l0_1 : List Int) (A0_2 : Option Addr) (c0_2 : Nat) (l0_2 : List Int) (A0_3 : Option Addr) (c0_3 : Nat) (l0_3 : List Bool) (a1 : Int) (a2 : Int) (r : Int) (w : World) (hr0_1 : Kd.C (Kd.int .i64) w A0_1 l0_1.length l0_1) (hc0_1 : l0_1.length ≤ c0_1) (hr0_2 : Kd.C (Kd.int .i64) w A0_2 l0_2.length l0_2) (hc0_2 : l0_2.length ≤ c0_2) (hr0_3 : Kd.C Kd.bool w A0_3 l0_3.length l0_3) (hc0_3 : l0_3.length ≤ c0_3) (h : spec_l1Join.f k a0_0 l0_1 l0_2 l0_3 a1 a2 = some r) :
  Calls Try.prog 125 #[.agg #[.int .i64 a0_0, .slice A0_1 l0_1.length c0_1, .slice A0_2 l0_2.length c0_2, .slice A0_3 l0_3.length c0_3], .int .i64 a1, .int .i64 a2] w fun e w' => e = .returned (.int .i64 r) ∧ Below w.heap.size w w' := by
 have hu27 := Try.underlying27
 have HR0_1 := sd_ hr0_1
 have HC0_1 := sd_ hc0_1
 clear hr0_1 hc0_1
 have HR0_2 := sd_ hr0_2
 have HC0_2 := sd_ hc0_2
 clear hr0_2 hc0_2
 have HR0_3 := sd_ hr0_3
 have HC0_3 := sd_ hc0_3
 clear hr0_3 hc0_3
 have HB := sd_ (Below.refl w.heap.size w)
 have H : (spec_l1Join.l0 k a1 a2 0 a0_0 l0_1 l0_2 l0_3) = some r := h
 clear h
 have H' := sd_ H
 clear H
 go_enter Try.func125, Try.ntmps125
 go_wp2_with (first | ((with_reducible refine gate_dst (N := 3) rfl ?_); refine bx_ (N := 3) (cs := #[.int .i64 a0_0, .slice A0_1 l0_1.length c0_1, .slice A0_2 l0_2.length c0_2, .slice A0_3 l0_3.length c0_3]) (t := 27) ?_; intro gb159 hg w4 hbox hb; have BK159 := sd_ (hbox); have GW159 := sd_ (gs_ hg (bw0_ HB.out)); have GE159 := sd_ (gs_ hg (bw0_ HB.out)); replace HB := sd_ (below_step (bw0_ HB.out) hb); clear hb hbox hg))
 go_loopg [7] k (fun kq v7 w' => ∃ (x7_1 : Int), v7 = .int .i64 x7_1 ∧ Aside0 (spec_l1Join.l0 kq a1 a2 x7_1 a0_0 l0_1 l0_2 l0_3 = some r) ∧ Aside0 (kq ≤ k) ∧ Aside0 (w'.heap[gb159]? = some (.cells #[.int .i64 a0_0, (.slice A0_1 l0_1.length c0_1), (.slice A0_2 l0_2.length c0_2), (.slice A0_3 l0_3.length c0_3)] 27 (0, 0))) ∧ Aside0 (Below w.heap.size w w'))
 case atStart => exact ⟨(0), sm_, H', ⟨Nat.le_refl _⟩, ⟨by exact bz_ BK159.out⟩, ⟨bw1_ HB.out GE159.out⟩⟩
 case round =>
  clear H'
  try clear c1
  try clear p2
  obtain ⟨x7_1, rfl, HA, HK1, BK159, HB⟩ := hrel
  cases gk with
  | zero => exact absurd HA.out (by simp [spec_l1Join.l0])
  | succ k1 =>
   have H := HA.out
   clear HA
   simp only [spec_l1Join.l0] at H
   by_cases c5 : x7_1 < a0_0
   ·rw [if_pos c5] at H
    have c5b0 : decide (x7_1 < a0_0) = true := decide_eq_true c5
    clear c5
    have HC6 := sd_ H
    clear H
    obtain ⟨hcz7_0, hcz7_1, hcz7_2, hcz7_3, hfz7_0, hfz7_1, hfz7_2, hfz7_3⟩ := bf4_ BK159.out
    go_upto_region 4 with (fail)
    go_cut [8] (fun v8 wc => ∃ (kq : Nat) (x8_5 : Bool), v8 = .bool x8_5 ∧ Aside0 (spec_l1Join.j1 kq a1 a2 x7_1 x8_5 a0_0 l0_1 l0_2 l0_3 = some r) ∧ Aside0 (kq ≤ k1) ∧ Aside0 (wc.heap[gb159]? = some (.cells #[.int .i64 a0_0, (.slice A0_1 l0_1.length c0_1), (.slice A0_2 l0_2.length c0_2), (.slice A0_3 l0_3.length c0_3)] 27 (0, 0))) ∧ Aside0 (Below w.heap.size w wc))
    case first =>
     have H := HC6.out
     clear HC6
     replace H := Option.bind_eq_some_iff.mp H
     obtain ⟨t160, A80, H⟩ := H
     try dsimp only at H
     have A8 := sd_ A80
     clear A80
     by_cases c9 : t160 = true
     ·subst c9
      have H1 : ((spec_l1Le.f a0_0 l0_1 l0_2 l0_3 a2 x7_1).bind fun t161 => (spec_l1Join.j1 k1 a1 a2 x7_1 t161 a0_0 l0_1 l0_2 l0_3)) = some r := by rw [if_pos rfl] at H; exact H
      clear H
      have H := H1
      clear H1
      replace H := Option.bind_eq_some_iff.mp H
      obtain ⟨t161, A100, H⟩ := H
      try dsimp only at H
      have A10 := sd_ A100
      clear A100
      have H' := sd_ H
      clear H
      obtain ⟨hcz11_0, hcz11_1, hcz11_2, hcz11_3, hfz11_0, hfz11_1, hfz11_2, hfz11_3⟩ := bf4_ BK159.out
      go_wp2_with (first | ((with_reducible refine gate_callee (f := 90) rfl ?_); refine goesL_ (some 19) rfl rfl Try.func90 (by kernel_rfl) rfl #[.agg #[.int .i64 a0_0, .slice A0_1 l0_1.length c0_1, .slice A0_2 l0_2.length c0_2, .slice A0_3 l0_3.length c0_3], .int .i64 a1, .int .i64 x7_1] rfl la_ ?_; (with_reducible refine (spec_l1Le.calls a0_0 _ _ l0_1 _ _ l0_2 _ _ l0_3 a1 x7_1 true _ (kc_ HR0_1.out HB.out) HC0_1.out (kc_ HR0_2.out HB.out) HC0_2.out (kc_ HR0_3.out HB.out) HC0_3.out A8.out).mono ?_); rintro e w12 ⟨rfl, hb⟩; refine ⟨_, rfl, ?_⟩; replace BK159 := sd_ (bb_ BK159.out hb); replace HB := sd_ (below_step (bw1_ HB.out GE159.out) hb); (try clear hb); obtain ⟨hcz13_0, hcz13_1, hcz13_2, hcz13_3, hfz13_0, hfz13_1, hfz13_2, hfz13_3⟩ := bf4_ BK159.out) | (go_at_call 90; (with_reducible refine (spec_l1Le.calls a0_0 _ _ l0_1 _ _ l0_2 _ _ l0_3 a2 x7_1 t161 _ (kc_ HR0_1.out HB.out) HC0_1.out (kc_ HR0_2.out HB.out) HC0_2.out (kc_ HR0_3.out HB.out) HC0_3.out A10.out).mono ?_); rintro e w14 ⟨rfl, hb⟩; replace BK159 := sd_ (bb_ BK159.out hb); replace HB := sd_ (below_step (bw1_ HB.out GE159.out) hb); (try clear hb)))
      go_meet
      case rel => exact ⟨_, (t161), sm_, H', ⟨by have := HK1.out; first | omega | exact Nat.le_refl _⟩, ⟨by exact bz_ BK159.out⟩, ⟨bw1_ HB.out GE159.out⟩⟩
     replace c9 := Bool.eq_false_iff.mpr c9
     subst c9
     have H1 : (spec_l1Join.j1 k1 a1 a2 x7_1 false a0_0 l0_1 l0_2 l0_3) = some r := by rw [if_neg (show ¬ (false = true) by decide)] at H; exact H
     clear H
     have H := H1
     clear H1
     have H' := sd_ H
     clear H
     obtain ⟨hcz15_0, hcz15_1, hcz15_2, hcz15_3, hfz15_0, hfz15_1, hfz15_2, hfz15_3⟩ := bf4_ BK159.out
     go_wp2_with (first | ((with_reducible refine gate_callee (f := 90) rfl ?_); refine goesL_ (some 19) rfl rfl Try.func90 (by kernel_rfl) rfl #[.agg #[.int .i64 a0_0, .slice A0_1 l0_1.length c0_1, .slice A0_2 l0_2.length c0_2, .slice A0_3 l0_3.length c0_3], .int .i64 a1, .int .i64 x7_1] rfl la_ ?_; (with_reducible refine (spec_l1Le.calls a0_0 _ _ l0_1 _ _ l0_2 _ _ l0_3 a1 x7_1 false _ (kc_ HR0_1.out HB.out) HC0_1.out (kc_ HR0_2.out HB.out) HC0_2.out (kc_ HR0_3.out HB.out) HC0_3.out A8.out).mono ?_); rintro e w16 ⟨rfl, hb⟩; refine ⟨_, rfl, ?_⟩; replace BK159 := sd_ (bb_ BK159.out hb); replace HB := sd_ (below_step (bw1_ HB.out GE159.out) hb); (try clear hb)))
     go_meet
     case rel => exact ⟨_, (false), sm_, H', ⟨by have := HK1.out; first | omega | exact Nat.le_refl _⟩, ⟨by exact bz_ BK159.out⟩, ⟨bw1_ HB.out GE159.out⟩⟩
    case rest =>
     clear HC6
     try clear c1
     try clear p2
     try clear c5
     try clear c5b0
     try clear c12
     try clear hcz7_0
     try clear hcz7_1
     try clear hcz7_2
     try clear hcz7_3
     try clear hfz7_0
     try clear hfz7_1
     try clear hfz7_2
     try clear hfz7_3
     try clear p2
     obtain ⟨kq, x8_5, rfl, HA, HJ5, BK159, HB⟩ := hcut
     cases kq with
     | zero => exact absurd HA.out (by simp [spec_l1Join.j1])
     | succ kj5 =>
      have H := HA.out
      clear HA
      simp only [spec_l1Join.j1] at H
      have H' := sd_ H
      clear H
      go_wp2
      go_loopg [8, 9] kj5 (fun kq v8 v9 w' => ∃ (x8_3 : Bool) (x9_3 : Int), v8 = .bool x8_3 ∧ v9 = .int .i64 x9_3 ∧ Aside0 (spec_l1Join.l1 kq a1 a2 x7_1 x8_3 x9_3 a0_0 l0_1 l0_2 l0_3 = some r) ∧ Aside0 (kq ≤ kj5) ∧ Aside0 (w'.heap[gb159]? = some (.cells #[.int .i64 a0_0, (.slice A0_1 l0_1.length c0_1), (.slice A0_2 l0_2.length c0_2), (.slice A0_3 l0_3.length c0_3)] 27 (0, 0))) ∧ Aside0 (Below w.heap.size w w'))
      case atStart => exact ⟨(x8_5), (0), sm_, sm_, H', ⟨Nat.le_refl _⟩, ⟨by exact bz_ BK159.out⟩, ⟨bw1_ HB.out GE159.out⟩⟩
      case round =>
       clear H'
       try clear c1
       try clear p2
       try clear c5
       try clear c5b0
       try clear c12
       try clear hcz7_0
       try clear hcz7_1
       try clear hcz7_2
       try clear hcz7_3
       try clear hfz7_0
       try clear hfz7_1
       try clear hfz7_2
       try clear hfz7_3
       try clear p2
       obtain ⟨x8_3, x9_3, rfl, rfl, HA, HK3, BK159, HB⟩ := hrel
       cases gk with
       | zero => exact absurd HA.out (by simp [spec_l1Join.l1])
       | succ k3 =>
        have H := HA.out
        clear HA
        simp only [spec_l1Join.l1] at H
        have HC17 := sd_ H
        clear H
        go_upto_region 6 with (fail)
        go_cut [32] (fun v32 wc => ∃ (kq : Nat) (x32_16 : Bool), v32 = .bool x32_16 ∧ Aside0 (spec_l1Join.j3 kq a1 a2 x7_1 x8_3 x9_3 x32_16 a0_0 l0_1 l0_2 l0_3 = some r) ∧ Aside0 (kq ≤ k3) ∧ Aside0 (wc.heap[gb159]? = some (.cells #[.int .i64 a0_0, (.slice A0_1 l0_1.length c0_1), (.slice A0_2 l0_2.length c0_2), (.slice A0_3 l0_3.length c0_3)] 27 (0, 0))) ∧ Aside0 (Below w.heap.size w wc))
        case first =>
         have H := HC17.out
         clear HC17
         by_cases c18 : x9_3 < a0_0
         ·rw [if_pos c18] at H
          have c18b0 : decide (x9_3 < a0_0) = true := decide_eq_true c18
          clear c18
          (first | rw [c18b0] | (simp only [i64_w, i32_w]; rw [c18b0]) | skip)
          have H' := sd_ H
          clear H
          obtain ⟨hcz19_0, hcz19_1, hcz19_2, hcz19_3, hfz19_0, hfz19_1, hfz19_2, hfz19_3⟩ := bf4_ BK159.out
          go_wp2
          go_meet
          case rel => exact ⟨_, (x8_3), sm_, H', ⟨by have := HK1.out; have := HJ5.out; have := HK3.out; first | omega | exact Nat.le_refl _⟩, ⟨by exact bz_ BK159.out⟩, ⟨bw1_ HB.out GE159.out⟩⟩
         rw [if_neg c18] at H
         have c18b0 : decide (x9_3 < a0_0) = false := decide_eq_false c18
         clear c18
         (first | rw [c18b0] | (simp only [i64_w, i32_w]; rw [c18b0]) | skip)
         have H' := sd_ H
         clear H
         obtain ⟨hcz20_0, hcz20_1, hcz20_2, hcz20_3, hfz20_0, hfz20_1, hfz20_2, hfz20_3⟩ := bf4_ BK159.out
         go_wp2
         go_meet
         case rel => exact ⟨_, (false), sm_, H', ⟨by have := HK1.out; have := HJ5.out; have := HK3.out; first | omega | exact Nat.le_refl _⟩, ⟨by exact bz_ BK159.out⟩, ⟨bw1_ HB.out GE159.out⟩⟩
        case rest =>
         clear HC17
         try clear c1
         try clear p2
         try clear c5
         try clear c5b0
         try clear c12
         try clear hcz7_0
         try clear hcz7_1
         try clear hcz7_2
         try clear hcz7_3
         try clear hfz7_0
         try clear hfz7_1
         try clear hfz7_2
         try clear hfz7_3
         try clear p2
         obtain ⟨kq, x32_16, rfl, HA, HJ16, BK159, HB⟩ := hcut
         cases kq with
         | zero => exact absurd HA.out (by simp [spec_l1Join.j3])
         | succ kj16 =>
          have H := HA.out
          clear HA
          simp only [spec_l1Join.j3] at H
          by_cases c21 : x32_16 = true
          ·subst c21
           have H1 : ((spec_l1Le.f a0_0 l0_1 l0_2 l0_3 a1 x9_3).bind fun t162 => (if t162 = true then ((spec_l1Le.f a0_0 l0_1 l0_2 l0_3 a2 x9_3).bind fun t163 => (if t163 = true then ((spec_l1Le.f a0_0 l0_1 l0_2 l0_3 x7_1 x9_3).bind fun t164 => (spec_l1Join.l1 kj16 a1 a2 x7_1 t164 (wrap64 (x9_3 + 1)) a0_0 l0_1 l0_2 l0_3)) else (spec_l1Join.l1 kj16 a1 a2 x7_1 true (wrap64 (x9_3 + 1)) a0_0 l0_1 l0_2 l0_3))) else (spec_l1Join.l1 kj16 a1 a2 x7_1 true (wrap64 (x9_3 + 1)) a0_0 l0_1 l0_2 l0_3))) = some r := by rw [if_pos rfl] at H; exact H
           clear H
           have H := H1
           clear H1
           replace H := Option.bind_eq_some_iff.mp H
           obtain ⟨t162, A220, H⟩ := H
           try dsimp only at H
           have A22 := sd_ A220
           clear A220
           by_cases c23 : t162 = true
           ·subst c23
            have H1 : ((spec_l1Le.f a0_0 l0_1 l0_2 l0_3 a2 x9_3).bind fun t163 => (if t163 = true then ((spec_l1Le.f a0_0 l0_1 l0_2 l0_3 x7_1 x9_3).bind fun t164 => (spec_l1Join.l1 kj16 a1 a2 x7_1 t164 (wrap64 (x9_3 + 1)) a0_0 l0_1 l0_2 l0_3)) else (spec_l1Join.l1 kj16 a1 a2 x7_1 true (wrap64 (x9_3 + 1)) a0_0 l0_1 l0_2 l0_3))) = some r := by rw [if_pos rfl] at H; exact H
            clear H
            have H := H1
            clear H1
            replace H := Option.bind_eq_some_iff.mp H
            obtain ⟨t163, A240, H⟩ := H
            try dsimp only at H
            have A24 := sd_ A240
            clear A240
            by_cases c25 : t163 = true
            ·subst c25
             have H1 : ((spec_l1Le.f a0_0 l0_1 l0_2 l0_3 x7_1 x9_3).bind fun t164 => (spec_l1Join.l1 kj16 a1 a2 x7_1 t164 (wrap64 (x9_3 + 1)) a0_0 l0_1 l0_2 l0_3)) = some r := by rw [if_pos rfl] at H; exact H
             clear H
             have H := H1
             clear H1
             replace H := Option.bind_eq_some_iff.mp H
             obtain ⟨t164, A260, H⟩ := H
             try dsimp only at H
             have A26 := sd_ A260
             clear A260
             have H' := sd_ H
             clear H
             obtain ⟨hcz27_0, hcz27_1, hcz27_2, hcz27_3, hfz27_0, hfz27_1, hfz27_2, hfz27_3⟩ := bf4_ BK159.out
             go_wp2_with (first | ((with_reducible refine gate_callee (f := 90) rfl ?_); refine goesL_ (some 38) rfl rfl Try.func90 (by kernel_rfl) rfl #[.agg #[.int .i64 a0_0, .slice A0_1 l0_1.length c0_1, .slice A0_2 l0_2.length c0_2, .slice A0_3 l0_3.length c0_3], .int .i64 a1, .int .i64 x9_3] rfl la_ ?_; (with_reducible refine (spec_l1Le.calls a0_0 _ _ l0_1 _ _ l0_2 _ _ l0_3 a1 x9_3 true _ (kc_ HR0_1.out HB.out) HC0_1.out (kc_ HR0_2.out HB.out) HC0_2.out (kc_ HR0_3.out HB.out) HC0_3.out A22.out).mono ?_); rintro e w28 ⟨rfl, hb⟩; refine ⟨_, rfl, ?_⟩; replace BK159 := sd_ (bb_ BK159.out hb); replace HB := sd_ (below_step (bw1_ HB.out GE159.out) hb); (try clear hb); obtain ⟨hcz29_0, hcz29_1, hcz29_2, hcz29_3, hfz29_0, hfz29_1, hfz29_2, hfz29_3⟩ := bf4_ BK159.out) | (go_at_call 90; (with_reducible refine (spec_l1Le.calls a0_0 _ _ l0_1 _ _ l0_2 _ _ l0_3 a2 x9_3 true _ (kc_ HR0_1.out HB.out) HC0_1.out (kc_ HR0_2.out HB.out) HC0_2.out (kc_ HR0_3.out HB.out) HC0_3.out A24.out).mono ?_); rintro e w30 ⟨rfl, hb⟩; replace BK159 := sd_ (bb_ BK159.out hb); replace HB := sd_ (below_step (bw1_ HB.out GE159.out) hb); (try clear hb); obtain ⟨hcz31_0, hcz31_1, hcz31_2, hcz31_3, hfz31_0, hfz31_1, hfz31_2, hfz31_3⟩ := bf4_ BK159.out) | (go_at_call 90; (with_reducible refine (spec_l1Le.calls a0_0 _ _ l0_1 _ _ l0_2 _ _ l0_3 x7_1 x9_3 t164 _ (kc_ HR0_1.out HB.out) HC0_1.out (kc_ HR0_2.out HB.out) HC0_2.out (kc_ HR0_3.out HB.out) HC0_3.out A26.out).mono ?_); rintro e w32 ⟨rfl, hb⟩; replace BK159 := sd_ (bb_ BK159.out hb); replace HB := sd_ (below_step (bw1_ HB.out GE159.out) hb); (try clear hb)))
             go_roundg kj16
             case measure => have := HK1.out; have := HJ5.out; have := HK3.out; have := HJ16.out; omega
             case rel => exact ⟨(t164), (wrap64 (x9_3 + 1)), sm_, sm_, H', ⟨by have := HK1.out; have := HJ5.out; have := HK3.out; have := HJ16.out; omega⟩, ⟨by exact bz_ BK159.out⟩, ⟨bw1_ HB.out GE159.out⟩⟩
            replace c25 := Bool.eq_false_iff.mpr c25
            subst c25
            have H1 : (spec_l1Join.l1 kj16 a1 a2 x7_1 true (wrap64 (x9_3 + 1)) a0_0 l0_1 l0_2 l0_3) = some r := by rw [if_neg (show ¬ (false = true) by decide)] at H; exact H
            clear H
            have H := H1
            clear H1
            have H' := sd_ H
            clear H
            obtain ⟨hcz33_0, hcz33_1, hcz33_2, hcz33_3, hfz33_0, hfz33_1, hfz33_2, hfz33_3⟩ := bf4_ BK159.out
            go_wp2_with (first | ((with_reducible refine gate_callee (f := 90) rfl ?_); refine goesL_ (some 38) rfl rfl Try.func90 (by kernel_rfl) rfl #[.agg #[.int .i64 a0_0, .slice A0_1 l0_1.length c0_1, .slice A0_2 l0_2.length c0_2, .slice A0_3 l0_3.length c0_3], .int .i64 a1, .int .i64 x9_3] rfl la_ ?_; (with_reducible refine (spec_l1Le.calls a0_0 _ _ l0_1 _ _ l0_2 _ _ l0_3 a1 x9_3 true _ (kc_ HR0_1.out HB.out) HC0_1.out (kc_ HR0_2.out HB.out) HC0_2.out (kc_ HR0_3.out HB.out) HC0_3.out A22.out).mono ?_); rintro e w34 ⟨rfl, hb⟩; refine ⟨_, rfl, ?_⟩; replace BK159 := sd_ (bb_ BK159.out hb); replace HB := sd_ (below_step (bw1_ HB.out GE159.out) hb); (try clear hb); obtain ⟨hcz35_0, hcz35_1, hcz35_2, hcz35_3, hfz35_0, hfz35_1, hfz35_2, hfz35_3⟩ := bf4_ BK159.out) | (go_at_call 90; (with_reducible refine (spec_l1Le.calls a0_0 _ _ l0_1 _ _ l0_2 _ _ l0_3 a2 x9_3 false _ (kc_ HR0_1.out HB.out) HC0_1.out (kc_ HR0_2.out HB.out) HC0_2.out (kc_ HR0_3.out HB.out) HC0_3.out A24.out).mono ?_); rintro e w36 ⟨rfl, hb⟩; replace BK159 := sd_ (bb_ BK159.out hb); replace HB := sd_ (below_step (bw1_ HB.out GE159.out) hb); (try clear hb)))
            go_roundg kj16
            case measure => have := HK1.out; have := HJ5.out; have := HK3.out; have := HJ16.out; omega
            case rel => exact ⟨(true), (wrap64 (x9_3 + 1)), sm_, sm_, H', ⟨by have := HK1.out; have := HJ5.out; have := HK3.out; have := HJ16.out; omega⟩, ⟨by exact bz_ BK159.out⟩, ⟨bw1_ HB.out GE159.out⟩⟩
           replace c23 := Bool.eq_false_iff.mpr c23
           subst c23
           have H1 : (spec_l1Join.l1 kj16 a1 a2 x7_1 true (wrap64 (x9_3 + 1)) a0_0 l0_1 l0_2 l0_3) = some r := by rw [if_neg (show ¬ (false = true) by decide)] at H; exact H
           clear H
           have H := H1
           clear H1
           have H' := sd_ H
           clear H
           obtain ⟨hcz37_0, hcz37_1, hcz37_2, hcz37_3, hfz37_0, hfz37_1, hfz37_2, hfz37_3⟩ := bf4_ BK159.out
           go_wp2_with (first | ((with_reducible refine gate_callee (f := 90) rfl ?_); refine goesL_ (some 38) rfl rfl Try.func90 (by kernel_rfl) rfl #[.agg #[.int .i64 a0_0, .slice A0_1 l0_1.length c0_1, .slice A0_2 l0_2.length c0_2, .slice A0_3 l0_3.length c0_3], .int .i64 a1, .int .i64 x9_3] rfl la_ ?_; (with_reducible refine (spec_l1Le.calls a0_0 _ _ l0_1 _ _ l0_2 _ _ l0_3 a1 x9_3 false _ (kc_ HR0_1.out HB.out) HC0_1.out (kc_ HR0_2.out HB.out) HC0_2.out (kc_ HR0_3.out HB.out) HC0_3.out A22.out).mono ?_); rintro e w38 ⟨rfl, hb⟩; refine ⟨_, rfl, ?_⟩; replace BK159 := sd_ (bb_ BK159.out hb); replace HB := sd_ (below_step (bw1_ HB.out GE159.out) hb); (try clear hb)))
           go_roundg kj16
           case measure => have := HK1.out; have := HJ5.out; have := HK3.out; have := HJ16.out; omega
           case rel => exact ⟨(true), (wrap64 (x9_3 + 1)), sm_, sm_, H', ⟨by have := HK1.out; have := HJ5.out; have := HK3.out; have := HJ16.out; omega⟩, ⟨by exact bz_ BK159.out⟩, ⟨bw1_ HB.out GE159.out⟩⟩
          replace c21 := Bool.eq_false_iff.mpr c21
          subst c21
          have H1 : (if x8_3 = true then (some x7_1) else (spec_l1Join.l0 kj16 a1 a2 (wrap64 (x7_1 + 1)) a0_0 l0_1 l0_2 l0_3)) = some r := by rw [if_neg (show ¬ (false = true) by decide)] at H; exact H
          clear H
          have H := H1
          clear H1
          by_cases c39 : x8_3 = true
          ·subst c39
           have H1 : (some x7_1) = some r := by rw [if_pos rfl] at H; exact H
           clear H
           have H := H1
           clear H1
           obtain rfl := Option.some.inj H
           go_wp2
           go_ret
           exact ⟨an_, bw1_ HB.out GE159.out⟩
          replace c39 := Bool.eq_false_iff.mpr c39
          subst c39
          have H1 : (spec_l1Join.l0 kj16 a1 a2 (wrap64 (x7_1 + 1)) a0_0 l0_1 l0_2 l0_3) = some r := by rw [if_neg (show ¬ (false = true) by decide)] at H; exact H
          clear H
          have H := H1
          clear H1
          have H' := sd_ H
          clear H
          go_wp2
          go_roundg kj16
          case measure => have := HK1.out; have := HJ5.out; have := HK3.out; have := HJ16.out; omega
          case rel => exact ⟨(wrap64 (x7_1 + 1)), sm_, H', ⟨by have := HK1.out; have := HJ5.out; have := HK3.out; have := HJ16.out; omega⟩, ⟨by exact bz_ BK159.out⟩, ⟨bw1_ HB.out GE159.out⟩⟩
   rw [if_neg c5] at H
   have c5b0 : decide (x7_1 < a0_0) = false := decide_eq_false c5
   clear c5
   obtain rfl := Option.some.inj H
   obtain ⟨hcz40_0, hcz40_1, hcz40_2, hcz40_3, hfz40_0, hfz40_1, hfz40_2, hfz40_3⟩ := bf4_ BK159.out
   go_wp2
   go_ret
   exact ⟨an_, bw1_ HB.out GE159.out⟩


/-! ### spec_l1Two: function 103 -/
def spec_l1Two.f (k : Nat) (a0_0 : Int) (l0_1 : List Int) (l0_2 : List Int) (l0_3 : List Bool) (a1 : Int) (a2 : Int) : Option (Bool) := (spec_l1Add.f a0_0 l0_1 l0_2 l0_3 a1 a2).bind fun t166 => ((spec_l1Add.f a0_0 l0_1 l0_2 l0_3 a2 a1).bind fun t167 => (if t166 = t167 then (if a1 = a2 then ((spec_l1Join.f k a0_0 l0_1 l0_2 l0_3 a1 a2).bind fun t168 => (some (decide (t168 ≥ 0)))) else ((spec_l1Le.f a0_0 l0_1 l0_2 l0_3 a1 a2).bind fun t169 => (if t169 = true then ((spec_l1Le.f a0_0 l0_1 l0_2 l0_3 a2 a1).bind fun t170 => (if t170 = true then (some false) else ((spec_l1Join.f k a0_0 l0_1 l0_2 l0_3 a1 a2).bind fun t171 => (some (decide (t171 ≥ 0)))))) else ((spec_l1Join.f k a0_0 l0_1 l0_2 l0_3 a1 a2).bind fun t172 => (some (decide (t172 ≥ 0))))))) else (some false)))
set_option maxHeartbeats 8000000 in
set_option maxRecDepth 100000 in
theorem spec_l1Two.calls (k : Nat) (a0_0 : Int) (A0_1 : Option Addr) (c0_1 : Nat) (l0_1 : List Int) (A0_2 : Option Addr) (c0_2 : Nat) (l0_2 : List Int) (A0_3 : Option Addr) (c0_3 : Nat) (l0_3 : List Bool) (a1 : Int) (a2 : Int) (r : Bool) (w : World) (hr0_1 : Kd.C (Kd.int .i64) w A0_1 l0_1.length l0_1) (hc0_1 : l0_1.length ≤ c0_1) (hr0_2 : Kd.C (Kd.int .i64) w A0_2 l0_2.length l0_2) (hc0_2 : l0_2.length ≤ c0_2) (hr0_3 : Kd.C Kd.bool w A0_3 l0_3.length l0_3) (hc0_3 : l0_3.length ≤ c0_3) (h : spec_l1Two.f k a0_0 l0_1 l0_2 l0_3 a1 a2 = some r) :
  Calls Try.prog 103 #[.agg #[.int .i64 a0_0, .slice A0_1 l0_1.length c0_1, .slice A0_2 l0_2.length c0_2, .slice A0_3 l0_3.length c0_3], .int .i64 a1, .int .i64 a2] w fun e w' => e = .returned (.bool r) ∧ Below w.heap.size w w' := by
 have hu27 := Try.underlying27
 have HR0_1 := sd_ hr0_1
 have HC0_1 := sd_ hc0_1
 clear hr0_1 hc0_1
 have HR0_2 := sd_ hr0_2
 have HC0_2 := sd_ hc0_2
 clear hr0_2 hc0_2
 have HR0_3 := sd_ hr0_3
 have HC0_3 := sd_ hc0_3
 clear hr0_3 hc0_3
 have HB := sd_ (Below.refl w.heap.size w)
 have H : ((spec_l1Add.f a0_0 l0_1 l0_2 l0_3 a1 a2).bind fun t166 => ((spec_l1Add.f a0_0 l0_1 l0_2 l0_3 a2 a1).bind fun t167 => (if t166 = t167 then (if a1 = a2 then ((spec_l1Join.f k a0_0 l0_1 l0_2 l0_3 a1 a2).bind fun t168 => (some (decide (t168 ≥ 0)))) else ((spec_l1Le.f a0_0 l0_1 l0_2 l0_3 a1 a2).bind fun t169 => (if t169 = true then ((spec_l1Le.f a0_0 l0_1 l0_2 l0_3 a2 a1).bind fun t170 => (if t170 = true then (some false) else ((spec_l1Join.f k a0_0 l0_1 l0_2 l0_3 a1 a2).bind fun t171 => (some (decide (t171 ≥ 0)))))) else ((spec_l1Join.f k a0_0 l0_1 l0_2 l0_3 a1 a2).bind fun t172 => (some (decide (t172 ≥ 0))))))) else (some false)))) = some r := h
 clear h
 replace H := Option.bind_eq_some_iff.mp H
 obtain ⟨t166, A40, H⟩ := H
 try dsimp only at H
 have A4 := sd_ A40
 clear A40
 replace H := Option.bind_eq_some_iff.mp H
 obtain ⟨t167, A50, H⟩ := H
 try dsimp only at H
 have A5 := sd_ A50
 clear A50
 by_cases c6 : t166 = t167
 ·rw [if_pos c6] at H
  have c6b0 : (t166 == t167) = true := beq_iff_eq.mpr c6
  have c6b1 : (t166 != t167) = false := bne_eq_false_iff_eq.mpr c6
  clear c6
  by_cases c7 : a1 = a2
  ·rw [if_pos c7] at H
   have c7b0 : (a1 == a2) = true := beq_iff_eq.mpr c7
   have c7b1 : (a1 != a2) = false := bne_eq_false_iff_eq.mpr c7
   clear c7
   replace H := Option.bind_eq_some_iff.mp H
   obtain ⟨t168, A80, H⟩ := H
   try dsimp only at H
   have A8 := sd_ A80
   clear A80
   obtain rfl := Option.some.inj H
   go_enter Try.func103, Try.ntmps103
   try go_wp2_with (first | ((with_reducible refine gate_dst (N := 3) rfl ?_); refine bx_ (N := 3) (cs := #[.int .i64 a0_0, .slice A0_1 l0_1.length c0_1, .slice A0_2 l0_2.length c0_2, .slice A0_3 l0_3.length c0_3]) (t := 27) ?_; intro gb165 hg w9 hbox hb; have BK165 := sd_ (hbox); have GW165 := sd_ (gs_ hg (bw0_ HB.out)); have GE165 := sd_ (gs_ hg (bw0_ HB.out)); replace HB := sd_ (below_step (bw0_ HB.out) hb); clear hb hbox hg))
   refine qb_region (by kernel_rfl) (by kernel_rfl) ?_
   have HQ := fun (wq : World) (hq : Below w9.heap.size w9 wq) => below_step HB.out hq
   repeat ((first | (apply qb_skip; (focus rfl)) | (refine qb_callN 10 rfl ?_; apply qb_call 10 rfl Try.func88 (by kernel_rfl) rfl rfl; (focus rfl); (focus (exact fun wq9 hb9 => qb_b hb9 (spec_l1Add.calls a0_0 _ _ l0_1 _ _ l0_2 _ _ l0_3 a1 a2 t166 _ (Kd.C_below HR0_1.out (HQ _ hb9)) HC0_1.out (Kd.C_below HR0_2.out (HQ _ hb9)) HC0_2.out (Kd.C_below HR0_3.out (HQ _ hb9)) HC0_3.out A4.out))); (focus (rfl))) | (refine qb_callN 14 rfl ?_; apply qb_call 14 rfl Try.func88 (by kernel_rfl) rfl rfl; (focus rfl); (focus (exact fun wq9 hb9 => qb_b hb9 (spec_l1Add.calls a0_0 _ _ l0_1 _ _ l0_2 _ _ l0_3 a2 a1 t167 _ (Kd.C_below HR0_1.out (HQ _ hb9)) HC0_1.out (Kd.C_below HR0_2.out (HQ _ hb9)) HC0_2.out (Kd.C_below HR0_3.out (HQ _ hb9)) HC0_3.out A5.out))); (focus (rfl))) | (refine qb_callN 39 rfl ?_; apply qb_call 39 rfl Try.func125 (by kernel_rfl) rfl rfl; (focus rfl); (focus (exact fun wq9 hb9 => qb_b hb9 (spec_l1Join.calls k a0_0 _ _ l0_1 _ _ l0_2 _ _ l0_3 a1 a2 t168 _ (Kd.C_below HR0_1.out (HQ _ hb9)) HC0_1.out (Kd.C_below HR0_2.out (HQ _ hb9)) HC0_2.out (Kd.C_below HR0_3.out (HQ _ hb9)) HC0_3.out A8.out))); (focus (rfl))) | (apply qb_val; (focus rfl); (focus (intro wq9 _; go_simp; with_reducible rfl))) | (apply qb_val; (focus rfl); (focus (intro wq9 hb9_; have hb9 : Below w9.heap.size w9 wq9 := hb9_; have BK165 := sd_ (blk_below BK165.out hb9); have hc9_165_0 : wq9.cell? ⟨gb165, 0, none⟩ = some (.int .i64 a0_0) := (blk_cell BK165.out 0).trans rfl; have hc9_165_1 : wq9.cell? ⟨gb165, 1, none⟩ = some (.slice A0_1 l0_1.length c0_1) := (blk_cell BK165.out 1).trans rfl; have hc9_165_2 : wq9.cell? ⟨gb165, 2, none⟩ = some (.slice A0_2 l0_2.length c0_2) := (blk_cell BK165.out 2).trans rfl; have hc9_165_3 : wq9.cell? ⟨gb165, 3, none⟩ = some (.slice A0_3 l0_3.length c0_3) := (blk_cell BK165.out 3).trans rfl; go_simp; with_reducible rfl)))); (focus (simp only [Act.put, List.setIfInBounds_toArray, List.set_cons_zero, List.set_cons_succ, i64_w, i32_w]; rfl)))
   refine qb_nil ?_
   intro w13 hb
   replace BK165 := sd_ (blk_below BK165.out hb)
   replace HB := sd_ (below_step HB.out hb)
   clear hb
   (try clear HQ)
   try go_wp2
   go_ret
   exact ⟨an_, bw1_ HB.out GE165.out⟩
  rw [if_neg c7] at H
  have c7b0 : (a1 == a2) = false := beq_eq_false_iff_ne.mpr c7
  have c7b1 : (a1 != a2) = true := bne_iff_ne.mpr c7
  replace H := Option.bind_eq_some_iff.mp H
  obtain ⟨t169, A140, H⟩ := H
  try dsimp only at H
  have A14 := sd_ A140
  clear A140
  by_cases c15 : t169 = true
  ·subst c15
   have H1 : ((spec_l1Le.f a0_0 l0_1 l0_2 l0_3 a2 a1).bind fun t170 => (if t170 = true then (some false) else ((spec_l1Join.f k a0_0 l0_1 l0_2 l0_3 a1 a2).bind fun t171 => (some (decide (t171 ≥ 0)))))) = some r := by rw [if_pos rfl] at H; exact H
   clear H
   have H := H1
   clear H1
   replace H := Option.bind_eq_some_iff.mp H
   obtain ⟨t170, A160, H⟩ := H
   try dsimp only at H
   have A16 := sd_ A160
   clear A160
   by_cases c17 : t170 = true
   ·subst c17
    have H1 : (some false) = some r := by rw [if_pos rfl] at H; exact H
    clear H
    have H := H1
    clear H1
    obtain rfl := Option.some.inj H
    go_enter Try.func103, Try.ntmps103
    try go_wp2_with (first | ((with_reducible refine gate_dst (N := 3) rfl ?_); refine bx_ (N := 3) (cs := #[.int .i64 a0_0, .slice A0_1 l0_1.length c0_1, .slice A0_2 l0_2.length c0_2, .slice A0_3 l0_3.length c0_3]) (t := 27) ?_; intro gb165 hg w18 hbox hb; have BK165 := sd_ (hbox); have GW165 := sd_ (gs_ hg (bw0_ HB.out)); have GE165 := sd_ (gs_ hg (bw0_ HB.out)); replace HB := sd_ (below_step (bw0_ HB.out) hb); clear hb hbox hg))
    refine qb_region (by kernel_rfl) (by kernel_rfl) ?_
    have HQ := fun (wq : World) (hq : Below w18.heap.size w18 wq) => below_step HB.out hq
    repeat ((first | (apply qb_skip; (focus rfl)) | (refine qb_callN 10 rfl ?_; apply qb_call 10 rfl Try.func88 (by kernel_rfl) rfl rfl; (focus rfl); (focus (exact fun wq9 hb9 => qb_b hb9 (spec_l1Add.calls a0_0 _ _ l0_1 _ _ l0_2 _ _ l0_3 a1 a2 t166 _ (Kd.C_below HR0_1.out (HQ _ hb9)) HC0_1.out (Kd.C_below HR0_2.out (HQ _ hb9)) HC0_2.out (Kd.C_below HR0_3.out (HQ _ hb9)) HC0_3.out A4.out))); (focus (rfl))) | (refine qb_callN 14 rfl ?_; apply qb_call 14 rfl Try.func88 (by kernel_rfl) rfl rfl; (focus rfl); (focus (exact fun wq9 hb9 => qb_b hb9 (spec_l1Add.calls a0_0 _ _ l0_1 _ _ l0_2 _ _ l0_3 a2 a1 t167 _ (Kd.C_below HR0_1.out (HQ _ hb9)) HC0_1.out (Kd.C_below HR0_2.out (HQ _ hb9)) HC0_2.out (Kd.C_below HR0_3.out (HQ _ hb9)) HC0_3.out A5.out))); (focus (rfl))) | (refine qb_callN 24 rfl ?_; apply qb_call 24 rfl Try.func90 (by kernel_rfl) rfl rfl; (focus rfl); (focus (exact fun wq9 hb9 => qb_b hb9 (spec_l1Le.calls a0_0 _ _ l0_1 _ _ l0_2 _ _ l0_3 a1 a2 true _ (Kd.C_below HR0_1.out (HQ _ hb9)) HC0_1.out (Kd.C_below HR0_2.out (HQ _ hb9)) HC0_2.out (Kd.C_below HR0_3.out (HQ _ hb9)) HC0_3.out A14.out))); (focus (rfl))) | (refine qb_callN 31 rfl ?_; apply qb_call 31 rfl Try.func90 (by kernel_rfl) rfl rfl; (focus rfl); (focus (exact fun wq9 hb9 => qb_b hb9 (spec_l1Le.calls a0_0 _ _ l0_1 _ _ l0_2 _ _ l0_3 a2 a1 true _ (Kd.C_below HR0_1.out (HQ _ hb9)) HC0_1.out (Kd.C_below HR0_2.out (HQ _ hb9)) HC0_2.out (Kd.C_below HR0_3.out (HQ _ hb9)) HC0_3.out A16.out))); (focus (rfl))) | (apply qb_val; (focus rfl); (focus (intro wq9 _; go_simp; with_reducible rfl))) | (apply qb_val; (focus rfl); (focus (intro wq9 hb9_; have hb9 : Below w18.heap.size w18 wq9 := hb9_; have BK165 := sd_ (blk_below BK165.out hb9); have hc9_165_0 : wq9.cell? ⟨gb165, 0, none⟩ = some (.int .i64 a0_0) := (blk_cell BK165.out 0).trans rfl; have hc9_165_1 : wq9.cell? ⟨gb165, 1, none⟩ = some (.slice A0_1 l0_1.length c0_1) := (blk_cell BK165.out 1).trans rfl; have hc9_165_2 : wq9.cell? ⟨gb165, 2, none⟩ = some (.slice A0_2 l0_2.length c0_2) := (blk_cell BK165.out 2).trans rfl; have hc9_165_3 : wq9.cell? ⟨gb165, 3, none⟩ = some (.slice A0_3 l0_3.length c0_3) := (blk_cell BK165.out 3).trans rfl; go_simp; with_reducible rfl)))); (focus (simp only [Act.put, List.setIfInBounds_toArray, List.set_cons_zero, List.set_cons_succ, i64_w, i32_w]; rfl)))
    refine qb_nil ?_
    intro w23 hb
    replace BK165 := sd_ (blk_below BK165.out hb)
    replace HB := sd_ (below_step HB.out hb)
    clear hb
    (try clear HQ)
    try go_wp2
    go_ret
    exact ⟨an_, bw1_ HB.out GE165.out⟩
   replace c17 := Bool.eq_false_iff.mpr c17
   subst c17
   have H1 : ((spec_l1Join.f k a0_0 l0_1 l0_2 l0_3 a1 a2).bind fun t171 => (some (decide (t171 ≥ 0)))) = some r := by rw [if_neg (show ¬ (false = true) by decide)] at H; exact H
   clear H
   have H := H1
   clear H1
   replace H := Option.bind_eq_some_iff.mp H
   obtain ⟨t171, A240, H⟩ := H
   try dsimp only at H
   have A24 := sd_ A240
   clear A240
   obtain rfl := Option.some.inj H
   go_enter Try.func103, Try.ntmps103
   try go_wp2_with (first | ((with_reducible refine gate_dst (N := 3) rfl ?_); refine bx_ (N := 3) (cs := #[.int .i64 a0_0, .slice A0_1 l0_1.length c0_1, .slice A0_2 l0_2.length c0_2, .slice A0_3 l0_3.length c0_3]) (t := 27) ?_; intro gb165 hg w25 hbox hb; have BK165 := sd_ (hbox); have GW165 := sd_ (gs_ hg (bw0_ HB.out)); have GE165 := sd_ (gs_ hg (bw0_ HB.out)); replace HB := sd_ (below_step (bw0_ HB.out) hb); clear hb hbox hg))
   refine qb_region (by kernel_rfl) (by kernel_rfl) ?_
   have HQ := fun (wq : World) (hq : Below w25.heap.size w25 wq) => below_step HB.out hq
   repeat ((first | (apply qb_skip; (focus rfl)) | (refine qb_callN 10 rfl ?_; apply qb_call 10 rfl Try.func88 (by kernel_rfl) rfl rfl; (focus rfl); (focus (exact fun wq9 hb9 => qb_b hb9 (spec_l1Add.calls a0_0 _ _ l0_1 _ _ l0_2 _ _ l0_3 a1 a2 t166 _ (Kd.C_below HR0_1.out (HQ _ hb9)) HC0_1.out (Kd.C_below HR0_2.out (HQ _ hb9)) HC0_2.out (Kd.C_below HR0_3.out (HQ _ hb9)) HC0_3.out A4.out))); (focus (rfl))) | (refine qb_callN 14 rfl ?_; apply qb_call 14 rfl Try.func88 (by kernel_rfl) rfl rfl; (focus rfl); (focus (exact fun wq9 hb9 => qb_b hb9 (spec_l1Add.calls a0_0 _ _ l0_1 _ _ l0_2 _ _ l0_3 a2 a1 t167 _ (Kd.C_below HR0_1.out (HQ _ hb9)) HC0_1.out (Kd.C_below HR0_2.out (HQ _ hb9)) HC0_2.out (Kd.C_below HR0_3.out (HQ _ hb9)) HC0_3.out A5.out))); (focus (rfl))) | (refine qb_callN 24 rfl ?_; apply qb_call 24 rfl Try.func90 (by kernel_rfl) rfl rfl; (focus rfl); (focus (exact fun wq9 hb9 => qb_b hb9 (spec_l1Le.calls a0_0 _ _ l0_1 _ _ l0_2 _ _ l0_3 a1 a2 true _ (Kd.C_below HR0_1.out (HQ _ hb9)) HC0_1.out (Kd.C_below HR0_2.out (HQ _ hb9)) HC0_2.out (Kd.C_below HR0_3.out (HQ _ hb9)) HC0_3.out A14.out))); (focus (rfl))) | (refine qb_callN 31 rfl ?_; apply qb_call 31 rfl Try.func90 (by kernel_rfl) rfl rfl; (focus rfl); (focus (exact fun wq9 hb9 => qb_b hb9 (spec_l1Le.calls a0_0 _ _ l0_1 _ _ l0_2 _ _ l0_3 a2 a1 false _ (Kd.C_below HR0_1.out (HQ _ hb9)) HC0_1.out (Kd.C_below HR0_2.out (HQ _ hb9)) HC0_2.out (Kd.C_below HR0_3.out (HQ _ hb9)) HC0_3.out A16.out))); (focus (rfl))) | (refine qb_callN 39 rfl ?_; apply qb_call 39 rfl Try.func125 (by kernel_rfl) rfl rfl; (focus rfl); (focus (exact fun wq9 hb9 => qb_b hb9 (spec_l1Join.calls k a0_0 _ _ l0_1 _ _ l0_2 _ _ l0_3 a1 a2 t171 _ (Kd.C_below HR0_1.out (HQ _ hb9)) HC0_1.out (Kd.C_below HR0_2.out (HQ _ hb9)) HC0_2.out (Kd.C_below HR0_3.out (HQ _ hb9)) HC0_3.out A24.out))); (focus (rfl))) | (apply qb_val; (focus rfl); (focus (intro wq9 _; go_simp; with_reducible rfl))) | (apply qb_val; (focus rfl); (focus (intro wq9 hb9_; have hb9 : Below w25.heap.size w25 wq9 := hb9_; have BK165 := sd_ (blk_below BK165.out hb9); have hc9_165_0 : wq9.cell? ⟨gb165, 0, none⟩ = some (.int .i64 a0_0) := (blk_cell BK165.out 0).trans rfl; have hc9_165_1 : wq9.cell? ⟨gb165, 1, none⟩ = some (.slice A0_1 l0_1.length c0_1) := (blk_cell BK165.out 1).trans rfl; have hc9_165_2 : wq9.cell? ⟨gb165, 2, none⟩ = some (.slice A0_2 l0_2.length c0_2) := (blk_cell BK165.out 2).trans rfl; have hc9_165_3 : wq9.cell? ⟨gb165, 3, none⟩ = some (.slice A0_3 l0_3.length c0_3) := (blk_cell BK165.out 3).trans rfl; go_simp; with_reducible rfl)))); (focus (simp only [Act.put, List.setIfInBounds_toArray, List.set_cons_zero, List.set_cons_succ, i64_w, i32_w]; rfl)))
   refine qb_nil ?_
   intro w31 hb
   replace BK165 := sd_ (blk_below BK165.out hb)
   replace HB := sd_ (below_step HB.out hb)
   clear hb
   (try clear HQ)
   try go_wp2
   go_ret
   exact ⟨an_, bw1_ HB.out GE165.out⟩
  replace c15 := Bool.eq_false_iff.mpr c15
  subst c15
  have H1 : ((spec_l1Join.f k a0_0 l0_1 l0_2 l0_3 a1 a2).bind fun t172 => (some (decide (t172 ≥ 0)))) = some r := by rw [if_neg (show ¬ (false = true) by decide)] at H; exact H
  clear H
  have H := H1
  clear H1
  replace H := Option.bind_eq_some_iff.mp H
  obtain ⟨t172, A320, H⟩ := H
  try dsimp only at H
  have A32 := sd_ A320
  clear A320
  obtain rfl := Option.some.inj H
  go_enter Try.func103, Try.ntmps103
  try go_wp2_with (first | ((with_reducible refine gate_dst (N := 3) rfl ?_); refine bx_ (N := 3) (cs := #[.int .i64 a0_0, .slice A0_1 l0_1.length c0_1, .slice A0_2 l0_2.length c0_2, .slice A0_3 l0_3.length c0_3]) (t := 27) ?_; intro gb165 hg w33 hbox hb; have BK165 := sd_ (hbox); have GW165 := sd_ (gs_ hg (bw0_ HB.out)); have GE165 := sd_ (gs_ hg (bw0_ HB.out)); replace HB := sd_ (below_step (bw0_ HB.out) hb); clear hb hbox hg))
  refine qb_region (by kernel_rfl) (by kernel_rfl) ?_
  have HQ := fun (wq : World) (hq : Below w33.heap.size w33 wq) => below_step HB.out hq
  repeat ((first | (apply qb_skip; (focus rfl)) | (refine qb_callN 10 rfl ?_; apply qb_call 10 rfl Try.func88 (by kernel_rfl) rfl rfl; (focus rfl); (focus (exact fun wq9 hb9 => qb_b hb9 (spec_l1Add.calls a0_0 _ _ l0_1 _ _ l0_2 _ _ l0_3 a1 a2 t166 _ (Kd.C_below HR0_1.out (HQ _ hb9)) HC0_1.out (Kd.C_below HR0_2.out (HQ _ hb9)) HC0_2.out (Kd.C_below HR0_3.out (HQ _ hb9)) HC0_3.out A4.out))); (focus (rfl))) | (refine qb_callN 14 rfl ?_; apply qb_call 14 rfl Try.func88 (by kernel_rfl) rfl rfl; (focus rfl); (focus (exact fun wq9 hb9 => qb_b hb9 (spec_l1Add.calls a0_0 _ _ l0_1 _ _ l0_2 _ _ l0_3 a2 a1 t167 _ (Kd.C_below HR0_1.out (HQ _ hb9)) HC0_1.out (Kd.C_below HR0_2.out (HQ _ hb9)) HC0_2.out (Kd.C_below HR0_3.out (HQ _ hb9)) HC0_3.out A5.out))); (focus (rfl))) | (refine qb_callN 24 rfl ?_; apply qb_call 24 rfl Try.func90 (by kernel_rfl) rfl rfl; (focus rfl); (focus (exact fun wq9 hb9 => qb_b hb9 (spec_l1Le.calls a0_0 _ _ l0_1 _ _ l0_2 _ _ l0_3 a1 a2 false _ (Kd.C_below HR0_1.out (HQ _ hb9)) HC0_1.out (Kd.C_below HR0_2.out (HQ _ hb9)) HC0_2.out (Kd.C_below HR0_3.out (HQ _ hb9)) HC0_3.out A14.out))); (focus (rfl))) | (refine qb_callN 39 rfl ?_; apply qb_call 39 rfl Try.func125 (by kernel_rfl) rfl rfl; (focus rfl); (focus (exact fun wq9 hb9 => qb_b hb9 (spec_l1Join.calls k a0_0 _ _ l0_1 _ _ l0_2 _ _ l0_3 a1 a2 t172 _ (Kd.C_below HR0_1.out (HQ _ hb9)) HC0_1.out (Kd.C_below HR0_2.out (HQ _ hb9)) HC0_2.out (Kd.C_below HR0_3.out (HQ _ hb9)) HC0_3.out A32.out))); (focus (rfl))) | (apply qb_val; (focus rfl); (focus (intro wq9 _; go_simp; with_reducible rfl))) | (apply qb_val; (focus rfl); (focus (intro wq9 hb9_; have hb9 : Below w33.heap.size w33 wq9 := hb9_; have BK165 := sd_ (blk_below BK165.out hb9); have hc9_165_0 : wq9.cell? ⟨gb165, 0, none⟩ = some (.int .i64 a0_0) := (blk_cell BK165.out 0).trans rfl; have hc9_165_1 : wq9.cell? ⟨gb165, 1, none⟩ = some (.slice A0_1 l0_1.length c0_1) := (blk_cell BK165.out 1).trans rfl; have hc9_165_2 : wq9.cell? ⟨gb165, 2, none⟩ = some (.slice A0_2 l0_2.length c0_2) := (blk_cell BK165.out 2).trans rfl; have hc9_165_3 : wq9.cell? ⟨gb165, 3, none⟩ = some (.slice A0_3 l0_3.length c0_3) := (blk_cell BK165.out 3).trans rfl; go_simp; with_reducible rfl)))); (focus (simp only [Act.put, List.setIfInBounds_toArray, List.set_cons_zero, List.set_cons_succ, i64_w, i32_w]; rfl)))
  refine qb_nil ?_
  intro w38 hb
  replace BK165 := sd_ (blk_below BK165.out hb)
  replace HB := sd_ (below_step HB.out hb)
  clear hb
  (try clear HQ)
  try go_wp2
  go_ret
  exact ⟨an_, bw1_ HB.out GE165.out⟩
 rw [if_neg c6] at H
 have c6b0 : (t166 == t167) = false := beq_eq_false_iff_ne.mpr c6
 have c6b1 : (t166 != t167) = true := bne_iff_ne.mpr c6
 obtain rfl := Option.some.inj H
 go_enter Try.func103, Try.ntmps103
 try go_wp2_with (first | ((with_reducible refine gate_dst (N := 3) rfl ?_); refine bx_ (N := 3) (cs := #[.int .i64 a0_0, .slice A0_1 l0_1.length c0_1, .slice A0_2 l0_2.length c0_2, .slice A0_3 l0_3.length c0_3]) (t := 27) ?_; intro gb165 hg w39 hbox hb; have BK165 := sd_ (hbox); have GW165 := sd_ (gs_ hg (bw0_ HB.out)); have GE165 := sd_ (gs_ hg (bw0_ HB.out)); replace HB := sd_ (below_step (bw0_ HB.out) hb); clear hb hbox hg))
 refine qb_region (by kernel_rfl) (by kernel_rfl) ?_
 have HQ := fun (wq : World) (hq : Below w39.heap.size w39 wq) => below_step HB.out hq
 repeat ((first | (apply qb_skip; (focus rfl)) | (refine qb_callN 10 rfl ?_; apply qb_call 10 rfl Try.func88 (by kernel_rfl) rfl rfl; (focus rfl); (focus (exact fun wq9 hb9 => qb_b hb9 (spec_l1Add.calls a0_0 _ _ l0_1 _ _ l0_2 _ _ l0_3 a1 a2 t166 _ (Kd.C_below HR0_1.out (HQ _ hb9)) HC0_1.out (Kd.C_below HR0_2.out (HQ _ hb9)) HC0_2.out (Kd.C_below HR0_3.out (HQ _ hb9)) HC0_3.out A4.out))); (focus (rfl))) | (refine qb_callN 14 rfl ?_; apply qb_call 14 rfl Try.func88 (by kernel_rfl) rfl rfl; (focus rfl); (focus (exact fun wq9 hb9 => qb_b hb9 (spec_l1Add.calls a0_0 _ _ l0_1 _ _ l0_2 _ _ l0_3 a2 a1 t167 _ (Kd.C_below HR0_1.out (HQ _ hb9)) HC0_1.out (Kd.C_below HR0_2.out (HQ _ hb9)) HC0_2.out (Kd.C_below HR0_3.out (HQ _ hb9)) HC0_3.out A5.out))); (focus (rfl))) | (apply qb_val; (focus rfl); (focus (intro wq9 _; go_simp; with_reducible rfl))) | (apply qb_val; (focus rfl); (focus (intro wq9 hb9_; have hb9 : Below w39.heap.size w39 wq9 := hb9_; have BK165 := sd_ (blk_below BK165.out hb9); have hc9_165_0 : wq9.cell? ⟨gb165, 0, none⟩ = some (.int .i64 a0_0) := (blk_cell BK165.out 0).trans rfl; have hc9_165_1 : wq9.cell? ⟨gb165, 1, none⟩ = some (.slice A0_1 l0_1.length c0_1) := (blk_cell BK165.out 1).trans rfl; have hc9_165_2 : wq9.cell? ⟨gb165, 2, none⟩ = some (.slice A0_2 l0_2.length c0_2) := (blk_cell BK165.out 2).trans rfl; have hc9_165_3 : wq9.cell? ⟨gb165, 3, none⟩ = some (.slice A0_3 l0_3.length c0_3) := (blk_cell BK165.out 3).trans rfl; go_simp; with_reducible rfl)))); (focus (simp only [Act.put, List.setIfInBounds_toArray, List.set_cons_zero, List.set_cons_succ, i64_w, i32_w]; rfl)))
 refine qb_nil ?_
 intro w42 hb
 replace BK165 := sd_ (blk_below BK165.out hb)
 replace HB := sd_ (below_step HB.out hb)
 clear hb
 (try clear HQ)
 try go_wp2
 go_ret
 exact ⟨an_, bw1_ HB.out GE165.out⟩

end Go.Proofs.Ytcdmnofomoadlaa.P
end
