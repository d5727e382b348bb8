-- Several texts in one (wip/tools/merge.py).
import Derived.Test.YtjjkagnbdfofbaaM2
import Derived.Test.YtjjkagnbdfofbaaM6
section
namespace Go.Proofs.Ytjjkagnbdfofbaa.P
open Go.RowKit Go.Proofs.YtjjkagnbdfofbaaW.PrintWords Go.Proofs.YtjjkagnbdfofbaaW.PrintLast Go.Proofs.YtjjkagnbdfofbaaW.PrintMore
attribute [local go_sem] max2_int min2_int max_two min_two
set_option linter.unusedVariables false
set_option linter.unusedSimpArgs false

mutual
def spec_l1Join.l0 : Nat → Int → Int → Int → Int → List Int → List Int → List Bool → Option (Int)
 | 0, _, _, _, _, _, _, _ => none
 | k + 1, x1, x2, x7, J1, J2, J3, J4 => if x7 < J1 then ((spec_l1Le.f J1 J2 J3 J4 x1 x7).bind fun K0 => (if K0 = true then ((spec_l1Le.f J1 J2 J3 J4 x2 x7).bind fun J8 => (spec_l1Join.j1 k x1 x2 x7 J8 J1 J2 J3 J4)) else (spec_l1Join.j1 k x1 x2 x7 false J1 J2 J3 J4))) else (some (-1))
def spec_l1Join.j1 : Nat → Int → Int → Int → Bool → Int → List Int → List Int → List Bool → Option (Int)
 | 0, _, _, _, _, _, _, _, _ => none
 | k + 1, x1, x2, x7, x8, J1, J2, J3, J4 => spec_l1Join.l1 k x1 x2 x7 x8 0 J1 J2 J3 J4
def spec_l1Join.l1 : Nat → Int → Int → Int → Bool → Int → Int → List Int → List Int → List Bool → Option (Int)
 | 0, _, _, _, _, _, _, _, _, _ => none
 | k + 1, x1, x2, x7, x8, x9, J1, J2, J3, J4 => if x9 < J1 then (spec_l1Join.j3 k x1 x2 x7 x8 x9 x8 J1 J2 J3 J4) else (spec_l1Join.j3 k x1 x2 x7 x8 x9 false J1 J2 J3 J4)
def spec_l1Join.j3 : Nat → Int → Int → Int → Bool → Int → Bool → Int → List Int → List Int → List Bool → Option (Int)
 | 0, _, _, _, _, _, _, _, _, _, _ => none
 | k + 1, x1, x2, x7, x8, x9, x32, J1, J2, J3, J4 => if x32 = true then ((spec_l1Le.f J1 J2 J3 J4 x1 x9).bind fun K1 => (if K1 = true then ((spec_l1Le.f J1 J2 J3 J4 x2 x9).bind fun K2 => (if K2 = true then ((spec_l1Le.f J1 J2 J3 J4 x7 x9).bind fun J9 => (spec_l1Join.l1 k x1 x2 x7 J9 (wrap64 (x9 + 1)) J1 J2 J3 J4)) else (spec_l1Join.l1 k x1 x2 x7 true (wrap64 (x9 + 1)) J1 J2 J3 J4))) else (spec_l1Join.l1 k x1 x2 x7 true (wrap64 (x9 + 1)) J1 J2 J3 J4))) else (if x8 = true then (some x7) else (spec_l1Join.l0 k x1 x2 (wrap64 (x7 + 1)) J1 J2 J3 J4))
end
def spec_l1Join.f (k : Nat) (a0_0 : Int) (l0_1 : List Int) (l0_2 : List Int) (l0_3 : List Bool) (a1 : Int) (a2 : Int) : Option (Int) := spec_l1Join.l0 k a1 a2 0 a0_0 l0_1 l0_2 l0_3
set_option maxHeartbeats 8000000 in
set_option maxRecDepth 100000 in
theorem spec_l1Join.calls (k : Nat) (a0_0 : Int) (A0_1 : Option Addr) (c0_1 : Nat) (l0_1 : List Int) (A0_2 : Option Addr) (c0_2 : Nat) (l0_2 : List Int) (A0_3 : Option Addr) (c0_3 : Nat) (l0_3 : List Bool) (a1 : Int) (a2 : Int) (r : Int) (w : World) (hr0_1 : Kd.C (Kd.int .i64) w A0_1 l0_1.length l0_1) (hc0_1 : l0_1.length ≤ c0_1) (hr0_2 : Kd.C (Kd.int .i64) w A0_2 l0_2.length l0_2) (hc0_2 : l0_2.length ≤ c0_2) (hr0_3 : Kd.C Kd.bool w A0_3 l0_3.length l0_3) (hc0_3 : l0_3.length ≤ c0_3) (h : spec_l1Join.f k a0_0 l0_1 l0_2 l0_3 a1 a2 = some r) :
  Calls Try.prog 85 #[.agg #[.int .i64 a0_0, .slice A0_1 l0_1.length c0_1, .slice A0_2 l0_2.length c0_2, .slice A0_3 l0_3.length c0_3], .int .i64 a1, .int .i64 a2] w fun e w' => e = .returned (.int .i64 r) ∧ Below w.heap.size w w' := by
 have hu27 := Try.underlying27; have HR0_1 := sd_ hr0_1; have HC0_1 := sd_ hc0_1; clear hr0_1 hc0_1; have HR0_2 := sd_ hr0_2; have HC0_2 := sd_ hc0_2; clear hr0_2 hc0_2; have HR0_3 := sd_ hr0_3; have HC0_3 := sd_ hc0_3; clear hr0_3 hc0_3; have HB := sd_ (Below.refl w.heap.size w); have H : (spec_l1Join.l0 k a1 a2 0 a0_0 l0_1 l0_2 l0_3) = some r := h; clear h; have H' := sd_ H; clear H; go_enter Try.func85, Try.ntmps85; go_wp2_with (first | ((with_reducible refine gate_dst (N := 3) rfl ?_); refine bx_ (N := 3) (cs := #[.int .i64 a0_0, .slice A0_1 l0_1.length c0_1, .slice A0_2 l0_2.length c0_2, .slice A0_3 l0_3.length c0_3]) (t := 27) ?_; intro J7 hg w4 hbox hb; have J0 := sd_ (hbox); have Q2 := sd_ (gs_ hg (bw0_ HB.out)); have J5 := sd_ (gs_ hg (bw0_ HB.out)); replace HB := sd_ (below_step (bw0_ HB.out) hb); clear hb hbox hg))
 go_loopg [7] k (fun kq v7 w' => ∃ (x7_1 : Int), v7 = .int .i64 x7_1 ∧ Aside0 (spec_l1Join.l0 kq a1 a2 x7_1 a0_0 l0_1 l0_2 l0_3 = some r) ∧ Aside0 (kq ≤ k) ∧ Aside0 (w'.heap[J7]? = some (.cells #[.int .i64 a0_0, (.slice A0_1 l0_1.length c0_1), (.slice A0_2 l0_2.length c0_2), (.slice A0_3 l0_3.length c0_3)] 27 (0, 0))) ∧ Aside0 (Below w.heap.size w w'))
 case atStart => exact ⟨(0), sm_, H', ⟨Nat.le_refl _⟩, ⟨bz_ J0.out⟩, ⟨bw1_ HB.out J5.out⟩⟩
 case round =>
  clear H'; (try clear p2); obtain ⟨x7_1, rfl, HA, HK1, J0, HB⟩ := hrel
  cases gk with
  | zero => exact absurd HA.out (by simp [spec_l1Join.l0])
  | succ k1 =>
   have H := HA.out; clear HA; simp only [spec_l1Join.l0] at H; revert H; refine ic_ (fun c5b0 H => ?_) (fun c5b0 H => ?_)
   ·have HC6 := sd_ H; clear H; obtain ⟨K3, K5, K6, K7, K8, K9, Q0, Q1⟩ := bf4_ J0.out; go_upto_region 4 with (fail)
    go_cut [8] (fun v8 wc => ∃ (kq : Nat) (x8_5 : Bool), v8 = .bool x8_5 ∧ Aside0 (spec_l1Join.j1 kq a1 a2 x7_1 x8_5 a0_0 l0_1 l0_2 l0_3 = some r) ∧ Aside0 (kq ≤ k1) ∧ Aside0 (wc.heap[J7]? = some (.cells #[.int .i64 a0_0, (.slice A0_1 l0_1.length c0_1), (.slice A0_2 l0_2.length c0_2), (.slice A0_3 l0_3.length c0_3)] 27 (0, 0))) ∧ Aside0 (Below w.heap.size w wc))
    case first =>
     have H := HC6.out; clear HC6
     revert H; refine ob_ fun K0 A8 H => ?_
     obtain rfl | rfl := bt_ K0
     ·replace H := it_ H
      revert H; refine ob_ fun J8 A10 H => ?_
      have H' := sd_ H; clear H; obtain ⟨Q3, Q4, Q5, Q6, Q7, Q8, Q9, Z0⟩ := bf4_ J0.out; go_wp2_with (first | ((with_reducible refine gate_callee (f := 48) rfl ?_); refine goesL_ (some 19) rfl rfl Try.func48 (by kernel_rfl) rfl #[.agg #[.int .i64 a0_0, .slice A0_1 l0_1.length c0_1, .slice A0_2 l0_2.length c0_2, .slice A0_3 l0_3.length c0_3], .int .i64 a1, .int .i64 x7_1] rfl la_ ?_; (with_reducible refine (spec_l1Le.calls a0_0 _ _ l0_1 _ _ l0_2 _ _ l0_3 a1 x7_1 true _ (kc_ HR0_1.out HB.out) HC0_1.out (kc_ HR0_2.out HB.out) HC0_2.out (kc_ HR0_3.out HB.out) HC0_3.out A8.out).mono ?_); rintro e w12 ⟨rfl, hb⟩; refine ⟨_, rfl, ?_⟩; replace J0 := sd_ (bb_ J0.out hb); replace HB := sd_ (below_step (bw1_ HB.out J5.out) hb); (try clear hb); obtain ⟨Z1, Z2, Z3, Z4, Z5, Z6, Z7, Z8⟩ := bf4_ J0.out) | (go_at_call 48; (with_reducible refine (spec_l1Le.calls a0_0 _ _ l0_1 _ _ l0_2 _ _ l0_3 a2 x7_1 J8 _ (kc_ HR0_1.out HB.out) HC0_1.out (kc_ HR0_2.out HB.out) HC0_2.out (kc_ HR0_3.out HB.out) HC0_3.out A10.out).mono ?_); rintro e w14 ⟨rfl, hb⟩; replace J0 := sd_ (bb_ J0.out hb); replace HB := sd_ (below_step (bw1_ HB.out J5.out) hb); (try clear hb))); go_meet
      case rel => exact ⟨_, (J8), sm_, H', ⟨by have := HK1.out; first | omega | exact Nat.le_refl _⟩, ⟨bz_ J0.out⟩, ⟨bw1_ HB.out J5.out⟩⟩
     replace H := if_ H; have H' := sd_ H; clear H; obtain ⟨Z9, Y0, Y1, Y2, Y3, Y4, Y5, Y6⟩ := bf4_ J0.out; go_wp2_with (first | ((with_reducible refine gate_callee (f := 48) rfl ?_); refine goesL_ (some 19) rfl rfl Try.func48 (by kernel_rfl) rfl #[.agg #[.int .i64 a0_0, .slice A0_1 l0_1.length c0_1, .slice A0_2 l0_2.length c0_2, .slice A0_3 l0_3.length c0_3], .int .i64 a1, .int .i64 x7_1] rfl la_ ?_; (with_reducible refine (spec_l1Le.calls a0_0 _ _ l0_1 _ _ l0_2 _ _ l0_3 a1 x7_1 false _ (kc_ HR0_1.out HB.out) HC0_1.out (kc_ HR0_2.out HB.out) HC0_2.out (kc_ HR0_3.out HB.out) HC0_3.out A8.out).mono ?_); rintro e w16 ⟨rfl, hb⟩; refine ⟨_, rfl, ?_⟩; replace J0 := sd_ (bb_ J0.out hb); replace HB := sd_ (below_step (bw1_ HB.out J5.out) hb); (try clear hb))); go_meet
     case rel => exact ⟨_, (false), sm_, H', ⟨by have := HK1.out; first | omega | exact Nat.le_refl _⟩, ⟨bz_ J0.out⟩, ⟨bw1_ HB.out J5.out⟩⟩
    case rest =>
     clear HC6; (try clear p2); (try clear c5); (try clear c5b0); (try clear c8); (try clear K3 K5 K6 K7 K8 K9 Q0 Q1); (try clear p2); obtain ⟨kq, x8_5, rfl, HA, HJ5, J0, HB⟩ := hcut
     cases kq with
     | zero => exact absurd HA.out (by simp [spec_l1Join.j1])
     | succ kj5 =>
      have H := HA.out; clear HA; simp only [spec_l1Join.j1] at H; have H' := sd_ H; clear H; go_wp2
      go_loopg [8, 9] kj5 (fun kq v8 v9 w' => ∃ (x8_3 : Bool) (x9_3 : Int), v8 = .bool x8_3 ∧ v9 = .int .i64 x9_3 ∧ Aside0 (spec_l1Join.l1 kq a1 a2 x7_1 x8_3 x9_3 a0_0 l0_1 l0_2 l0_3 = some r) ∧ Aside0 (kq ≤ kj5) ∧ Aside0 (w'.heap[J7]? = some (.cells #[.int .i64 a0_0, (.slice A0_1 l0_1.length c0_1), (.slice A0_2 l0_2.length c0_2), (.slice A0_3 l0_3.length c0_3)] 27 (0, 0))) ∧ Aside0 (Below w.heap.size w w'))
      case atStart => exact ⟨(x8_5), (0), sm_, sm_, H', ⟨Nat.le_refl _⟩, ⟨bz_ J0.out⟩, ⟨bw1_ HB.out J5.out⟩⟩
      case round =>
       clear H'; (try clear p2); (try clear c5); (try clear c5b0); (try clear c8); (try clear K3 K5 K6 K7 K8 K9 Q0 Q1); (try clear p2); obtain ⟨x8_3, x9_3, rfl, rfl, HA, HK3, J0, HB⟩ := hrel
       cases gk with
       | zero => exact absurd HA.out (by simp [spec_l1Join.l1])
       | succ k3 =>
        have H := HA.out; clear HA; simp only [spec_l1Join.l1] at H; have HC17 := sd_ H; clear H; go_upto_region 6 with (fail)
        go_cut [32] (fun v32 wc => ∃ (kq : Nat) (x32_16 : Bool), v32 = .bool x32_16 ∧ Aside0 (spec_l1Join.j3 kq a1 a2 x7_1 x8_3 x9_3 x32_16 a0_0 l0_1 l0_2 l0_3 = some r) ∧ Aside0 (kq ≤ k3) ∧ Aside0 (wc.heap[J7]? = some (.cells #[.int .i64 a0_0, (.slice A0_1 l0_1.length c0_1), (.slice A0_2 l0_2.length c0_2), (.slice A0_3 l0_3.length c0_3)] 27 (0, 0))) ∧ Aside0 (Below w.heap.size w wc))
        case first =>
         have H := HC17.out; clear HC17; revert H; refine ic_ (fun J6 H => ?_) (fun J6 H => ?_)
         ·(first | rw [J6] | (simp only [i64_w, i32_w]; rw [J6]) | skip); have H' := sd_ H; clear H; obtain ⟨Y7, Y8, Y9, X0, X1, X2, X3, X4⟩ := bf4_ J0.out; go_wp2; go_meet
          case rel => exact ⟨_, (x8_3), sm_, H', ⟨by have := HK1.out; have := HJ5.out; have := HK3.out; first | omega | exact Nat.le_refl _⟩, ⟨bz_ J0.out⟩, ⟨bw1_ HB.out J5.out⟩⟩
         (first | rw [J6] | (simp only [i64_w, i32_w]; rw [J6]) | skip); have H' := sd_ H; clear H; obtain ⟨X5, X6, X7, X8, X9, W0, W5, W6⟩ := bf4_ J0.out; go_wp2; go_meet
         case rel => exact ⟨_, (false), sm_, H', ⟨by have := HK1.out; have := HJ5.out; have := HK3.out; first | omega | exact Nat.le_refl _⟩, ⟨bz_ J0.out⟩, ⟨bw1_ HB.out J5.out⟩⟩
        case rest =>
         clear HC17; (try clear p2); (try clear c5); (try clear c5b0); (try clear c8); (try clear K3 K5 K6 K7 K8 K9 Q0 Q1); (try clear p2); obtain ⟨kq, x32_16, rfl, HA, HJ16, J0, HB⟩ := hcut
         cases kq with
         | zero => exact absurd HA.out (by simp [spec_l1Join.j3])
         | succ kj16 =>
          have H := HA.out; clear HA; simp only [spec_l1Join.j3] at H; obtain rfl | rfl := bt_ x32_16
          ·replace H := it_ H
           revert H; refine ob_ fun K1 A22 H => ?_
           obtain rfl | rfl := bt_ K1
           ·replace H := it_ H
            revert H; refine ob_ fun K2 A24 H => ?_
            obtain rfl | rfl := bt_ K2
            ·replace H := it_ H
             revert H; refine ob_ fun J9 A26 H => ?_
             have H' := sd_ H; clear H; obtain ⟨W7, W8, W9, V0, V1, V2, V3, V4⟩ := bf4_ J0.out; go_wp2_with (first | ((with_reducible refine gate_callee (f := 48) rfl ?_); refine goesL_ (some 38) rfl rfl Try.func48 (by kernel_rfl) rfl #[.agg #[.int .i64 a0_0, .slice A0_1 l0_1.length c0_1, .slice A0_2 l0_2.length c0_2, .slice A0_3 l0_3.length c0_3], .int .i64 a1, .int .i64 x9_3] rfl la_ ?_; (with_reducible refine (spec_l1Le.calls a0_0 _ _ l0_1 _ _ l0_2 _ _ l0_3 a1 x9_3 true _ (kc_ HR0_1.out HB.out) HC0_1.out (kc_ HR0_2.out HB.out) HC0_2.out (kc_ HR0_3.out HB.out) HC0_3.out A22.out).mono ?_); rintro e w28 ⟨rfl, hb⟩; refine ⟨_, rfl, ?_⟩; replace J0 := sd_ (bb_ J0.out hb); replace HB := sd_ (below_step (bw1_ HB.out J5.out) hb); (try clear hb); obtain ⟨V5, V6, V7, V8, V9, U0, U1, U2⟩ := bf4_ J0.out) | (go_at_call 48; (with_reducible refine (spec_l1Le.calls a0_0 _ _ l0_1 _ _ l0_2 _ _ l0_3 a2 x9_3 true _ (kc_ HR0_1.out HB.out) HC0_1.out (kc_ HR0_2.out HB.out) HC0_2.out (kc_ HR0_3.out HB.out) HC0_3.out A24.out).mono ?_); rintro e w30 ⟨rfl, hb⟩; replace J0 := sd_ (bb_ J0.out hb); replace HB := sd_ (below_step (bw1_ HB.out J5.out) hb); (try clear hb); obtain ⟨U3, U4, U5, U6, U7, U8, U9, G0⟩ := bf4_ J0.out) | (go_at_call 48; (with_reducible refine (spec_l1Le.calls a0_0 _ _ l0_1 _ _ l0_2 _ _ l0_3 x7_1 x9_3 J9 _ (kc_ HR0_1.out HB.out) HC0_1.out (kc_ HR0_2.out HB.out) HC0_2.out (kc_ HR0_3.out HB.out) HC0_3.out A26.out).mono ?_); rintro e w32 ⟨rfl, hb⟩; replace J0 := sd_ (bb_ J0.out hb); replace HB := sd_ (below_step (bw1_ HB.out J5.out) hb); (try clear hb))); go_roundg kj16
             case measure => have := HK1.out; have := HJ5.out; have := HK3.out; have := HJ16.out; omega
             case rel => exact ⟨(J9), (wrap64 (x9_3 + 1)), sm_, sm_, H', ⟨by have := HK1.out; have := HJ5.out; have := HK3.out; have := HJ16.out; omega⟩, ⟨bz_ J0.out⟩, ⟨bw1_ HB.out J5.out⟩⟩
            replace H := if_ H; have H' := sd_ H; clear H; obtain ⟨G1, G2, G3, G4, G5, G6, G7, G8⟩ := bf4_ J0.out; go_wp2_with (first | ((with_reducible refine gate_callee (f := 48) rfl ?_); refine goesL_ (some 38) rfl rfl Try.func48 (by kernel_rfl) rfl #[.agg #[.int .i64 a0_0, .slice A0_1 l0_1.length c0_1, .slice A0_2 l0_2.length c0_2, .slice A0_3 l0_3.length c0_3], .int .i64 a1, .int .i64 x9_3] rfl la_ ?_; (with_reducible refine (spec_l1Le.calls a0_0 _ _ l0_1 _ _ l0_2 _ _ l0_3 a1 x9_3 true _ (kc_ HR0_1.out HB.out) HC0_1.out (kc_ HR0_2.out HB.out) HC0_2.out (kc_ HR0_3.out HB.out) HC0_3.out A22.out).mono ?_); rintro e w34 ⟨rfl, hb⟩; refine ⟨_, rfl, ?_⟩; replace J0 := sd_ (bb_ J0.out hb); replace HB := sd_ (below_step (bw1_ HB.out J5.out) hb); (try clear hb); obtain ⟨G9, E0, E1, E2, E3, E4, E5, E6⟩ := bf4_ J0.out) | (go_at_call 48; (with_reducible refine (spec_l1Le.calls a0_0 _ _ l0_1 _ _ l0_2 _ _ l0_3 a2 x9_3 false _ (kc_ HR0_1.out HB.out) HC0_1.out (kc_ HR0_2.out HB.out) HC0_2.out (kc_ HR0_3.out HB.out) HC0_3.out A24.out).mono ?_); rintro e w36 ⟨rfl, hb⟩; replace J0 := sd_ (bb_ J0.out hb); replace HB := sd_ (below_step (bw1_ HB.out J5.out) hb); (try clear hb))); go_roundg kj16
            case measure => have := HK1.out; have := HJ5.out; have := HK3.out; have := HJ16.out; omega
            case rel => exact ⟨(true), (wrap64 (x9_3 + 1)), sm_, sm_, H', ⟨by have := HK1.out; have := HJ5.out; have := HK3.out; have := HJ16.out; omega⟩, ⟨bz_ J0.out⟩, ⟨bw1_ HB.out J5.out⟩⟩
           replace H := if_ H; have H' := sd_ H; clear H; obtain ⟨E7, E8, E9, D0, D1, D2, D3, D4⟩ := bf4_ J0.out; go_wp2_with (first | ((with_reducible refine gate_callee (f := 48) rfl ?_); refine goesL_ (some 38) rfl rfl Try.func48 (by kernel_rfl) rfl #[.agg #[.int .i64 a0_0, .slice A0_1 l0_1.length c0_1, .slice A0_2 l0_2.length c0_2, .slice A0_3 l0_3.length c0_3], .int .i64 a1, .int .i64 x9_3] rfl la_ ?_; (with_reducible refine (spec_l1Le.calls a0_0 _ _ l0_1 _ _ l0_2 _ _ l0_3 a1 x9_3 false _ (kc_ HR0_1.out HB.out) HC0_1.out (kc_ HR0_2.out HB.out) HC0_2.out (kc_ HR0_3.out HB.out) HC0_3.out A22.out).mono ?_); rintro e w38 ⟨rfl, hb⟩; refine ⟨_, rfl, ?_⟩; replace J0 := sd_ (bb_ J0.out hb); replace HB := sd_ (below_step (bw1_ HB.out J5.out) hb); (try clear hb))); go_roundg kj16
           case measure => have := HK1.out; have := HJ5.out; have := HK3.out; have := HJ16.out; omega
           case rel => exact ⟨(true), (wrap64 (x9_3 + 1)), sm_, sm_, H', ⟨by have := HK1.out; have := HJ5.out; have := HK3.out; have := HJ16.out; omega⟩, ⟨bz_ J0.out⟩, ⟨bw1_ HB.out J5.out⟩⟩
          replace H := if_ H; obtain rfl | rfl := bt_ x8_3
          ·replace H := it_ H; obtain rfl := Option.some.inj H; go_wp2; go_ret; exact ⟨an_, bw1_ HB.out J5.out⟩
          replace H := if_ H; have H' := sd_ H; clear H; go_wp2; go_roundg kj16
          case measure => have := HK1.out; have := HJ5.out; have := HK3.out; have := HJ16.out; omega
          case rel => exact ⟨(wrap64 (x7_1 + 1)), sm_, H', ⟨by have := HK1.out; have := HJ5.out; have := HK3.out; have := HJ16.out; omega⟩, ⟨bz_ J0.out⟩, ⟨bw1_ HB.out J5.out⟩⟩
   obtain rfl := Option.some.inj H; obtain ⟨D5, D6, D7, D8, D9, B0, B2, B3⟩ := bf4_ J0.out; go_wp2; go_ret; exact ⟨an_, bw1_ HB.out J5.out⟩


def spec_l1Two.f (k : Nat) (a0_0 : Int) (l0_1 : List Int) (l0_2 : List Int) (l0_3 : List Bool) (a1 : Int) (a2 : Int) : Option (Bool) := (spec_l1Add.f a0_0 l0_1 l0_2 l0_3 a1 a2).bind fun J1 => ((spec_l1Add.f a0_0 l0_1 l0_2 l0_3 a2 a1).bind fun J2 => (if J1 = J2 then (if a1 = a2 then ((spec_l1Join.f k a0_0 l0_1 l0_2 l0_3 a1 a2).bind fun J6 => (some (decide (J6 ≥ 0)))) else ((spec_l1Le.f a0_0 l0_1 l0_2 l0_3 a1 a2).bind fun J7 => (if J7 = true then ((spec_l1Le.f a0_0 l0_1 l0_2 l0_3 a2 a1).bind fun J8 => (if J8 = true then (some false) else ((spec_l1Join.f k a0_0 l0_1 l0_2 l0_3 a1 a2).bind fun J9 => (some (decide (J9 ≥ 0)))))) else ((spec_l1Join.f k a0_0 l0_1 l0_2 l0_3 a1 a2).bind fun K0 => (some (decide (K0 ≥ 0))))))) else (some false)))
set_option maxHeartbeats 8000000 in
set_option maxRecDepth 100000 in
theorem spec_l1Two.calls (k : Nat) (a0_0 : Int) (A0_1 : Option Addr) (c0_1 : Nat) (l0_1 : List Int) (A0_2 : Option Addr) (c0_2 : Nat) (l0_2 : List Int) (A0_3 : Option Addr) (c0_3 : Nat) (l0_3 : List Bool) (a1 : Int) (a2 : Int) (r : Bool) (w : World) (hr0_1 : Kd.C (Kd.int .i64) w A0_1 l0_1.length l0_1) (hc0_1 : l0_1.length ≤ c0_1) (hr0_2 : Kd.C (Kd.int .i64) w A0_2 l0_2.length l0_2) (hc0_2 : l0_2.length ≤ c0_2) (hr0_3 : Kd.C Kd.bool w A0_3 l0_3.length l0_3) (hc0_3 : l0_3.length ≤ c0_3) (h : spec_l1Two.f k a0_0 l0_1 l0_2 l0_3 a1 a2 = some r) :
  Calls Try.prog 65 #[.agg #[.int .i64 a0_0, .slice A0_1 l0_1.length c0_1, .slice A0_2 l0_2.length c0_2, .slice A0_3 l0_3.length c0_3], .int .i64 a1, .int .i64 a2] w fun e w' => e = .returned (.bool r) ∧ Below w.heap.size w w' := by
 have hu27 := Try.underlying27; have HR0_1 := sd_ hr0_1; have HC0_1 := sd_ hc0_1; clear hr0_1 hc0_1; have HR0_2 := sd_ hr0_2; have HC0_2 := sd_ hc0_2; clear hr0_2 hc0_2; have HR0_3 := sd_ hr0_3; have HC0_3 := sd_ hc0_3; clear hr0_3 hc0_3; have HB := sd_ (Below.refl w.heap.size w); have H : ((spec_l1Add.f a0_0 l0_1 l0_2 l0_3 a1 a2).bind fun J1 => ((spec_l1Add.f a0_0 l0_1 l0_2 l0_3 a2 a1).bind fun J2 => (if J1 = J2 then (if a1 = a2 then ((spec_l1Join.f k a0_0 l0_1 l0_2 l0_3 a1 a2).bind fun J6 => (some (decide (J6 ≥ 0)))) else ((spec_l1Le.f a0_0 l0_1 l0_2 l0_3 a1 a2).bind fun J7 => (if J7 = true then ((spec_l1Le.f a0_0 l0_1 l0_2 l0_3 a2 a1).bind fun J8 => (if J8 = true then (some false) else ((spec_l1Join.f k a0_0 l0_1 l0_2 l0_3 a1 a2).bind fun J9 => (some (decide (J9 ≥ 0)))))) else ((spec_l1Join.f k a0_0 l0_1 l0_2 l0_3 a1 a2).bind fun K0 => (some (decide (K0 ≥ 0))))))) else (some false)))) = some r := h; clear h
 revert H; refine ob_ fun J1 A4 H => ?_
 revert H; refine ob_ fun J2 A5 H => ?_
 by_cases c6 : J1 = J2
 ·rw [if_pos c6] at H; have c6b0 : (J1 == J2) = true := beq_iff_eq.mpr c6; have c6b1 : (J1 != J2) = false := bne_eq_false_iff_eq.mpr c6; clear c6; by_cases c7 : a1 = a2
  ·rw [if_pos c7] at H; have c7b0 : (a1 == a2) = true := beq_iff_eq.mpr c7; have c7b1 : (a1 != a2) = false := bne_eq_false_iff_eq.mpr c7; clear c7
   revert H; refine ob_ fun J6 A8 H => ?_
   obtain rfl := Option.some.inj H; go_enter Try.func65, Try.ntmps65
   try go_wp2_with (first | ((with_reducible refine gate_dst (N := 3) rfl ?_); refine bx_ (N := 3) (cs := #[.int .i64 a0_0, .slice A0_1 l0_1.length c0_1, .slice A0_2 l0_2.length c0_2, .slice A0_3 l0_3.length c0_3]) (t := 27) ?_; intro J4 hg w9 hbox hb; have J0 := sd_ (hbox); have J5 := sd_ (gs_ hg (bw0_ HB.out)); have J3 := sd_ (gs_ hg (bw0_ HB.out)); replace HB := sd_ (below_step (bw0_ HB.out) hb); clear hb hbox hg))
   refine qb_region (by kernel_rfl) (by kernel_rfl) ?_
   have HQ := fun (wq : World) (hq : Below w9.heap.size w9 wq) => below_step HB.out hq
   repeat ((first | (apply qb_skip; (focus rfl)) | (refine qb_callN 10 rfl ?_; apply qb_call 10 rfl Try.func46 (by kernel_rfl) rfl rfl; (focus rfl); (focus (exact fun wq9 hb9 => qb_b hb9 (spec_l1Add.calls a0_0 _ _ l0_1 _ _ l0_2 _ _ l0_3 a1 a2 J1 _ (qy_ HR0_1 (HQ _ hb9)) HC0_1.out (qy_ HR0_2 (HQ _ hb9)) HC0_2.out (qy_ HR0_3 (HQ _ hb9)) HC0_3.out A4.out))); (focus (rfl))) | (refine qb_callN 14 rfl ?_; apply qb_call 14 rfl Try.func46 (by kernel_rfl) rfl rfl; (focus rfl); (focus (exact fun wq9 hb9 => qb_b hb9 (spec_l1Add.calls a0_0 _ _ l0_1 _ _ l0_2 _ _ l0_3 a2 a1 J2 _ (qy_ HR0_1 (HQ _ hb9)) HC0_1.out (qy_ HR0_2 (HQ _ hb9)) HC0_2.out (qy_ HR0_3 (HQ _ hb9)) HC0_3.out A5.out))); (focus (rfl))) | (refine qb_callN 39 rfl ?_; apply qb_call 39 rfl Try.func85 (by kernel_rfl) rfl rfl; (focus rfl); (focus (exact fun wq9 hb9 => qb_b hb9 (spec_l1Join.calls k a0_0 _ _ l0_1 _ _ l0_2 _ _ l0_3 a1 a2 J6 _ (qy_ HR0_1 (HQ _ hb9)) HC0_1.out (qy_ HR0_2 (HQ _ hb9)) HC0_2.out (qy_ HR0_3 (HQ _ hb9)) HC0_3.out A8.out))); (focus (rfl))) | (apply qb_val; (focus rfl); (focus (intro wq9 _; go_simp; with_reducible rfl))) | (apply qb_val; (focus rfl); (focus (intro wq9 hb9_; have hb9 : Below w9.heap.size w9 wq9 := hb9_; have J0 := sd_ (blk_below J0.out hb9); obtain ⟨hc9_421_0, hc9_421_1, hc9_421_2, hc9_421_3⟩ := bc4_ J0.out; go_simp; with_reducible rfl)))); (focus (simp only [Act.put, List.setIfInBounds_toArray, List.set_cons_zero, List.set_cons_succ, i64_w, i32_w]; rfl)))
   refine qb_nil ?_; intro w13 hb; replace J0 := sd_ (blk_below J0.out hb); replace HB := sd_ (below_step HB.out hb); clear hb; (try clear HQ)
   try go_wp2
   go_ret; exact ⟨an_, bw1_ HB.out J3.out⟩
  rw [if_neg c7] at H; have c7b0 : (a1 == a2) = false := beq_eq_false_iff_ne.mpr c7; have c7b1 : (a1 != a2) = true := bne_iff_ne.mpr c7
  revert H; refine ob_ fun J7 A14 H => ?_
  obtain rfl | rfl := bt_ J7
  ·replace H := it_ H
   revert H; refine ob_ fun J8 A16 H => ?_
   obtain rfl | rfl := bt_ J8
   ·replace H := it_ H; obtain rfl := Option.some.inj H; go_enter Try.func65, Try.ntmps65
    try go_wp2_with (first | ((with_reducible refine gate_dst (N := 3) rfl ?_); refine bx_ (N := 3) (cs := #[.int .i64 a0_0, .slice A0_1 l0_1.length c0_1, .slice A0_2 l0_2.length c0_2, .slice A0_3 l0_3.length c0_3]) (t := 27) ?_; intro J4 hg w18 hbox hb; have J0 := sd_ (hbox); have J5 := sd_ (gs_ hg (bw0_ HB.out)); have J3 := sd_ (gs_ hg (bw0_ HB.out)); replace HB := sd_ (below_step (bw0_ HB.out) hb); clear hb hbox hg))
    refine qb_region (by kernel_rfl) (by kernel_rfl) ?_
    have HQ := fun (wq : World) (hq : Below w18.heap.size w18 wq) => below_step HB.out hq
    repeat ((first | (apply qb_skip; (focus rfl)) | (refine qb_callN 10 rfl ?_; apply qb_call 10 rfl Try.func46 (by kernel_rfl) rfl rfl; (focus rfl); (focus (exact fun wq9 hb9 => qb_b hb9 (spec_l1Add.calls a0_0 _ _ l0_1 _ _ l0_2 _ _ l0_3 a1 a2 J1 _ (qy_ HR0_1 (HQ _ hb9)) HC0_1.out (qy_ HR0_2 (HQ _ hb9)) HC0_2.out (qy_ HR0_3 (HQ _ hb9)) HC0_3.out A4.out))); (focus (rfl))) | (refine qb_callN 14 rfl ?_; apply qb_call 14 rfl Try.func46 (by kernel_rfl) rfl rfl; (focus rfl); (focus (exact fun wq9 hb9 => qb_b hb9 (spec_l1Add.calls a0_0 _ _ l0_1 _ _ l0_2 _ _ l0_3 a2 a1 J2 _ (qy_ HR0_1 (HQ _ hb9)) HC0_1.out (qy_ HR0_2 (HQ _ hb9)) HC0_2.out (qy_ HR0_3 (HQ _ hb9)) HC0_3.out A5.out))); (focus (rfl))) | (refine qb_callN 24 rfl ?_; apply qb_call 24 rfl Try.func48 (by kernel_rfl) rfl rfl; (focus rfl); (focus (exact fun wq9 hb9 => qb_b hb9 (spec_l1Le.calls a0_0 _ _ l0_1 _ _ l0_2 _ _ l0_3 a1 a2 true _ (qy_ HR0_1 (HQ _ hb9)) HC0_1.out (qy_ HR0_2 (HQ _ hb9)) HC0_2.out (qy_ HR0_3 (HQ _ hb9)) HC0_3.out A14.out))); (focus (rfl))) | (refine qb_callN 31 rfl ?_; apply qb_call 31 rfl Try.func48 (by kernel_rfl) rfl rfl; (focus rfl); (focus (exact fun wq9 hb9 => qb_b hb9 (spec_l1Le.calls a0_0 _ _ l0_1 _ _ l0_2 _ _ l0_3 a2 a1 true _ (qy_ HR0_1 (HQ _ hb9)) HC0_1.out (qy_ HR0_2 (HQ _ hb9)) HC0_2.out (qy_ HR0_3 (HQ _ hb9)) HC0_3.out A16.out))); (focus (rfl))) | (apply qb_val; (focus rfl); (focus (intro wq9 _; go_simp; with_reducible rfl))) | (apply qb_val; (focus rfl); (focus (intro wq9 hb9_; have hb9 : Below w18.heap.size w18 wq9 := hb9_; have J0 := sd_ (blk_below J0.out hb9); obtain ⟨hc9_421_0, hc9_421_1, hc9_421_2, hc9_421_3⟩ := bc4_ J0.out; go_simp; with_reducible rfl)))); (focus (simp only [Act.put, List.setIfInBounds_toArray, List.set_cons_zero, List.set_cons_succ, i64_w, i32_w]; rfl)))
    refine qb_nil ?_; intro w23 hb; replace J0 := sd_ (blk_below J0.out hb); replace HB := sd_ (below_step HB.out hb); clear hb; (try clear HQ)
    try go_wp2
    go_ret; exact ⟨an_, bw1_ HB.out J3.out⟩
   replace H := if_ H
   revert H; refine ob_ fun J9 A24 H => ?_
   obtain rfl := Option.some.inj H; go_enter Try.func65, Try.ntmps65
   try go_wp2_with (first | ((with_reducible refine gate_dst (N := 3) rfl ?_); refine bx_ (N := 3) (cs := #[.int .i64 a0_0, .slice A0_1 l0_1.length c0_1, .slice A0_2 l0_2.length c0_2, .slice A0_3 l0_3.length c0_3]) (t := 27) ?_; intro J4 hg w25 hbox hb; have J0 := sd_ (hbox); have J5 := sd_ (gs_ hg (bw0_ HB.out)); have J3 := sd_ (gs_ hg (bw0_ HB.out)); replace HB := sd_ (below_step (bw0_ HB.out) hb); clear hb hbox hg))
   refine qb_region (by kernel_rfl) (by kernel_rfl) ?_
   have HQ := fun (wq : World) (hq : Below w25.heap.size w25 wq) => below_step HB.out hq
   repeat ((first | (apply qb_skip; (focus rfl)) | (refine qb_callN 10 rfl ?_; apply qb_call 10 rfl Try.func46 (by kernel_rfl) rfl rfl; (focus rfl); (focus (exact fun wq9 hb9 => qb_b hb9 (spec_l1Add.calls a0_0 _ _ l0_1 _ _ l0_2 _ _ l0_3 a1 a2 J1 _ (qy_ HR0_1 (HQ _ hb9)) HC0_1.out (qy_ HR0_2 (HQ _ hb9)) HC0_2.out (qy_ HR0_3 (HQ _ hb9)) HC0_3.out A4.out))); (focus (rfl))) | (refine qb_callN 14 rfl ?_; apply qb_call 14 rfl Try.func46 (by kernel_rfl) rfl rfl; (focus rfl); (focus (exact fun wq9 hb9 => qb_b hb9 (spec_l1Add.calls a0_0 _ _ l0_1 _ _ l0_2 _ _ l0_3 a2 a1 J2 _ (qy_ HR0_1 (HQ _ hb9)) HC0_1.out (qy_ HR0_2 (HQ _ hb9)) HC0_2.out (qy_ HR0_3 (HQ _ hb9)) HC0_3.out A5.out))); (focus (rfl))) | (refine qb_callN 24 rfl ?_; apply qb_call 24 rfl Try.func48 (by kernel_rfl) rfl rfl; (focus rfl); (focus (exact fun wq9 hb9 => qb_b hb9 (spec_l1Le.calls a0_0 _ _ l0_1 _ _ l0_2 _ _ l0_3 a1 a2 true _ (qy_ HR0_1 (HQ _ hb9)) HC0_1.out (qy_ HR0_2 (HQ _ hb9)) HC0_2.out (qy_ HR0_3 (HQ _ hb9)) HC0_3.out A14.out))); (focus (rfl))) | (refine qb_callN 31 rfl ?_; apply qb_call 31 rfl Try.func48 (by kernel_rfl) rfl rfl; (focus rfl); (focus (exact fun wq9 hb9 => qb_b hb9 (spec_l1Le.calls a0_0 _ _ l0_1 _ _ l0_2 _ _ l0_3 a2 a1 false _ (qy_ HR0_1 (HQ _ hb9)) HC0_1.out (qy_ HR0_2 (HQ _ hb9)) HC0_2.out (qy_ HR0_3 (HQ _ hb9)) HC0_3.out A16.out))); (focus (rfl))) | (refine qb_callN 39 rfl ?_; apply qb_call 39 rfl Try.func85 (by kernel_rfl) rfl rfl; (focus rfl); (focus (exact fun wq9 hb9 => qb_b hb9 (spec_l1Join.calls k a0_0 _ _ l0_1 _ _ l0_2 _ _ l0_3 a1 a2 J9 _ (qy_ HR0_1 (HQ _ hb9)) HC0_1.out (qy_ HR0_2 (HQ _ hb9)) HC0_2.out (qy_ HR0_3 (HQ _ hb9)) HC0_3.out A24.out))); (focus (rfl))) | (apply qb_val; (focus rfl); (focus (intro wq9 _; go_simp; with_reducible rfl))) | (apply qb_val; (focus rfl); (focus (intro wq9 hb9_; have hb9 : Below w25.heap.size w25 wq9 := hb9_; have J0 := sd_ (blk_below J0.out hb9); obtain ⟨hc9_421_0, hc9_421_1, hc9_421_2, hc9_421_3⟩ := bc4_ J0.out; go_simp; with_reducible rfl)))); (focus (simp only [Act.put, List.setIfInBounds_toArray, List.set_cons_zero, List.set_cons_succ, i64_w, i32_w]; rfl)))
   refine qb_nil ?_; intro w31 hb; replace J0 := sd_ (blk_below J0.out hb); replace HB := sd_ (below_step HB.out hb); clear hb; (try clear HQ)
   try go_wp2
   go_ret; exact ⟨an_, bw1_ HB.out J3.out⟩
  replace H := if_ H
  revert H; refine ob_ fun K0 A32 H => ?_
  obtain rfl := Option.some.inj H; go_enter Try.func65, Try.ntmps65
  try go_wp2_with (first | ((with_reducible refine gate_dst (N := 3) rfl ?_); refine bx_ (N := 3) (cs := #[.int .i64 a0_0, .slice A0_1 l0_1.length c0_1, .slice A0_2 l0_2.length c0_2, .slice A0_3 l0_3.length c0_3]) (t := 27) ?_; intro J4 hg w33 hbox hb; have J0 := sd_ (hbox); have J5 := sd_ (gs_ hg (bw0_ HB.out)); have J3 := sd_ (gs_ hg (bw0_ HB.out)); replace HB := sd_ (below_step (bw0_ HB.out) hb); clear hb hbox hg))
  refine qb_region (by kernel_rfl) (by kernel_rfl) ?_
  have HQ := fun (wq : World) (hq : Below w33.heap.size w33 wq) => below_step HB.out hq
  repeat ((first | (apply qb_skip; (focus rfl)) | (refine qb_callN 10 rfl ?_; apply qb_call 10 rfl Try.func46 (by kernel_rfl) rfl rfl; (focus rfl); (focus (exact fun wq9 hb9 => qb_b hb9 (spec_l1Add.calls a0_0 _ _ l0_1 _ _ l0_2 _ _ l0_3 a1 a2 J1 _ (qy_ HR0_1 (HQ _ hb9)) HC0_1.out (qy_ HR0_2 (HQ _ hb9)) HC0_2.out (qy_ HR0_3 (HQ _ hb9)) HC0_3.out A4.out))); (focus (rfl))) | (refine qb_callN 14 rfl ?_; apply qb_call 14 rfl Try.func46 (by kernel_rfl) rfl rfl; (focus rfl); (focus (exact fun wq9 hb9 => qb_b hb9 (spec_l1Add.calls a0_0 _ _ l0_1 _ _ l0_2 _ _ l0_3 a2 a1 J2 _ (qy_ HR0_1 (HQ _ hb9)) HC0_1.out (qy_ HR0_2 (HQ _ hb9)) HC0_2.out (qy_ HR0_3 (HQ _ hb9)) HC0_3.out A5.out))); (focus (rfl))) | (refine qb_callN 24 rfl ?_; apply qb_call 24 rfl Try.func48 (by kernel_rfl) rfl rfl; (focus rfl); (focus (exact fun wq9 hb9 => qb_b hb9 (spec_l1Le.calls a0_0 _ _ l0_1 _ _ l0_2 _ _ l0_3 a1 a2 false _ (qy_ HR0_1 (HQ _ hb9)) HC0_1.out (qy_ HR0_2 (HQ _ hb9)) HC0_2.out (qy_ HR0_3 (HQ _ hb9)) HC0_3.out A14.out))); (focus (rfl))) | (refine qb_callN 39 rfl ?_; apply qb_call 39 rfl Try.func85 (by kernel_rfl) rfl rfl; (focus rfl); (focus (exact fun wq9 hb9 => qb_b hb9 (spec_l1Join.calls k a0_0 _ _ l0_1 _ _ l0_2 _ _ l0_3 a1 a2 K0 _ (qy_ HR0_1 (HQ _ hb9)) HC0_1.out (qy_ HR0_2 (HQ _ hb9)) HC0_2.out (qy_ HR0_3 (HQ _ hb9)) HC0_3.out A32.out))); (focus (rfl))) | (apply qb_val; (focus rfl); (focus (intro wq9 _; go_simp; with_reducible rfl))) | (apply qb_val; (focus rfl); (focus (intro wq9 hb9_; have hb9 : Below w33.heap.size w33 wq9 := hb9_; have J0 := sd_ (blk_below J0.out hb9); obtain ⟨hc9_421_0, hc9_421_1, hc9_421_2, hc9_421_3⟩ := bc4_ J0.out; go_simp; with_reducible rfl)))); (focus (simp only [Act.put, List.setIfInBounds_toArray, List.set_cons_zero, List.set_cons_succ, i64_w, i32_w]; rfl)))
  refine qb_nil ?_; intro w38 hb; replace J0 := sd_ (blk_below J0.out hb); replace HB := sd_ (below_step HB.out hb); clear hb; (try clear HQ)
  try go_wp2
  go_ret; exact ⟨an_, bw1_ HB.out J3.out⟩
 rw [if_neg c6] at H; have c6b0 : (J1 == J2) = false := beq_eq_false_iff_ne.mpr c6; have c6b1 : (J1 != J2) = true := bne_iff_ne.mpr c6; obtain rfl := Option.some.inj H; go_enter Try.func65, Try.ntmps65
 try go_wp2_with (first | ((with_reducible refine gate_dst (N := 3) rfl ?_); refine bx_ (N := 3) (cs := #[.int .i64 a0_0, .slice A0_1 l0_1.length c0_1, .slice A0_2 l0_2.length c0_2, .slice A0_3 l0_3.length c0_3]) (t := 27) ?_; intro J4 hg w39 hbox hb; have J0 := sd_ (hbox); have J5 := sd_ (gs_ hg (bw0_ HB.out)); have J3 := sd_ (gs_ hg (bw0_ HB.out)); replace HB := sd_ (below_step (bw0_ HB.out) hb); clear hb hbox hg))
 refine qb_region (by kernel_rfl) (by kernel_rfl) ?_
 have HQ := fun (wq : World) (hq : Below w39.heap.size w39 wq) => below_step HB.out hq
 repeat ((first | (apply qb_skip; (focus rfl)) | (refine qb_callN 10 rfl ?_; apply qb_call 10 rfl Try.func46 (by kernel_rfl) rfl rfl; (focus rfl); (focus (exact fun wq9 hb9 => qb_b hb9 (spec_l1Add.calls a0_0 _ _ l0_1 _ _ l0_2 _ _ l0_3 a1 a2 J1 _ (qy_ HR0_1 (HQ _ hb9)) HC0_1.out (qy_ HR0_2 (HQ _ hb9)) HC0_2.out (qy_ HR0_3 (HQ _ hb9)) HC0_3.out A4.out))); (focus (rfl))) | (refine qb_callN 14 rfl ?_; apply qb_call 14 rfl Try.func46 (by kernel_rfl) rfl rfl; (focus rfl); (focus (exact fun wq9 hb9 => qb_b hb9 (spec_l1Add.calls a0_0 _ _ l0_1 _ _ l0_2 _ _ l0_3 a2 a1 J2 _ (qy_ HR0_1 (HQ _ hb9)) HC0_1.out (qy_ HR0_2 (HQ _ hb9)) HC0_2.out (qy_ HR0_3 (HQ _ hb9)) HC0_3.out A5.out))); (focus (rfl))) | (apply qb_val; (focus rfl); (focus (intro wq9 _; go_simp; with_reducible rfl))) | (apply qb_val; (focus rfl); (focus (intro wq9 hb9_; have hb9 : Below w39.heap.size w39 wq9 := hb9_; have J0 := sd_ (blk_below J0.out hb9); obtain ⟨hc9_421_0, hc9_421_1, hc9_421_2, hc9_421_3⟩ := bc4_ J0.out; go_simp; with_reducible rfl)))); (focus (simp only [Act.put, List.setIfInBounds_toArray, List.set_cons_zero, List.set_cons_succ, i64_w, i32_w]; rfl)))
 refine qb_nil ?_; intro w42 hb; replace J0 := sd_ (blk_below J0.out hb); replace HB := sd_ (below_step HB.out hb); clear hb; (try clear HQ)
 try go_wp2
 go_ret; exact ⟨an_, bw1_ HB.out J3.out⟩

end Go.Proofs.Ytjjkagnbdfofbaa.P
end
