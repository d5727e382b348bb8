-- Several texts in one (wip/tools/merge.py).
import Derived.Test.YtmcepfimcedocaaDoorP0
import Derived.Test.YtmcepfimcedocaaDoorM3
section
/-! shorter words -/
namespace Go.Proofs.YtmcepfimcedocaaDoor.P
open Go.RowKit Go.Proofs.YtmcepfimcedocaaDoorW.PrintWords Go.Proofs.YtmcepfimcedocaaDoorW.PrintLast Go.Proofs.YtmcepfimcedocaaDoorW.PrintMore
attribute [local go_sem] max2_int min2_int max_two min_two max_three min_three max_four min_four   -- for this text's walks alone
set_option linter.unusedVariables false
set_option linter.unusedSimpArgs false

/-! ### spec_l1Join: function 69 -/
mutual
def spec_l1Join.l0 : Nat → Int → Int → Int → Int → List Int → List Int → List Bool → Option (Int)
 | 0, _, _, _, _, _, _, _ => none
 | k + 1, x1, x2, x7, x225000, x225001, x225002, x225003 => if x7 < x225000 then ((spec_l1Le.f x225000 x225001 x225002 x225003 x1 x7).bind fun t225 => (if t225 = true then ((spec_l1Le.f x225000 x225001 x225002 x225003 x2 x7).bind fun t226 => (spec_l1Join.j1 k x1 x2 x7 t226 x225000 x225001 x225002 x225003)) else (spec_l1Join.j1 k x1 x2 x7 false x225000 x225001 x225002 x225003))) else (some (-1))
def spec_l1Join.j1 : Nat → Int → Int → Int → Bool → Int → List Int → List Int → List Bool → Option (Int)
 | 0, _, _, _, _, _, _, _, _ => none
 | k + 1, x1, x2, x7, x8, x225000, x225001, x225002, x225003 => spec_l1Join.l1 k x1 x2 x7 x8 0 x225000 x225001 x225002 x225003
def spec_l1Join.l1 : Nat → Int → Int → Int → Bool → Int → Int → List Int → List Int → List Bool → Option (Int)
 | 0, _, _, _, _, _, _, _, _, _ => none
 | k + 1, x1, x2, x7, x8, x9, x225000, x225001, x225002, x225003 => if x9 < x225000 then (spec_l1Join.j3 k x1 x2 x7 x8 x9 x8 x225000 x225001 x225002 x225003) else (spec_l1Join.j3 k x1 x2 x7 x8 x9 false x225000 x225001 x225002 x225003)
def spec_l1Join.j3 : Nat → Int → Int → Int → Bool → Int → Bool → Int → List Int → List Int → List Bool → Option (Int)
 | 0, _, _, _, _, _, _, _, _, _, _ => none
 | k + 1, x1, x2, x7, x8, x9, x32, x225000, x225001, x225002, x225003 => if x32 = true then ((spec_l1Le.f x225000 x225001 x225002 x225003 x1 x9).bind fun t227 => (if t227 = true then ((spec_l1Le.f x225000 x225001 x225002 x225003 x2 x9).bind fun t228 => (if t228 = true then ((spec_l1Le.f x225000 x225001 x225002 x225003 x7 x9).bind fun t229 => (spec_l1Join.l1 k x1 x2 x7 t229 (wrap64 (x9 + 1)) x225000 x225001 x225002 x225003)) else (spec_l1Join.l1 k x1 x2 x7 true (wrap64 (x9 + 1)) x225000 x225001 x225002 x225003))) else (spec_l1Join.l1 k x1 x2 x7 true (wrap64 (x9 + 1)) x225000 x225001 x225002 x225003))) else (if x8 = true then (some x7) else (spec_l1Join.l0 k x1 x2 (wrap64 (x7 + 1)) x225000 x225001 x225002 x225003))
end
def spec_l1Join.f (k : Nat) (a0_0 : Int) (l0_1 : List Int) (l0_2 : List Int) (l0_3 : List Bool) (a1 : Int) (a2 : Int) : Option (Int) := spec_l1Join.l0 k a1 a2 0 a0_0 l0_1 l0_2 l0_3
set_option maxHeartbeats 8000000 in
set_option maxRecDepth 100000 in
theorem spec_l1Join.calls (k : Nat) (a0_0 : Int) (A0_1 : Option Addr) (c0_1 : Nat) (l0_1 : List Int) (A0_2 : Option Addr) (c0_2 : Nat) (l0_2 : List Int) (A0_3 : Option Addr) (c0_3 : Nat) (l0_3 : List Bool) (a1 : Int) (a2 : Int) (r : Int) (w : World) (hr0_1 : Kd.C (Kd.int .i64) w A0_1 l0_1.length l0_1) (hc0_1 : l0_1.length ≤ c0_1) (hr0_2 : Kd.C (Kd.int .i64) w A0_2 l0_2.length l0_2) (hc0_2 : l0_2.length ≤ c0_2) (hr0_3 : Kd.C Kd.bool w A0_3 l0_3.length l0_3) (hc0_3 : l0_3.length ≤ c0_3) (h : spec_l1Join.f k a0_0 l0_1 l0_2 l0_3 a1 a2 = some r) :
  Calls Tryd.prog 69 #[.agg #[.int .i64 a0_0, .slice A0_1 l0_1.length c0_1, .slice A0_2 l0_2.length c0_2, .slice A0_3 l0_3.length c0_3], .int .i64 a1, .int .i64 a2] w fun e w' => e = .returned (.int .i64 r) ∧ Below w.heap.size w w' := by
 have hu28 := Tryd.underlying28; have HR0_1 := sd_ hr0_1; have HC0_1 := sd_ hc0_1; clear hr0_1 hc0_1; have HR0_2 := sd_ hr0_2; have HC0_2 := sd_ hc0_2; clear hr0_2 hc0_2; have HR0_3 := sd_ hr0_3; have HC0_3 := sd_ hc0_3; clear hr0_3 hc0_3; have HB := sd_ (Below.refl w.heap.size w); have H : (spec_l1Join.l0 k a1 a2 0 a0_0 l0_1 l0_2 l0_3) = some r := h; clear h; have H' := sd_ H; clear H; go_enter Tryd.func69, Tryd.ntmps69; go_wp2_with (first | ((with_reducible refine gate_dst (N := 3) rfl ?_); refine bx_ (N := 3) (cs := #[.int .i64 a0_0, .slice A0_1 l0_1.length c0_1, .slice A0_2 l0_2.length c0_2, .slice A0_3 l0_3.length c0_3]) (t := 28) ?_; intro gb224 hg w4 hbox hb; have BK224 := sd_ (hbox); have GW224 := sd_ (gs_ hg (bw0_ HB.out)); have GE224 := sd_ (gs_ hg (bw0_ HB.out)); replace HB := sd_ (below_step (bw0_ HB.out) hb); clear hb hbox hg))
 go_loopg [7] k (fun kq v7 w' => ∃ (x7_1 : Int), v7 = .int .i64 x7_1 ∧ Aside0 (spec_l1Join.l0 kq a1 a2 x7_1 a0_0 l0_1 l0_2 l0_3 = some r) ∧ Aside0 (kq ≤ k) ∧ Aside0 (w'.heap[gb224]? = some (.cells #[.int .i64 a0_0, (.slice A0_1 l0_1.length c0_1), (.slice A0_2 l0_2.length c0_2), (.slice A0_3 l0_3.length c0_3)] 28 (0, 0))) ∧ Aside0 (Below w.heap.size w w'))
 case atStart => exact ⟨(0), sm_, H', ⟨Nat.le_refl _⟩, ⟨bz_ BK224.out⟩, ⟨bw1_ HB.out GE224.out⟩⟩
 case round =>
  clear H'; (try clear p2); obtain ⟨x7_1, rfl, HA, HK1, BK224, HB⟩ := hrel
  cases gk with
  | zero => exact absurd HA.out (by simp [spec_l1Join.l0])
  | succ k1 =>
   have H := HA.out; clear HA; simp only [spec_l1Join.l0] at H; revert H; refine ic_ (fun c5b0 H => ?_) (fun c5b0 H => ?_)
   ·have HC6 := sd_ H; clear H; obtain ⟨z7_0, z7_1, z7_2, z7_3, f7_0, f7_1, f7_2, f7_3⟩ := bf4_ BK224.out; go_upto_region 4 with (fail)
    go_cut [8] (fun v8 wc => ∃ (kq : Nat) (x8_5 : Bool), v8 = .bool x8_5 ∧ Aside0 (spec_l1Join.j1 kq a1 a2 x7_1 x8_5 a0_0 l0_1 l0_2 l0_3 = some r) ∧ Aside0 (kq ≤ k1) ∧ Aside0 (wc.heap[gb224]? = some (.cells #[.int .i64 a0_0, (.slice A0_1 l0_1.length c0_1), (.slice A0_2 l0_2.length c0_2), (.slice A0_3 l0_3.length c0_3)] 28 (0, 0))) ∧ Aside0 (Below w.heap.size w wc))
    case first =>
     have H := HC6.out; clear HC6
     revert H; refine ob_ fun t225 A8 H => ?_
     obtain rfl | rfl := bt_ t225
     ·replace H := it_ H
      revert H; refine ob_ fun t226 A10 H => ?_
      have H' := sd_ H; clear H; obtain ⟨z11_0, z11_1, z11_2, z11_3, f11_0, f11_1, f11_2, f11_3⟩ := bf4_ BK224.out; go_wp2_with (first | ((with_reducible refine gate_callee (f := 49) rfl ?_); refine goesL_ (some 19) rfl rfl Tryd.func49 (by kernel_rfl) rfl #[.agg #[.int .i64 a0_0, .slice A0_1 l0_1.length c0_1, .slice A0_2 l0_2.length c0_2, .slice A0_3 l0_3.length c0_3], .int .i64 a1, .int .i64 x7_1] rfl la_ ?_; (with_reducible refine (spec_l1Le.calls a0_0 _ _ l0_1 _ _ l0_2 _ _ l0_3 a1 x7_1 true _ (kc_ HR0_1.out HB.out) HC0_1.out (kc_ HR0_2.out HB.out) HC0_2.out (kc_ HR0_3.out HB.out) HC0_3.out A8.out).mono ?_); rintro e w12 ⟨rfl, hb⟩; refine ⟨_, rfl, ?_⟩; replace BK224 := sd_ (bb_ BK224.out hb); replace HB := sd_ (below_step (bw1_ HB.out GE224.out) hb); (try clear hb); obtain ⟨z13_0, z13_1, z13_2, z13_3, f13_0, f13_1, f13_2, f13_3⟩ := bf4_ BK224.out) | (go_at_call 49; (with_reducible refine (spec_l1Le.calls a0_0 _ _ l0_1 _ _ l0_2 _ _ l0_3 a2 x7_1 t226 _ (kc_ HR0_1.out HB.out) HC0_1.out (kc_ HR0_2.out HB.out) HC0_2.out (kc_ HR0_3.out HB.out) HC0_3.out A10.out).mono ?_); rintro e w14 ⟨rfl, hb⟩; replace BK224 := sd_ (bb_ BK224.out hb); replace HB := sd_ (below_step (bw1_ HB.out GE224.out) hb); (try clear hb))); go_meet
      case rel => exact ⟨_, (t226), sm_, H', ⟨by have := HK1.out; first | omega | exact Nat.le_refl _⟩, ⟨bz_ BK224.out⟩, ⟨bw1_ HB.out GE224.out⟩⟩
     replace H := if_ H; have H' := sd_ H; clear H; obtain ⟨z15_0, z15_1, z15_2, z15_3, f15_0, f15_1, f15_2, f15_3⟩ := bf4_ BK224.out; go_wp2_with (first | ((with_reducible refine gate_callee (f := 49) rfl ?_); refine goesL_ (some 19) rfl rfl Tryd.func49 (by kernel_rfl) rfl #[.agg #[.int .i64 a0_0, .slice A0_1 l0_1.length c0_1, .slice A0_2 l0_2.length c0_2, .slice A0_3 l0_3.length c0_3], .int .i64 a1, .int .i64 x7_1] rfl la_ ?_; (with_reducible refine (spec_l1Le.calls a0_0 _ _ l0_1 _ _ l0_2 _ _ l0_3 a1 x7_1 false _ (kc_ HR0_1.out HB.out) HC0_1.out (kc_ HR0_2.out HB.out) HC0_2.out (kc_ HR0_3.out HB.out) HC0_3.out A8.out).mono ?_); rintro e w16 ⟨rfl, hb⟩; refine ⟨_, rfl, ?_⟩; replace BK224 := sd_ (bb_ BK224.out hb); replace HB := sd_ (below_step (bw1_ HB.out GE224.out) hb); (try clear hb))); go_meet
     case rel => exact ⟨_, (false), sm_, H', ⟨by have := HK1.out; first | omega | exact Nat.le_refl _⟩, ⟨bz_ BK224.out⟩, ⟨bw1_ HB.out GE224.out⟩⟩
    case rest =>
     clear HC6; (try clear p2); (try clear c5); (try clear c5b0); (try clear c6); (try clear z7_0 z7_1 z7_2 z7_3 f7_0 f7_1 f7_2 f7_3); (try clear p2); obtain ⟨kq, x8_5, rfl, HA, HJ5, BK224, HB⟩ := hcut
     cases kq with
     | zero => exact absurd HA.out (by simp [spec_l1Join.j1])
     | succ kj5 =>
      have H := HA.out; clear HA; simp only [spec_l1Join.j1] at H; have H' := sd_ H; clear H; go_wp2
      go_loopg [8, 9] kj5 (fun kq v8 v9 w' => ∃ (x8_3 : Bool) (x9_3 : Int), v8 = .bool x8_3 ∧ v9 = .int .i64 x9_3 ∧ Aside0 (spec_l1Join.l1 kq a1 a2 x7_1 x8_3 x9_3 a0_0 l0_1 l0_2 l0_3 = some r) ∧ Aside0 (kq ≤ kj5) ∧ Aside0 (w'.heap[gb224]? = some (.cells #[.int .i64 a0_0, (.slice A0_1 l0_1.length c0_1), (.slice A0_2 l0_2.length c0_2), (.slice A0_3 l0_3.length c0_3)] 28 (0, 0))) ∧ Aside0 (Below w.heap.size w w'))
      case atStart => exact ⟨(x8_5), (0), sm_, sm_, H', ⟨Nat.le_refl _⟩, ⟨bz_ BK224.out⟩, ⟨bw1_ HB.out GE224.out⟩⟩
      case round =>
       clear H'; (try clear p2); (try clear c5); (try clear c5b0); (try clear c6); (try clear z7_0 z7_1 z7_2 z7_3 f7_0 f7_1 f7_2 f7_3); (try clear p2); obtain ⟨x8_3, x9_3, rfl, rfl, HA, HK3, BK224, HB⟩ := hrel
       cases gk with
       | zero => exact absurd HA.out (by simp [spec_l1Join.l1])
       | succ k3 =>
        have H := HA.out; clear HA; simp only [spec_l1Join.l1] at H; have HC17 := sd_ H; clear H; go_upto_region 6 with (fail)
        go_cut [32] (fun v32 wc => ∃ (kq : Nat) (x32_16 : Bool), v32 = .bool x32_16 ∧ Aside0 (spec_l1Join.j3 kq a1 a2 x7_1 x8_3 x9_3 x32_16 a0_0 l0_1 l0_2 l0_3 = some r) ∧ Aside0 (kq ≤ k3) ∧ Aside0 (wc.heap[gb224]? = some (.cells #[.int .i64 a0_0, (.slice A0_1 l0_1.length c0_1), (.slice A0_2 l0_2.length c0_2), (.slice A0_3 l0_3.length c0_3)] 28 (0, 0))) ∧ Aside0 (Below w.heap.size w wc))
        case first =>
         have H := HC17.out; clear HC17; revert H; refine ic_ (fun c18b0 H => ?_) (fun c18b0 H => ?_)
         ·(first | rw [c18b0] | (simp only [i64_w, i32_w]; rw [c18b0]) | skip); have H' := sd_ H; clear H; obtain ⟨z19_0, z19_1, z19_2, z19_3, f19_0, f19_1, f19_2, f19_3⟩ := bf4_ BK224.out; go_wp2; go_meet
          case rel => exact ⟨_, (x8_3), sm_, H', ⟨by have := HK1.out; have := HJ5.out; have := HK3.out; first | omega | exact Nat.le_refl _⟩, ⟨bz_ BK224.out⟩, ⟨bw1_ HB.out GE224.out⟩⟩
         (first | rw [c18b0] | (simp only [i64_w, i32_w]; rw [c18b0]) | skip); have H' := sd_ H; clear H; obtain ⟨z20_0, z20_1, z20_2, z20_3, f20_0, f20_1, f20_2, f20_3⟩ := bf4_ BK224.out; go_wp2; go_meet
         case rel => exact ⟨_, (false), sm_, H', ⟨by have := HK1.out; have := HJ5.out; have := HK3.out; first | omega | exact Nat.le_refl _⟩, ⟨bz_ BK224.out⟩, ⟨bw1_ HB.out GE224.out⟩⟩
        case rest =>
         clear HC17; (try clear p2); (try clear c5); (try clear c5b0); (try clear c6); (try clear z7_0 z7_1 z7_2 z7_3 f7_0 f7_1 f7_2 f7_3); (try clear p2); obtain ⟨kq, x32_16, rfl, HA, HJ16, BK224, HB⟩ := hcut
         cases kq with
         | zero => exact absurd HA.out (by simp [spec_l1Join.j3])
         | succ kj16 =>
          have H := HA.out; clear HA; simp only [spec_l1Join.j3] at H; obtain rfl | rfl := bt_ x32_16
          ·replace H := it_ H
           revert H; refine ob_ fun t227 A22 H => ?_
           obtain rfl | rfl := bt_ t227
           ·replace H := it_ H
            revert H; refine ob_ fun t228 A24 H => ?_
            obtain rfl | rfl := bt_ t228
            ·replace H := it_ H
             revert H; refine ob_ fun t229 A26 H => ?_
             have H' := sd_ H; clear H; obtain ⟨z27_0, z27_1, z27_2, z27_3, f27_0, f27_1, f27_2, f27_3⟩ := bf4_ BK224.out; go_wp2_with (first | ((with_reducible refine gate_callee (f := 49) rfl ?_); refine goesL_ (some 38) rfl rfl Tryd.func49 (by kernel_rfl) rfl #[.agg #[.int .i64 a0_0, .slice A0_1 l0_1.length c0_1, .slice A0_2 l0_2.length c0_2, .slice A0_3 l0_3.length c0_3], .int .i64 a1, .int .i64 x9_3] rfl la_ ?_; (with_reducible refine (spec_l1Le.calls a0_0 _ _ l0_1 _ _ l0_2 _ _ l0_3 a1 x9_3 true _ (kc_ HR0_1.out HB.out) HC0_1.out (kc_ HR0_2.out HB.out) HC0_2.out (kc_ HR0_3.out HB.out) HC0_3.out A22.out).mono ?_); rintro e w28 ⟨rfl, hb⟩; refine ⟨_, rfl, ?_⟩; replace BK224 := sd_ (bb_ BK224.out hb); replace HB := sd_ (below_step (bw1_ HB.out GE224.out) hb); (try clear hb); obtain ⟨z29_0, z29_1, z29_2, z29_3, f29_0, f29_1, f29_2, f29_3⟩ := bf4_ BK224.out) | (go_at_call 49; (with_reducible refine (spec_l1Le.calls a0_0 _ _ l0_1 _ _ l0_2 _ _ l0_3 a2 x9_3 true _ (kc_ HR0_1.out HB.out) HC0_1.out (kc_ HR0_2.out HB.out) HC0_2.out (kc_ HR0_3.out HB.out) HC0_3.out A24.out).mono ?_); rintro e w30 ⟨rfl, hb⟩; replace BK224 := sd_ (bb_ BK224.out hb); replace HB := sd_ (below_step (bw1_ HB.out GE224.out) hb); (try clear hb); obtain ⟨z31_0, z31_1, z31_2, z31_3, f31_0, f31_1, f31_2, f31_3⟩ := bf4_ BK224.out) | (go_at_call 49; (with_reducible refine (spec_l1Le.calls a0_0 _ _ l0_1 _ _ l0_2 _ _ l0_3 x7_1 x9_3 t229 _ (kc_ HR0_1.out HB.out) HC0_1.out (kc_ HR0_2.out HB.out) HC0_2.out (kc_ HR0_3.out HB.out) HC0_3.out A26.out).mono ?_); rintro e w32 ⟨rfl, hb⟩; replace BK224 := sd_ (bb_ BK224.out hb); replace HB := sd_ (below_step (bw1_ HB.out GE224.out) hb); (try clear hb))); go_roundg kj16
             case measure => have := HK1.out; have := HJ5.out; have := HK3.out; have := HJ16.out; omega
             case rel => exact ⟨(t229), (wrap64 (x9_3 + 1)), sm_, sm_, H', ⟨by have := HK1.out; have := HJ5.out; have := HK3.out; have := HJ16.out; omega⟩, ⟨bz_ BK224.out⟩, ⟨bw1_ HB.out GE224.out⟩⟩
            replace H := if_ H; have H' := sd_ H; clear H; obtain ⟨z33_0, z33_1, z33_2, z33_3, f33_0, f33_1, f33_2, f33_3⟩ := bf4_ BK224.out; go_wp2_with (first | ((with_reducible refine gate_callee (f := 49) rfl ?_); refine goesL_ (some 38) rfl rfl Tryd.func49 (by kernel_rfl) rfl #[.agg #[.int .i64 a0_0, .slice A0_1 l0_1.length c0_1, .slice A0_2 l0_2.length c0_2, .slice A0_3 l0_3.length c0_3], .int .i64 a1, .int .i64 x9_3] rfl la_ ?_; (with_reducible refine (spec_l1Le.calls a0_0 _ _ l0_1 _ _ l0_2 _ _ l0_3 a1 x9_3 true _ (kc_ HR0_1.out HB.out) HC0_1.out (kc_ HR0_2.out HB.out) HC0_2.out (kc_ HR0_3.out HB.out) HC0_3.out A22.out).mono ?_); rintro e w34 ⟨rfl, hb⟩; refine ⟨_, rfl, ?_⟩; replace BK224 := sd_ (bb_ BK224.out hb); replace HB := sd_ (below_step (bw1_ HB.out GE224.out) hb); (try clear hb); obtain ⟨z35_0, z35_1, z35_2, z35_3, f35_0, f35_1, f35_2, f35_3⟩ := bf4_ BK224.out) | (go_at_call 49; (with_reducible refine (spec_l1Le.calls a0_0 _ _ l0_1 _ _ l0_2 _ _ l0_3 a2 x9_3 false _ (kc_ HR0_1.out HB.out) HC0_1.out (kc_ HR0_2.out HB.out) HC0_2.out (kc_ HR0_3.out HB.out) HC0_3.out A24.out).mono ?_); rintro e w36 ⟨rfl, hb⟩; replace BK224 := sd_ (bb_ BK224.out hb); replace HB := sd_ (below_step (bw1_ HB.out GE224.out) hb); (try clear hb))); go_roundg kj16
            case measure => have := HK1.out; have := HJ5.out; have := HK3.out; have := HJ16.out; omega
            case rel => exact ⟨(true), (wrap64 (x9_3 + 1)), sm_, sm_, H', ⟨by have := HK1.out; have := HJ5.out; have := HK3.out; have := HJ16.out; omega⟩, ⟨bz_ BK224.out⟩, ⟨bw1_ HB.out GE224.out⟩⟩
           replace H := if_ H; have H' := sd_ H; clear H; obtain ⟨z37_0, z37_1, z37_2, z37_3, f37_0, f37_1, f37_2, f37_3⟩ := bf4_ BK224.out; go_wp2_with (first | ((with_reducible refine gate_callee (f := 49) rfl ?_); refine goesL_ (some 38) rfl rfl Tryd.func49 (by kernel_rfl) rfl #[.agg #[.int .i64 a0_0, .slice A0_1 l0_1.length c0_1, .slice A0_2 l0_2.length c0_2, .slice A0_3 l0_3.length c0_3], .int .i64 a1, .int .i64 x9_3] rfl la_ ?_; (with_reducible refine (spec_l1Le.calls a0_0 _ _ l0_1 _ _ l0_2 _ _ l0_3 a1 x9_3 false _ (kc_ HR0_1.out HB.out) HC0_1.out (kc_ HR0_2.out HB.out) HC0_2.out (kc_ HR0_3.out HB.out) HC0_3.out A22.out).mono ?_); rintro e w38 ⟨rfl, hb⟩; refine ⟨_, rfl, ?_⟩; replace BK224 := sd_ (bb_ BK224.out hb); replace HB := sd_ (below_step (bw1_ HB.out GE224.out) hb); (try clear hb))); go_roundg kj16
           case measure => have := HK1.out; have := HJ5.out; have := HK3.out; have := HJ16.out; omega
           case rel => exact ⟨(true), (wrap64 (x9_3 + 1)), sm_, sm_, H', ⟨by have := HK1.out; have := HJ5.out; have := HK3.out; have := HJ16.out; omega⟩, ⟨bz_ BK224.out⟩, ⟨bw1_ HB.out GE224.out⟩⟩
          replace H := if_ H; obtain rfl | rfl := bt_ x8_3
          ·replace H := it_ H; obtain rfl := Option.some.inj H; go_wp2; go_ret; exact ⟨an_, bw1_ HB.out GE224.out⟩
          replace H := if_ H; have H' := sd_ H; clear H; go_wp2; go_roundg kj16
          case measure => have := HK1.out; have := HJ5.out; have := HK3.out; have := HJ16.out; omega
          case rel => exact ⟨(wrap64 (x7_1 + 1)), sm_, H', ⟨by have := HK1.out; have := HJ5.out; have := HK3.out; have := HJ16.out; omega⟩, ⟨bz_ BK224.out⟩, ⟨bw1_ HB.out GE224.out⟩⟩
   obtain rfl := Option.some.inj H; obtain ⟨z40_0, z40_1, z40_2, z40_3, f40_0, f40_1, f40_2, f40_3⟩ := bf4_ BK224.out; go_wp2; go_ret; exact ⟨an_, bw1_ HB.out GE224.out⟩

end Go.Proofs.YtmcepfimcedocaaDoor.P
end

section
/-! shorter words -/
namespace Go.Proofs.YtmcepfimcedocaaDoor.P
open Go.RowKit Go.Proofs.YtmcepfimcedocaaDoorW.PrintWords Go.Proofs.YtmcepfimcedocaaDoorW.PrintLast Go.Proofs.YtmcepfimcedocaaDoorW.PrintMore
attribute [local go_sem] max2_int min2_int max_two min_two max_three min_three max_four min_four   -- for this text's walks alone
set_option linter.unusedVariables false
set_option linter.unusedSimpArgs false

/-! ### spec_l1Two: function 36 -/
def spec_l1Two.f (k : Nat) (a0_0 : Int) (l0_1 : List Int) (l0_2 : List Int) (l0_3 : List Bool) (a1 : Int) (a2 : Int) : Option (Bool) := (spec_l1Add.f a0_0 l0_1 l0_2 l0_3 a1 a2).bind fun t231 => ((spec_l1Add.f a0_0 l0_1 l0_2 l0_3 a2 a1).bind fun t232 => (if t231 = t232 then (if a1 = a2 then ((spec_l1Join.f k a0_0 l0_1 l0_2 l0_3 a1 a2).bind fun t233 => (some (decide (t233 ≥ 0)))) else ((spec_l1Le.f a0_0 l0_1 l0_2 l0_3 a1 a2).bind fun t234 => (if t234 = true then ((spec_l1Le.f a0_0 l0_1 l0_2 l0_3 a2 a1).bind fun t235 => (if t235 = true then (some false) else ((spec_l1Join.f k a0_0 l0_1 l0_2 l0_3 a1 a2).bind fun t236 => (some (decide (t236 ≥ 0)))))) else ((spec_l1Join.f k a0_0 l0_1 l0_2 l0_3 a1 a2).bind fun t237 => (some (decide (t237 ≥ 0))))))) else (some false)))
set_option maxHeartbeats 8000000 in
set_option maxRecDepth 100000 in
theorem spec_l1Two.calls (k : Nat) (a0_0 : Int) (A0_1 : Option Addr) (c0_1 : Nat) (l0_1 : List Int) (A0_2 : Option Addr) (c0_2 : Nat) (l0_2 : List Int) (A0_3 : Option Addr) (c0_3 : Nat) (l0_3 : List Bool) (a1 : Int) (a2 : Int) (r : Bool) (w : World) (hr0_1 : Kd.C (Kd.int .i64) w A0_1 l0_1.length l0_1) (hc0_1 : l0_1.length ≤ c0_1) (hr0_2 : Kd.C (Kd.int .i64) w A0_2 l0_2.length l0_2) (hc0_2 : l0_2.length ≤ c0_2) (hr0_3 : Kd.C Kd.bool w A0_3 l0_3.length l0_3) (hc0_3 : l0_3.length ≤ c0_3) (h : spec_l1Two.f k a0_0 l0_1 l0_2 l0_3 a1 a2 = some r) :
  Calls Tryd.prog 36 #[.agg #[.int .i64 a0_0, .slice A0_1 l0_1.length c0_1, .slice A0_2 l0_2.length c0_2, .slice A0_3 l0_3.length c0_3], .int .i64 a1, .int .i64 a2] w fun e w' => e = .returned (.bool r) ∧ Below w.heap.size w w' := by
 have hu28 := Tryd.underlying28; have HR0_1 := sd_ hr0_1; have HC0_1 := sd_ hc0_1; clear hr0_1 hc0_1; have HR0_2 := sd_ hr0_2; have HC0_2 := sd_ hc0_2; clear hr0_2 hc0_2; have HR0_3 := sd_ hr0_3; have HC0_3 := sd_ hc0_3; clear hr0_3 hc0_3; have HB := sd_ (Below.refl w.heap.size w); have H : ((spec_l1Add.f a0_0 l0_1 l0_2 l0_3 a1 a2).bind fun t231 => ((spec_l1Add.f a0_0 l0_1 l0_2 l0_3 a2 a1).bind fun t232 => (if t231 = t232 then (if a1 = a2 then ((spec_l1Join.f k a0_0 l0_1 l0_2 l0_3 a1 a2).bind fun t233 => (some (decide (t233 ≥ 0)))) else ((spec_l1Le.f a0_0 l0_1 l0_2 l0_3 a1 a2).bind fun t234 => (if t234 = true then ((spec_l1Le.f a0_0 l0_1 l0_2 l0_3 a2 a1).bind fun t235 => (if t235 = true then (some false) else ((spec_l1Join.f k a0_0 l0_1 l0_2 l0_3 a1 a2).bind fun t236 => (some (decide (t236 ≥ 0)))))) else ((spec_l1Join.f k a0_0 l0_1 l0_2 l0_3 a1 a2).bind fun t237 => (some (decide (t237 ≥ 0))))))) else (some false)))) = some r := h; clear h
 revert H; refine ob_ fun t231 A4 H => ?_
 revert H; refine ob_ fun t232 A5 H => ?_
 by_cases c6 : t231 = t232
 ·rw [if_pos c6] at H; have c6b0 : (t231 == t232) = true := beq_iff_eq.mpr c6; have c6b1 : (t231 != t232) = false := bne_eq_false_iff_eq.mpr c6; clear c6; by_cases c7 : a1 = a2
  ·rw [if_pos c7] at H; have c7b0 : (a1 == a2) = true := beq_iff_eq.mpr c7; have c7b1 : (a1 != a2) = false := bne_eq_false_iff_eq.mpr c7; clear c7
   revert H; refine ob_ fun t233 A8 H => ?_
   obtain rfl := Option.some.inj H; go_enter Tryd.func36, Tryd.ntmps36
   try go_wp2_with (first | ((with_reducible refine gate_dst (N := 3) rfl ?_); refine bx_ (N := 3) (cs := #[.int .i64 a0_0, .slice A0_1 l0_1.length c0_1, .slice A0_2 l0_2.length c0_2, .slice A0_3 l0_3.length c0_3]) (t := 28) ?_; intro gb230 hg w9 hbox hb; have BK230 := sd_ (hbox); have GW230 := sd_ (gs_ hg (bw0_ HB.out)); have GE230 := sd_ (gs_ hg (bw0_ HB.out)); replace HB := sd_ (below_step (bw0_ HB.out) hb); clear hb hbox hg))
   refine qb_region (by kernel_rfl) (by kernel_rfl) ?_
   have HQ := fun (wq : World) (hq : Below w9.heap.size w9 wq) => below_step HB.out hq
   repeat ((first | (apply qb_skip; (focus rfl)) | (refine qb_callN 10 rfl ?_; apply qb_call 10 rfl Tryd.func47 (by kernel_rfl) rfl rfl; (focus rfl); (focus (exact fun wq9 hb9 => qb_b hb9 (spec_l1Add.calls a0_0 _ _ l0_1 _ _ l0_2 _ _ l0_3 a1 a2 t231 _ (qy_ HR0_1 (HQ _ hb9)) HC0_1.out (qy_ HR0_2 (HQ _ hb9)) HC0_2.out (qy_ HR0_3 (HQ _ hb9)) HC0_3.out A4.out))); (focus (rfl))) | (refine qb_callN 14 rfl ?_; apply qb_call 14 rfl Tryd.func47 (by kernel_rfl) rfl rfl; (focus rfl); (focus (exact fun wq9 hb9 => qb_b hb9 (spec_l1Add.calls a0_0 _ _ l0_1 _ _ l0_2 _ _ l0_3 a2 a1 t232 _ (qy_ HR0_1 (HQ _ hb9)) HC0_1.out (qy_ HR0_2 (HQ _ hb9)) HC0_2.out (qy_ HR0_3 (HQ _ hb9)) HC0_3.out A5.out))); (focus (rfl))) | (refine qb_callN 39 rfl ?_; apply qb_call 39 rfl Tryd.func69 (by kernel_rfl) rfl rfl; (focus rfl); (focus (exact fun wq9 hb9 => qb_b hb9 (spec_l1Join.calls k a0_0 _ _ l0_1 _ _ l0_2 _ _ l0_3 a1 a2 t233 _ (qy_ HR0_1 (HQ _ hb9)) HC0_1.out (qy_ HR0_2 (HQ _ hb9)) HC0_2.out (qy_ HR0_3 (HQ _ hb9)) HC0_3.out A8.out))); (focus (rfl))) | (apply qb_val; (focus rfl); (focus (intro wq9 _; go_simp; with_reducible rfl))) | (apply qb_val; (focus rfl); (focus (intro wq9 hb9_; have hb9 : Below w9.heap.size w9 wq9 := hb9_; have BK230 := sd_ (blk_below BK230.out hb9); obtain ⟨hc9_230_0, hc9_230_1, hc9_230_2, hc9_230_3⟩ := bc4_ BK230.out; go_simp; with_reducible rfl)))); (focus (simp only [Act.put, List.setIfInBounds_toArray, List.set_cons_zero, List.set_cons_succ, i64_w, i32_w]; rfl)))
   refine qb_nil ?_; intro w13 hb; replace BK230 := sd_ (blk_below BK230.out hb); replace HB := sd_ (below_step HB.out hb); clear hb; (try clear HQ)
   try go_wp2
   go_ret; exact ⟨an_, bw1_ HB.out GE230.out⟩
  rw [if_neg c7] at H; have c7b0 : (a1 == a2) = false := beq_eq_false_iff_ne.mpr c7; have c7b1 : (a1 != a2) = true := bne_iff_ne.mpr c7
  revert H; refine ob_ fun t234 A14 H => ?_
  obtain rfl | rfl := bt_ t234
  ·replace H := it_ H
   revert H; refine ob_ fun t235 A16 H => ?_
   obtain rfl | rfl := bt_ t235
   ·replace H := it_ H; obtain rfl := Option.some.inj H; go_enter Tryd.func36, Tryd.ntmps36
    try go_wp2_with (first | ((with_reducible refine gate_dst (N := 3) rfl ?_); refine bx_ (N := 3) (cs := #[.int .i64 a0_0, .slice A0_1 l0_1.length c0_1, .slice A0_2 l0_2.length c0_2, .slice A0_3 l0_3.length c0_3]) (t := 28) ?_; intro gb230 hg w18 hbox hb; have BK230 := sd_ (hbox); have GW230 := sd_ (gs_ hg (bw0_ HB.out)); have GE230 := sd_ (gs_ hg (bw0_ HB.out)); replace HB := sd_ (below_step (bw0_ HB.out) hb); clear hb hbox hg))
    refine qb_region (by kernel_rfl) (by kernel_rfl) ?_
    have HQ := fun (wq : World) (hq : Below w18.heap.size w18 wq) => below_step HB.out hq
    repeat ((first | (apply qb_skip; (focus rfl)) | (refine qb_callN 10 rfl ?_; apply qb_call 10 rfl Tryd.func47 (by kernel_rfl) rfl rfl; (focus rfl); (focus (exact fun wq9 hb9 => qb_b hb9 (spec_l1Add.calls a0_0 _ _ l0_1 _ _ l0_2 _ _ l0_3 a1 a2 t231 _ (qy_ HR0_1 (HQ _ hb9)) HC0_1.out (qy_ HR0_2 (HQ _ hb9)) HC0_2.out (qy_ HR0_3 (HQ _ hb9)) HC0_3.out A4.out))); (focus (rfl))) | (refine qb_callN 14 rfl ?_; apply qb_call 14 rfl Tryd.func47 (by kernel_rfl) rfl rfl; (focus rfl); (focus (exact fun wq9 hb9 => qb_b hb9 (spec_l1Add.calls a0_0 _ _ l0_1 _ _ l0_2 _ _ l0_3 a2 a1 t232 _ (qy_ HR0_1 (HQ _ hb9)) HC0_1.out (qy_ HR0_2 (HQ _ hb9)) HC0_2.out (qy_ HR0_3 (HQ _ hb9)) HC0_3.out A5.out))); (focus (rfl))) | (refine qb_callN 24 rfl ?_; apply qb_call 24 rfl Tryd.func49 (by kernel_rfl) rfl rfl; (focus rfl); (focus (exact fun wq9 hb9 => qb_b hb9 (spec_l1Le.calls a0_0 _ _ l0_1 _ _ l0_2 _ _ l0_3 a1 a2 true _ (qy_ HR0_1 (HQ _ hb9)) HC0_1.out (qy_ HR0_2 (HQ _ hb9)) HC0_2.out (qy_ HR0_3 (HQ _ hb9)) HC0_3.out A14.out))); (focus (rfl))) | (refine qb_callN 31 rfl ?_; apply qb_call 31 rfl Tryd.func49 (by kernel_rfl) rfl rfl; (focus rfl); (focus (exact fun wq9 hb9 => qb_b hb9 (spec_l1Le.calls a0_0 _ _ l0_1 _ _ l0_2 _ _ l0_3 a2 a1 true _ (qy_ HR0_1 (HQ _ hb9)) HC0_1.out (qy_ HR0_2 (HQ _ hb9)) HC0_2.out (qy_ HR0_3 (HQ _ hb9)) HC0_3.out A16.out))); (focus (rfl))) | (apply qb_val; (focus rfl); (focus (intro wq9 _; go_simp; with_reducible rfl))) | (apply qb_val; (focus rfl); (focus (intro wq9 hb9_; have hb9 : Below w18.heap.size w18 wq9 := hb9_; have BK230 := sd_ (blk_below BK230.out hb9); obtain ⟨hc9_230_0, hc9_230_1, hc9_230_2, hc9_230_3⟩ := bc4_ BK230.out; go_simp; with_reducible rfl)))); (focus (simp only [Act.put, List.setIfInBounds_toArray, List.set_cons_zero, List.set_cons_succ, i64_w, i32_w]; rfl)))
    refine qb_nil ?_; intro w23 hb; replace BK230 := sd_ (blk_below BK230.out hb); replace HB := sd_ (below_step HB.out hb); clear hb; (try clear HQ)
    try go_wp2
    go_ret; exact ⟨an_, bw1_ HB.out GE230.out⟩
   replace H := if_ H
   revert H; refine ob_ fun t236 A24 H => ?_
   obtain rfl := Option.some.inj H; go_enter Tryd.func36, Tryd.ntmps36
   try go_wp2_with (first | ((with_reducible refine gate_dst (N := 3) rfl ?_); refine bx_ (N := 3) (cs := #[.int .i64 a0_0, .slice A0_1 l0_1.length c0_1, .slice A0_2 l0_2.length c0_2, .slice A0_3 l0_3.length c0_3]) (t := 28) ?_; intro gb230 hg w25 hbox hb; have BK230 := sd_ (hbox); have GW230 := sd_ (gs_ hg (bw0_ HB.out)); have GE230 := sd_ (gs_ hg (bw0_ HB.out)); replace HB := sd_ (below_step (bw0_ HB.out) hb); clear hb hbox hg))
   refine qb_region (by kernel_rfl) (by kernel_rfl) ?_
   have HQ := fun (wq : World) (hq : Below w25.heap.size w25 wq) => below_step HB.out hq
   repeat ((first | (apply qb_skip; (focus rfl)) | (refine qb_callN 10 rfl ?_; apply qb_call 10 rfl Tryd.func47 (by kernel_rfl) rfl rfl; (focus rfl); (focus (exact fun wq9 hb9 => qb_b hb9 (spec_l1Add.calls a0_0 _ _ l0_1 _ _ l0_2 _ _ l0_3 a1 a2 t231 _ (qy_ HR0_1 (HQ _ hb9)) HC0_1.out (qy_ HR0_2 (HQ _ hb9)) HC0_2.out (qy_ HR0_3 (HQ _ hb9)) HC0_3.out A4.out))); (focus (rfl))) | (refine qb_callN 14 rfl ?_; apply qb_call 14 rfl Tryd.func47 (by kernel_rfl) rfl rfl; (focus rfl); (focus (exact fun wq9 hb9 => qb_b hb9 (spec_l1Add.calls a0_0 _ _ l0_1 _ _ l0_2 _ _ l0_3 a2 a1 t232 _ (qy_ HR0_1 (HQ _ hb9)) HC0_1.out (qy_ HR0_2 (HQ _ hb9)) HC0_2.out (qy_ HR0_3 (HQ _ hb9)) HC0_3.out A5.out))); (focus (rfl))) | (refine qb_callN 24 rfl ?_; apply qb_call 24 rfl Tryd.func49 (by kernel_rfl) rfl rfl; (focus rfl); (focus (exact fun wq9 hb9 => qb_b hb9 (spec_l1Le.calls a0_0 _ _ l0_1 _ _ l0_2 _ _ l0_3 a1 a2 true _ (qy_ HR0_1 (HQ _ hb9)) HC0_1.out (qy_ HR0_2 (HQ _ hb9)) HC0_2.out (qy_ HR0_3 (HQ _ hb9)) HC0_3.out A14.out))); (focus (rfl))) | (refine qb_callN 31 rfl ?_; apply qb_call 31 rfl Tryd.func49 (by kernel_rfl) rfl rfl; (focus rfl); (focus (exact fun wq9 hb9 => qb_b hb9 (spec_l1Le.calls a0_0 _ _ l0_1 _ _ l0_2 _ _ l0_3 a2 a1 false _ (qy_ HR0_1 (HQ _ hb9)) HC0_1.out (qy_ HR0_2 (HQ _ hb9)) HC0_2.out (qy_ HR0_3 (HQ _ hb9)) HC0_3.out A16.out))); (focus (rfl))) | (refine qb_callN 39 rfl ?_; apply qb_call 39 rfl Tryd.func69 (by kernel_rfl) rfl rfl; (focus rfl); (focus (exact fun wq9 hb9 => qb_b hb9 (spec_l1Join.calls k a0_0 _ _ l0_1 _ _ l0_2 _ _ l0_3 a1 a2 t236 _ (qy_ HR0_1 (HQ _ hb9)) HC0_1.out (qy_ HR0_2 (HQ _ hb9)) HC0_2.out (qy_ HR0_3 (HQ _ hb9)) HC0_3.out A24.out))); (focus (rfl))) | (apply qb_val; (focus rfl); (focus (intro wq9 _; go_simp; with_reducible rfl))) | (apply qb_val; (focus rfl); (focus (intro wq9 hb9_; have hb9 : Below w25.heap.size w25 wq9 := hb9_; have BK230 := sd_ (blk_below BK230.out hb9); obtain ⟨hc9_230_0, hc9_230_1, hc9_230_2, hc9_230_3⟩ := bc4_ BK230.out; go_simp; with_reducible rfl)))); (focus (simp only [Act.put, List.setIfInBounds_toArray, List.set_cons_zero, List.set_cons_succ, i64_w, i32_w]; rfl)))
   refine qb_nil ?_; intro w31 hb; replace BK230 := sd_ (blk_below BK230.out hb); replace HB := sd_ (below_step HB.out hb); clear hb; (try clear HQ)
   try go_wp2
   go_ret; exact ⟨an_, bw1_ HB.out GE230.out⟩
  replace H := if_ H
  revert H; refine ob_ fun t237 A32 H => ?_
  obtain rfl := Option.some.inj H; go_enter Tryd.func36, Tryd.ntmps36
  try go_wp2_with (first | ((with_reducible refine gate_dst (N := 3) rfl ?_); refine bx_ (N := 3) (cs := #[.int .i64 a0_0, .slice A0_1 l0_1.length c0_1, .slice A0_2 l0_2.length c0_2, .slice A0_3 l0_3.length c0_3]) (t := 28) ?_; intro gb230 hg w33 hbox hb; have BK230 := sd_ (hbox); have GW230 := sd_ (gs_ hg (bw0_ HB.out)); have GE230 := sd_ (gs_ hg (bw0_ HB.out)); replace HB := sd_ (below_step (bw0_ HB.out) hb); clear hb hbox hg))
  refine qb_region (by kernel_rfl) (by kernel_rfl) ?_
  have HQ := fun (wq : World) (hq : Below w33.heap.size w33 wq) => below_step HB.out hq
  repeat ((first | (apply qb_skip; (focus rfl)) | (refine qb_callN 10 rfl ?_; apply qb_call 10 rfl Tryd.func47 (by kernel_rfl) rfl rfl; (focus rfl); (focus (exact fun wq9 hb9 => qb_b hb9 (spec_l1Add.calls a0_0 _ _ l0_1 _ _ l0_2 _ _ l0_3 a1 a2 t231 _ (qy_ HR0_1 (HQ _ hb9)) HC0_1.out (qy_ HR0_2 (HQ _ hb9)) HC0_2.out (qy_ HR0_3 (HQ _ hb9)) HC0_3.out A4.out))); (focus (rfl))) | (refine qb_callN 14 rfl ?_; apply qb_call 14 rfl Tryd.func47 (by kernel_rfl) rfl rfl; (focus rfl); (focus (exact fun wq9 hb9 => qb_b hb9 (spec_l1Add.calls a0_0 _ _ l0_1 _ _ l0_2 _ _ l0_3 a2 a1 t232 _ (qy_ HR0_1 (HQ _ hb9)) HC0_1.out (qy_ HR0_2 (HQ _ hb9)) HC0_2.out (qy_ HR0_3 (HQ _ hb9)) HC0_3.out A5.out))); (focus (rfl))) | (refine qb_callN 24 rfl ?_; apply qb_call 24 rfl Tryd.func49 (by kernel_rfl) rfl rfl; (focus rfl); (focus (exact fun wq9 hb9 => qb_b hb9 (spec_l1Le.calls a0_0 _ _ l0_1 _ _ l0_2 _ _ l0_3 a1 a2 false _ (qy_ HR0_1 (HQ _ hb9)) HC0_1.out (qy_ HR0_2 (HQ _ hb9)) HC0_2.out (qy_ HR0_3 (HQ _ hb9)) HC0_3.out A14.out))); (focus (rfl))) | (refine qb_callN 39 rfl ?_; apply qb_call 39 rfl Tryd.func69 (by kernel_rfl) rfl rfl; (focus rfl); (focus (exact fun wq9 hb9 => qb_b hb9 (spec_l1Join.calls k a0_0 _ _ l0_1 _ _ l0_2 _ _ l0_3 a1 a2 t237 _ (qy_ HR0_1 (HQ _ hb9)) HC0_1.out (qy_ HR0_2 (HQ _ hb9)) HC0_2.out (qy_ HR0_3 (HQ _ hb9)) HC0_3.out A32.out))); (focus (rfl))) | (apply qb_val; (focus rfl); (focus (intro wq9 _; go_simp; with_reducible rfl))) | (apply qb_val; (focus rfl); (focus (intro wq9 hb9_; have hb9 : Below w33.heap.size w33 wq9 := hb9_; have BK230 := sd_ (blk_below BK230.out hb9); obtain ⟨hc9_230_0, hc9_230_1, hc9_230_2, hc9_230_3⟩ := bc4_ BK230.out; go_simp; with_reducible rfl)))); (focus (simp only [Act.put, List.setIfInBounds_toArray, List.set_cons_zero, List.set_cons_succ, i64_w, i32_w]; rfl)))
  refine qb_nil ?_; intro w38 hb; replace BK230 := sd_ (blk_below BK230.out hb); replace HB := sd_ (below_step HB.out hb); clear hb; (try clear HQ)
  try go_wp2
  go_ret; exact ⟨an_, bw1_ HB.out GE230.out⟩
 rw [if_neg c6] at H; have c6b0 : (t231 == t232) = false := beq_eq_false_iff_ne.mpr c6; have c6b1 : (t231 != t232) = true := bne_iff_ne.mpr c6; obtain rfl := Option.some.inj H; go_enter Tryd.func36, Tryd.ntmps36
 try go_wp2_with (first | ((with_reducible refine gate_dst (N := 3) rfl ?_); refine bx_ (N := 3) (cs := #[.int .i64 a0_0, .slice A0_1 l0_1.length c0_1, .slice A0_2 l0_2.length c0_2, .slice A0_3 l0_3.length c0_3]) (t := 28) ?_; intro gb230 hg w39 hbox hb; have BK230 := sd_ (hbox); have GW230 := sd_ (gs_ hg (bw0_ HB.out)); have GE230 := sd_ (gs_ hg (bw0_ HB.out)); replace HB := sd_ (below_step (bw0_ HB.out) hb); clear hb hbox hg))
 refine qb_region (by kernel_rfl) (by kernel_rfl) ?_
 have HQ := fun (wq : World) (hq : Below w39.heap.size w39 wq) => below_step HB.out hq
 repeat ((first | (apply qb_skip; (focus rfl)) | (refine qb_callN 10 rfl ?_; apply qb_call 10 rfl Tryd.func47 (by kernel_rfl) rfl rfl; (focus rfl); (focus (exact fun wq9 hb9 => qb_b hb9 (spec_l1Add.calls a0_0 _ _ l0_1 _ _ l0_2 _ _ l0_3 a1 a2 t231 _ (qy_ HR0_1 (HQ _ hb9)) HC0_1.out (qy_ HR0_2 (HQ _ hb9)) HC0_2.out (qy_ HR0_3 (HQ _ hb9)) HC0_3.out A4.out))); (focus (rfl))) | (refine qb_callN 14 rfl ?_; apply qb_call 14 rfl Tryd.func47 (by kernel_rfl) rfl rfl; (focus rfl); (focus (exact fun wq9 hb9 => qb_b hb9 (spec_l1Add.calls a0_0 _ _ l0_1 _ _ l0_2 _ _ l0_3 a2 a1 t232 _ (qy_ HR0_1 (HQ _ hb9)) HC0_1.out (qy_ HR0_2 (HQ _ hb9)) HC0_2.out (qy_ HR0_3 (HQ _ hb9)) HC0_3.out A5.out))); (focus (rfl))) | (apply qb_val; (focus rfl); (focus (intro wq9 _; go_simp; with_reducible rfl))) | (apply qb_val; (focus rfl); (focus (intro wq9 hb9_; have hb9 : Below w39.heap.size w39 wq9 := hb9_; have BK230 := sd_ (blk_below BK230.out hb9); obtain ⟨hc9_230_0, hc9_230_1, hc9_230_2, hc9_230_3⟩ := bc4_ BK230.out; go_simp; with_reducible rfl)))); (focus (simp only [Act.put, List.setIfInBounds_toArray, List.set_cons_zero, List.set_cons_succ, i64_w, i32_w]; rfl)))
 refine qb_nil ?_; intro w42 hb; replace BK230 := sd_ (blk_below BK230.out hb); replace HB := sd_ (below_step HB.out hb); clear hb; (try clear HQ)
 try go_wp2
 go_ret; exact ⟨an_, bw1_ HB.out GE230.out⟩

/-! ### spec_l1Min: function 72 -/
def spec_l1Min.f (a0 : Int) (a1 : Int) : Option (Int) := if a0 < a1 then (some a0) else (some a1)
set_option maxHeartbeats 8000000 in
set_option maxRecDepth 100000 in
theorem spec_l1Min.calls (a0 : Int) (a1 : Int) (r : Int) (w : World) (h : spec_l1Min.f a0 a1 = some r) :
  Calls Tryd.prog 72 #[.int .i64 a0, .int .i64 a1] w fun e w' => e = .returned (.int .i64 r) ∧ Drawn0 w w' := by
 have H : (if a0 < a1 then (some a0) else (some a1)) = some r := h; clear h; revert H; refine ic_ (fun c3b0 H => ?_) (fun c3b0 H => ?_)
 ·obtain rfl := Option.some.inj H; go_enter Tryd.func72, Tryd.ntmps72; go_wp2; go_ret; exact ⟨by first | rfl | (simp; done) | (simp [*]; done), by repeat (first | exact Drawn0.refl _ | apply Drawn0.step)⟩
 obtain rfl := Option.some.inj H; go_enter Tryd.func72, Tryd.ntmps72; go_wp2; go_ret; exact ⟨by first | rfl | (simp; done) | (simp [*]; done), by repeat (first | exact Drawn0.refl _ | apply Drawn0.step)⟩

/-! ### impl_within: function 74 -/
def impl_within.f (a0 : Int) (a1 : Int) (a2 : Int) : Option (Bool) := if a0 ≥ a1 then (some (decide (a0 ≤ a2))) else (some false)
set_option maxHeartbeats 8000000 in
set_option maxRecDepth 100000 in
theorem impl_within.calls (a0 : Int) (a1 : Int) (a2 : Int) (r : Bool) (w : World) (h : impl_within.f a0 a1 a2 = some r) :
  Calls Tryd.prog 74 #[.int .i64 a0, .int .i64 a1, .int .i64 a2] w fun e w' => e = .returned (.bool r) ∧ Drawn0 w w' := by
 have H : (if a0 ≥ a1 then (some (decide (a0 ≤ a2))) else (some false)) = some r := h; clear h; by_cases c4 : a0 ≥ a1
 ·rw [if_pos c4] at H; have c4b0 : decide (a1 ≤ a0) = true := decide_eq_true c4; clear c4; obtain rfl := Option.some.inj H; go_enter Tryd.func74, Tryd.ntmps74; go_wp2; go_ret; exact ⟨by first | rfl | (simp; done) | (simp [*]; done), by repeat (first | exact Drawn0.refl _ | apply Drawn0.step)⟩
 rw [if_neg c4] at H; have c4b0 : decide (a1 ≤ a0) = false := decide_eq_false c4; clear c4; obtain rfl := Option.some.inj H; go_enter Tryd.func74, Tryd.ntmps74; go_wp2; go_ret; exact ⟨by first | rfl | (simp; done) | (simp [*]; done), by repeat (first | exact Drawn0.refl _ | apply Drawn0.step)⟩

end Go.Proofs.YtmcepfimcedocaaDoor.P
end
