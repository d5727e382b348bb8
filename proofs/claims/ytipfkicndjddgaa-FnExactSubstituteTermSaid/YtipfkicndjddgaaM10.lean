-- Several texts in one (wip/tools/merge.py).
import Derived.Test.YtipfkicndjddgaaP0
import Derived.Test.YtipfkicndjddgaaM3
import Derived.Test.YtipfkicndjddgaaPf83
import Derived.Test.YtipfkicndjddgaaM8
import Derived.Test.YtipfkicndjddgaaM2
import Derived.Test.YtipfkicndjddgaaM9
section
namespace Go.Proofs.Ytipfkicndjddgaa.P
open Go.RowKit Go.Proofs.YtipfkicndjddgaaW.PrintWords Go.Proofs.YtipfkicndjddgaaW.PrintLast Go.Proofs.YtipfkicndjddgaaW.PrintMore
attribute [local go_sem] max2_int min2_int max_two min_two max_three min_three max_four min_four   -- for this text's walks alone
set_option linter.unusedVariables false
set_option linter.unusedSimpArgs false

/-! ### spec_IsWritten: function 60 -/
def spec_IsWritten.f (k : Nat) (a0_0 : Int) (a0_1 : Int) (l0_2 : List Int) (l0_3 : List (S40)) : Option (Bool) := (spec_l2Left.f k a0_0 a0_1 l0_2 l0_3 400).bind fun t187 => (if t187 ≥ 0 then ((spec_l2Term.f k a0_0 a0_1 l0_2 l0_3 8 16 false).bind fun t188 => (some t188)) else (some false))
set_option maxHeartbeats 8000000 in
set_option maxRecDepth 100000 in
theorem spec_IsWritten.calls (k : Nat) (a0_0 : Int) (a0_1 : Int) (A0_2 : Option Addr) (c0_2 : Nat) (l0_2 : List Int) (A0_3 : Option Addr) (c0_3 : Nat) (l0_3 : List (S40)) (r : Bool) (w : World) (hr0_2 : Kd.C (Kd.int .i64) w A0_2 l0_2.length l0_2) (hc0_2 : l0_2.length ≤ c0_2) (hr0_3 : Kd.C k40 w A0_3 l0_3.length l0_3) (hc0_3 : l0_3.length ≤ c0_3) (h : spec_IsWritten.f k a0_0 a0_1 l0_2 l0_3 = some r) :
  Calls Try.prog 60 #[.agg #[.int .i64 a0_0, .int .i64 a0_1, .slice A0_2 l0_2.length c0_2, .slice A0_3 l0_3.length c0_3]] w fun e w' => e = .returned (.bool r) ∧ Below w.heap.size w w' := by
 have hu40 := Try.underlying40
 have HR0_2 := sd_ hr0_2
 have HC0_2 := sd_ hc0_2
 clear hr0_2 hc0_2
 have HR0_3 := sd_ hr0_3
 have HC0_3 := sd_ hc0_3
 clear hr0_3 hc0_3
 have HB := sd_ (Below.refl w.heap.size w)
 have H : ((spec_l2Left.f k a0_0 a0_1 l0_2 l0_3 400).bind fun t187 => (if t187 ≥ 0 then ((spec_l2Term.f k a0_0 a0_1 l0_2 l0_3 8 16 false).bind fun t188 => (some t188)) else (some false))) = some r := h
 clear h
 replace H := Option.bind_eq_some_iff.mp H
 obtain ⟨t187, A20, H⟩ := H
 try dsimp only at H
 have A2 := sd_ A20
 clear A20
 by_cases c3 : t187 ≥ 0
 ·rw [if_pos c3] at H
  have c3b0 : decide (0 ≤ t187) = true := decide_eq_true c3
  clear c3
  replace H := Option.bind_eq_some_iff.mp H
  obtain ⟨t188, A40, H⟩ := H
  try dsimp only at H
  have A4 := sd_ A40
  clear A40
  obtain rfl := Option.some.inj H
  go_enter Try.func60, Try.ntmps60
  go_wp2_with (first | ((with_reducible refine gate_dst (N := 1) rfl ?_); refine bx_ (N := 1) (cs := #[.int .i64 a0_0, .int .i64 a0_1, .slice A0_2 l0_2.length c0_2, .slice A0_3 l0_3.length c0_3]) (t := 40) ?_; intro gb186 hg w5 hbox hb; have BK186 := sd_ (hbox); have GW186 := sd_ (gs_ hg (bw0_ HB.out)); have GE186 := sd_ (gs_ hg (bw0_ HB.out)); replace HB := sd_ (below_step (bw0_ HB.out) hb); clear hb hbox hg; obtain ⟨hcz6_0, hcz6_1, hcz6_2, hcz6_3, hfz6_0, hfz6_1, hfz6_2, hfz6_3⟩ := bf4_ BK186.out) | ((with_reducible refine gate_callee (f := 82) rfl ?_); refine goesL_ (some 4) rfl rfl Try.func82 (by kernel_rfl) rfl #[.agg #[.int .i64 a0_0, .int .i64 a0_1, .slice A0_2 l0_2.length c0_2, .slice A0_3 l0_3.length c0_3], .int .i64 400] rfl la_ ?_; (with_reducible refine (spec_l2Left.calls k a0_0 a0_1 _ _ l0_2 _ _ l0_3 400 t187 _ (kc_ HR0_2.out HB.out) HC0_2.out (kc_ HR0_3.out HB.out) HC0_3.out A2.out).mono ?_); rintro e w7 ⟨rfl, hb⟩; refine ⟨_, rfl, ?_⟩; replace BK186 := sd_ (bb_ BK186.out hb); replace HB := sd_ (below_step (bw1_ HB.out GE186.out) hb); (try clear hb); obtain ⟨hcz8_0, hcz8_1, hcz8_2, hcz8_3, hfz8_0, hfz8_1, hfz8_2, hfz8_3⟩ := bf4_ BK186.out) | (go_at_call 83; (with_reducible refine (spec_l2Term.calls k a0_0 a0_1 _ _ l0_2 _ _ l0_3 8 16 false t188 _ (kc_ HR0_2.out HB.out) HC0_2.out (kc_ HR0_3.out HB.out) HC0_3.out A4.out).mono ?_); rintro e w9 ⟨rfl, hb⟩; replace BK186 := sd_ (bb_ BK186.out hb); replace HB := sd_ (below_step (bw1_ HB.out GE186.out) hb); (try clear hb)))
  go_ret
  exact ⟨an_, bw1_ HB.out GE186.out⟩
 rw [if_neg c3] at H
 have c3b0 : decide (0 ≤ t187) = false := decide_eq_false c3
 clear c3
 obtain rfl := Option.some.inj H
 go_enter Try.func60, Try.ntmps60
 go_wp2_with (first | ((with_reducible refine gate_dst (N := 1) rfl ?_); refine bx_ (N := 1) (cs := #[.int .i64 a0_0, .int .i64 a0_1, .slice A0_2 l0_2.length c0_2, .slice A0_3 l0_3.length c0_3]) (t := 40) ?_; intro gb186 hg w10 hbox hb; have BK186 := sd_ (hbox); have GW186 := sd_ (gs_ hg (bw0_ HB.out)); have GE186 := sd_ (gs_ hg (bw0_ HB.out)); replace HB := sd_ (below_step (bw0_ HB.out) hb); clear hb hbox hg; obtain ⟨hcz11_0, hcz11_1, hcz11_2, hcz11_3, hfz11_0, hfz11_1, hfz11_2, hfz11_3⟩ := bf4_ BK186.out) | ((with_reducible refine gate_callee (f := 82) rfl ?_); refine goesL_ (some 4) rfl rfl Try.func82 (by kernel_rfl) rfl #[.agg #[.int .i64 a0_0, .int .i64 a0_1, .slice A0_2 l0_2.length c0_2, .slice A0_3 l0_3.length c0_3], .int .i64 400] rfl la_ ?_; (with_reducible refine (spec_l2Left.calls k a0_0 a0_1 _ _ l0_2 _ _ l0_3 400 t187 _ (kc_ HR0_2.out HB.out) HC0_2.out (kc_ HR0_3.out HB.out) HC0_3.out A2.out).mono ?_); rintro e w12 ⟨rfl, hb⟩; refine ⟨_, rfl, ?_⟩; replace BK186 := sd_ (bb_ BK186.out hb); replace HB := sd_ (below_step (bw1_ HB.out GE186.out) hb); (try clear hb)))
 go_ret
 exact ⟨an_, bw1_ HB.out GE186.out⟩


/-! ### impl_typeEnd: function 140 -/
mutual
def impl_typeEnd.j0 : Nat → List Int → Int → Bool → Option (Int)
 | 0, _, _, _ => none
 | k + 1, x0, x1, x14 => if x14 = true then (some (-1)) else (if 0 ≤ x1 then (if x1 < (x0.length : Int) then ((impl_shape.f (rd x0 x1)).bind fun bt294 => (if bt294.1 = 0 then (some (wrap64 (x1 + 1))) else (if bt294.1 = 4 then ((impl_typeEnd.f k x0 (wrap64 (x1 + 1))).bind fun t296 => (some t296)) else (if bt294.1 = 5 then (some (-1)) else ((impl_typeEnd.f k x0 (wrap64 (x1 + 1))).bind fun t297 => ((impl_typeEnd.f k x0 t297).bind fun t298 => (some t298))))))) else (none)) else (none))
def impl_typeEnd.f : Nat → List Int → Int → Option (Int)
 | 0, _, _ => none
 | k + 1, l0, a1 => if a1 < 0 then (impl_typeEnd.j0 k l0 a1 true) else (impl_typeEnd.j0 k l0 a1 (decide (a1 ≥ (l0.length : Int))))
end
set_option maxHeartbeats 8000000 in
set_option maxRecDepth 100000 in
theorem impl_typeEnd.calls (k : Nat) : ∀ (A0 : Option Addr) (c0 : Nat) (l0 : List Int) (a1 : Int) (r : Int) (w : World) (hr0 : Kd.C (Kd.int .i64) w A0 l0.length l0) (hc0 : l0.length ≤ c0) (h : impl_typeEnd.f k l0 a1 = some r),
  Calls Try.prog 140 #[.slice A0 l0.length c0, .int .i64 a1] w fun e w' => e = .returned (.int .i64 r) ∧ Drawn0 w w' := by
 induction k using Nat.strongRecOn with
 | _ k ih =>
 intro A0 c0 l0 a1 r w hr0 hc0 h
 cases k with
 | zero => exact absurd h (by simp [impl_typeEnd.f])
 | succ k =>
 simp only [impl_typeEnd.f] at h
 have HR0 := sd_ hr0
 have HC0 := sd_ hc0
 clear hr0 hc0
 have H : (if a1 < 0 then (impl_typeEnd.j0 k l0 a1 true) else (impl_typeEnd.j0 k l0 a1 (decide (a1 ≥ (l0.length : Int))))) = some r := h
 clear h
 have HC3 := sd_ H
 clear H
 go_enter Try.func140, Try.ntmps140
 go_upto_region 1 with (fail)
 go_cut [14] (fun v14 wc => ∃ (kq : Nat) (x14_2 : Bool), v14 = .bool x14_2 ∧ Aside0 (impl_typeEnd.j0 kq l0 a1 x14_2 = some r) ∧ Aside0 (kq ≤ k) ∧ Drawn0 w wc)
 case first =>
  have H := HC3.out
  clear HC3
  by_cases c4 : a1 < 0
  ·rw [if_pos c4] at H
   have c4b0 : decide (a1 < 0) = true := decide_eq_true c4
   clear c4
   (first | rw [c4b0] | (simp only [i64_w, i32_w]; rw [c4b0]) | skip)
   have H' := sd_ H
   clear H
   go_wp2
   go_meet
   case rel => exact ⟨_, (true), sm_, H', ⟨by first | omega | exact Nat.le_refl _⟩, by repeat (first | exact Drawn0.refl _ | apply Drawn0.step)⟩
  rw [if_neg c4] at H
  have c4b0 : decide (a1 < 0) = false := decide_eq_false c4
  clear c4
  (first | rw [c4b0] | (simp only [i64_w, i32_w]; rw [c4b0]) | skip)
  have H' := sd_ H
  clear H
  go_wp2
  go_meet
  case rel => exact ⟨_, (decide (a1 ≥ (l0.length : Int))), sm_, H', ⟨by first | omega | exact Nat.le_refl _⟩, by repeat (first | exact Drawn0.refl _ | apply Drawn0.step)⟩
 case rest =>
  clear HC3
  try clear c1
  obtain ⟨kq, x14_2, rfl, HA, HJ2, ⟨mc2, rfl⟩⟩ := hcut
  cases kq with
  | zero => exact absurd HA.out (by simp [impl_typeEnd.j0])
  | succ kj2 =>
   have H := HA.out
   clear HA
   simp only [impl_typeEnd.j0] at H
   by_cases c5 : x14_2 = true
   ·subst c5
    have H1 : (some (-1)) = some r := by rw [if_pos rfl] at H; exact H
    clear H
    have H := H1
    clear H1
    obtain rfl := Option.some.inj H
    go_wp2
    go_ret
    exact ⟨by first | rfl | (simp; done) | (simp [*]; done), by repeat (first | exact Drawn0.refl _ | apply Drawn0.step)⟩
   replace c5 := Bool.eq_false_iff.mpr c5
   subst c5
   have H1 : (if 0 ≤ a1 then (if a1 < (l0.length : Int) then ((impl_shape.f (rd l0 a1)).bind fun bt294 => (if bt294.1 = 0 then (some (wrap64 (a1 + 1))) else (if bt294.1 = 4 then ((impl_typeEnd.f kj2 l0 (wrap64 (a1 + 1))).bind fun t296 => (some t296)) else (if bt294.1 = 5 then (some (-1)) else ((impl_typeEnd.f kj2 l0 (wrap64 (a1 + 1))).bind fun t297 => ((impl_typeEnd.f kj2 l0 t297).bind fun t298 => (some t298))))))) else (none)) else (none)) = some r := by rw [if_neg (show ¬ (false = true) by decide)] at H; exact H
   clear H
   have H := H1
   clear H1
   by_cases c6 : 0 ≤ a1
   ·rw [if_pos c6] at H
    have c6b0 : decide (0 ≤ a1) = true := decide_eq_true c6
    clear c6
    by_cases c7 : a1 < (l0.length : Int)
    ·rw [if_pos c7] at H
     have c7b0 : decide (a1 < (l0.length : Int)) = true := decide_eq_true c7
     clear c7
     replace H := Option.bind_eq_some_iff.mp H
     obtain ⟨⟨t294, t295⟩, A80, H⟩ := H
     try dsimp only at H
     have A8 := sd_ A80
     clear A80
     by_cases c9 : t294 = 0
     ·rw [if_pos c9] at H
      have c9b0 : (t294 == 0) = true := beq_iff_eq.mpr c9
      have c9b1 : (t294 != 0) = false := bne_eq_false_iff_eq.mpr c9
      clear c9
      obtain rfl := Option.some.inj H
      have p293 : 0 ≤ (a1 : Int) := dt_
      have q293 : a1 < (l0.length : Int) := dt_
      obtain ⟨ad293, e293, hx293_0⟩ := Kd.at_int HR0.out a1 p293 q293
      cases e293
      replace p293 := eq_true p293
      replace q293 := eq_true q293
      go_wp2_with (first | ((with_reducible refine gate_callee (f := 122) rfl ?_); refine goesL_ (some 20) rfl rfl Try.func122 (by kernel_rfl) rfl #[.int .i64 (rd l0 a1)] rfl la_ ?_; (with_reducible refine (impl_shape.calls (rd l0 a1) t294 t295 _ A8.out).mono ?_); rintro e w' ⟨rfl, ⟨nd, rfl⟩⟩; refine ⟨_, rfl, ?_⟩))
      go_ret
      exact ⟨by first | rfl | (simp; done) | (simp [*]; done), by repeat (first | exact Drawn0.refl _ | apply Drawn0.step)⟩
     rw [if_neg c9] at H
     have c9b0 : (t294 == 0) = false := beq_eq_false_iff_ne.mpr c9
     have c9b1 : (t294 != 0) = true := bne_iff_ne.mpr c9
     by_cases c10 : t294 = 4
     ·rw [if_pos c10] at H
      have c10b0 : (t294 == 4) = true := beq_iff_eq.mpr c10
      have c10b1 : (t294 != 4) = false := bne_eq_false_iff_eq.mpr c10
      clear c10
      replace H := Option.bind_eq_some_iff.mp H
      obtain ⟨t296, A110, H⟩ := H
      try dsimp only at H
      have A11 := sd_ A110
      clear A110
      obtain rfl := Option.some.inj H
      have p293 : 0 ≤ (a1 : Int) := dt_
      have q293 : a1 < (l0.length : Int) := dt_
      obtain ⟨ad293, e293, hx293_0⟩ := Kd.at_int HR0.out a1 p293 q293
      cases e293
      replace p293 := eq_true p293
      replace q293 := eq_true q293
      go_wp2_with (first | ((with_reducible refine gate_callee (f := 122) rfl ?_); refine goesL_ (some 20) rfl rfl Try.func122 (by kernel_rfl) rfl #[.int .i64 (rd l0 a1)] rfl la_ ?_; (with_reducible refine (impl_shape.calls (rd l0 a1) t294 t295 _ A8.out).mono ?_); rintro e w' ⟨rfl, ⟨nd, rfl⟩⟩; refine ⟨_, rfl, ?_⟩) | ((with_reducible refine gate_callee (f := 140) rfl ?_); refine goesL_ (some 33) rfl rfl Try.func140 (by kernel_rfl) rfl #[.slice (some ad293) l0.length c0, .int .i64 (wrap64 (a1 + 1))] rfl la_ ?_; (with_reducible refine (ih kj2 (by have := HJ2.out; omega) _ _ l0 (wrap64 (a1 + 1)) t296 _ ?side1 ?side2 A11.out).mono ?_); (case side1 => exact kp_ HR0.out); (case side2 => exact HC0.out); rintro e w' ⟨rfl, ⟨nd, rfl⟩⟩; refine ⟨_, rfl, ?_⟩))
      go_ret
      exact ⟨by first | rfl | (simp; done) | (simp [*]; done), by repeat (first | exact Drawn0.refl _ | apply Drawn0.step)⟩
     rw [if_neg c10] at H
     have c10b0 : (t294 == 4) = false := beq_eq_false_iff_ne.mpr c10
     have c10b1 : (t294 != 4) = true := bne_iff_ne.mpr c10
     by_cases c12 : t294 = 5
     ·rw [if_pos c12] at H
      have c12b0 : (t294 == 5) = true := beq_iff_eq.mpr c12
      have c12b1 : (t294 != 5) = false := bne_eq_false_iff_eq.mpr c12
      clear c12
      obtain rfl := Option.some.inj H
      have p293 : 0 ≤ (a1 : Int) := dt_
      have q293 : a1 < (l0.length : Int) := dt_
      obtain ⟨ad293, e293, hx293_0⟩ := Kd.at_int HR0.out a1 p293 q293
      cases e293
      replace p293 := eq_true p293
      replace q293 := eq_true q293
      go_wp2_with (first | ((with_reducible refine gate_callee (f := 122) rfl ?_); refine goesL_ (some 20) rfl rfl Try.func122 (by kernel_rfl) rfl #[.int .i64 (rd l0 a1)] rfl la_ ?_; (with_reducible refine (impl_shape.calls (rd l0 a1) t294 t295 _ A8.out).mono ?_); rintro e w' ⟨rfl, ⟨nd, rfl⟩⟩; refine ⟨_, rfl, ?_⟩))
      go_ret
      exact ⟨by first | rfl | (simp; done) | (simp [*]; done), by repeat (first | exact Drawn0.refl _ | apply Drawn0.step)⟩
     rw [if_neg c12] at H
     have c12b0 : (t294 == 5) = false := beq_eq_false_iff_ne.mpr c12
     have c12b1 : (t294 != 5) = true := bne_iff_ne.mpr c12
     replace H := Option.bind_eq_some_iff.mp H
     obtain ⟨t297, A130, H⟩ := H
     try dsimp only at H
     have A13 := sd_ A130
     clear A130
     replace H := Option.bind_eq_some_iff.mp H
     obtain ⟨t298, A140, H⟩ := H
     try dsimp only at H
     have A14 := sd_ A140
     clear A140
     obtain rfl := Option.some.inj H
     have p293 : 0 ≤ (a1 : Int) := dt_
     have q293 : a1 < (l0.length : Int) := dt_
     obtain ⟨ad293, e293, hx293_0⟩ := Kd.at_int HR0.out a1 p293 q293
     cases e293
     replace p293 := eq_true p293
     replace q293 := eq_true q293
     go_wp2_with (first | ((with_reducible refine gate_callee (f := 122) rfl ?_); refine goesL_ (some 20) rfl rfl Try.func122 (by kernel_rfl) rfl #[.int .i64 (rd l0 a1)] rfl la_ ?_; (with_reducible refine (impl_shape.calls (rd l0 a1) t294 t295 _ A8.out).mono ?_); rintro e w' ⟨rfl, ⟨nd, rfl⟩⟩; refine ⟨_, rfl, ?_⟩) | ((with_reducible refine gate_callee (f := 140) rfl ?_); refine goesL_ (some 40) rfl rfl Try.func140 (by kernel_rfl) rfl #[.slice (some ad293) l0.length c0, .int .i64 (wrap64 (a1 + 1))] rfl la_ ?_; (with_reducible refine (ih kj2 (by have := HJ2.out; omega) _ _ l0 (wrap64 (a1 + 1)) t297 _ ?side1 ?side2 A13.out).mono ?_); (case side1 => exact kp_ HR0.out); (case side2 => exact HC0.out); rintro e w' ⟨rfl, ⟨nd, rfl⟩⟩; refine ⟨_, rfl, ?_⟩) | ((with_reducible refine gate_callee (f := 140) rfl ?_); refine goesL_ (some 41) rfl rfl Try.func140 (by kernel_rfl) rfl #[.slice (some ad293) l0.length c0, .int .i64 t297] rfl la_ ?_; (with_reducible refine (ih kj2 (by have := HJ2.out; omega) _ _ l0 t297 t298 _ ?side1 ?side2 A14.out).mono ?_); (case side1 => exact kp_ HR0.out); (case side2 => exact HC0.out); rintro e w' ⟨rfl, ⟨nd, rfl⟩⟩; refine ⟨_, rfl, ?_⟩))
     go_ret
     exact ⟨by first | rfl | (simp; done) | (simp [*]; done), by repeat (first | exact Drawn0.refl _ | apply Drawn0.step)⟩
    rw [if_neg c7] at H
    exact absurd H (by simp)
   rw [if_neg c6] at H
   exact absurd H (by simp)


/-! ### impl_isWrittenType: function 120 -/
def impl_isWrittenType.f (k : Nat) (l0 : List Int) : Option (Bool) := (impl_within.f (l0.length : Int) 1 40).bind fun t299 => (if t299 = true then ((impl_typeEnd.f k l0 0).bind fun t300 => (some (t300 == (l0.length : Int)))) else (some false))
set_option maxHeartbeats 8000000 in
set_option maxRecDepth 100000 in
theorem impl_isWrittenType.calls (k : Nat) (A0 : Option Addr) (c0 : Nat) (l0 : List Int) (r : Bool) (w : World) (hr0 : Kd.C (Kd.int .i64) w A0 l0.length l0) (hc0 : l0.length ≤ c0) (h : impl_isWrittenType.f k l0 = some r) :
  Calls Try.prog 120 #[.slice A0 l0.length c0] w fun e w' => e = .returned (.bool r) ∧ Drawn0 w w' := by
 have HR0 := sd_ hr0
 have HC0 := sd_ hc0
 clear hr0 hc0
 have H : ((impl_within.f (l0.length : Int) 1 40).bind fun t299 => (if t299 = true then ((impl_typeEnd.f k l0 0).bind fun t300 => (some (t300 == (l0.length : Int)))) else (some false))) = some r := h
 clear h
 replace H := Option.bind_eq_some_iff.mp H
 obtain ⟨t299, A20, H⟩ := H
 try dsimp only at H
 have A2 := sd_ A20
 clear A20
 by_cases c3 : t299 = true
 ·subst c3
  have H1 : ((impl_typeEnd.f k l0 0).bind fun t300 => (some (t300 == (l0.length : Int)))) = some r := by rw [if_pos rfl] at H; exact H
  clear H
  have H := H1
  clear H1
  replace H := Option.bind_eq_some_iff.mp H
  obtain ⟨t300, A40, H⟩ := H
  try dsimp only at H
  have A4 := sd_ A40
  clear A40
  obtain rfl := Option.some.inj H
  go_enter Try.func120, Try.ntmps120
  go_wp2_with (first | ((with_reducible refine gate_callee (f := 104) rfl ?_); refine goesL_ (some 5) rfl rfl Try.func104 (by kernel_rfl) rfl #[.int .i64 (l0.length : Int), .int .i64 1, .int .i64 40] rfl la_ ?_; (with_reducible refine (impl_within.calls (l0.length : Int) 1 40 true _ A2.out).mono ?_); rintro e w' ⟨rfl, ⟨nd, rfl⟩⟩; refine ⟨_, rfl, ?_⟩) | (go_at_call 140; (with_reducible refine (impl_typeEnd.calls k _ _ l0 0 t300 _ (kp_ HR0.out) HC0.out A4.out).mono ?_); rintro e w' ⟨rfl, ⟨nd, rfl⟩⟩))
  go_ret
  exact ⟨by first | rfl | (simp; done) | (simp [*]; done), by repeat (first | exact Drawn0.refl _ | apply Drawn0.step)⟩
 replace c3 := Bool.eq_false_iff.mpr c3
 subst c3
 have H1 : (some false) = some r := by rw [if_neg (show ¬ (false = true) by decide)] at H; exact H
 clear H
 have H := H1
 clear H1
 obtain rfl := Option.some.inj H
 go_enter Try.func120, Try.ntmps120
 go_wp2_with (first | ((with_reducible refine gate_callee (f := 104) rfl ?_); refine goesL_ (some 5) rfl rfl Try.func104 (by kernel_rfl) rfl #[.int .i64 (l0.length : Int), .int .i64 1, .int .i64 40] rfl la_ ?_; (with_reducible refine (impl_within.calls (l0.length : Int) 1 40 false _ A2.out).mono ?_); rintro e w' ⟨rfl, ⟨nd, rfl⟩⟩; refine ⟨_, rfl, ?_⟩))
 go_ret
 exact ⟨by first | rfl | (simp; done) | (simp [*]; done), by repeat (first | exact Drawn0.refl _ | apply Drawn0.step)⟩

end Go.Proofs.Ytipfkicndjddgaa.P
end

section
/- Types in their code: where one ends; what is written. -/
set_option linter.unusedSimpArgs false
set_option linter.unusedVariables false
namespace Go.Proofs.Ytipfkicndjddgaa.Pure
open Go.RowKit Go.Proofs.Ytipfkicndjddgaa.P Go.Proofs.YtipfkicndjddgaaW.PrintWords Go.Proofs.YtipfkicndjddgaaW.PrintLast
def kidsV (c : Int) : Int := if c = 0 then 0 else if c = 1 ∨ c = 2 ∨ (3 ≤ c ∧ c ≤ 18) ∨ c = 35 then 2 else if (19 ≤ c ∧ c ≤ 34) ∨ c = 36 then 1 else -1
def shapeV (c : Int) : Int × Int := if 0 ≤ c ∧ c ≤ 2 then (c, -1) else if 3 ≤ c ∧ c ≤ 18 then (3, c - 3) else if 19 ≤ c ∧ c ≤ 34 then (4, c - 19) else if c = 35 then (3, -1) else if c = 36 then (4, -1) else (5, -1)
theorem inV_iff (x lo hi : Int) : inV x lo hi = true ↔ lo ≤ x ∧ x ≤ hi := by
  unfold inV; rw [Bool.and_eq_true, decide_eq_true_eq, decide_eq_true_eq]
theorem kids_eq (k : Nat) (c : Int) : spec_l2Kids.f (k + 1) c = some (kidsV c) := by
  unfold spec_l2Kids.f spec_l2Arrow.f kidsV
  simp only [spec_l2Kids.j0, spec_l2Box.f, in_eq, Option.bind_some]
  by_cases c0 : c = 0
  · simp [c0]
  by_cases c1 : c = 1
  · simp [c1]
  by_cases c2 : c = 2
  · simp [c2]
  by_cases c3 : 3 ≤ c ∧ c ≤ 18
  · have e := (inV_iff c 3 18).mpr c3
    simp [c0, c1, c2, c3, e]
  have e3 : inV c 3 18 = false := by rw [Bool.eq_false_iff]; exact fun h => c3 ((inV_iff c 3 18).mp h)
  by_cases c4 : c = 35
  · simp [c4, inV]
  by_cases c5 : 19 ≤ c ∧ c ≤ 34
  · have e := (inV_iff c 19 34).mpr c5
    simp [c0, c1, c2, c3, c4, c5, e, e3]
  have e5 : inV c 19 34 = false := by rw [Bool.eq_false_iff]; exact fun h => c5 ((inV_iff c 19 34).mp h)
  by_cases c6 : c = 36
  · simp [c6, inV]
  · simp [c0, c1, c2, c3, c4, c5, c6, e3, e5]
theorem shape_eq (c : Int) : impl_shape.f c = some (shapeV c) := by
  unfold impl_shape.f shapeV
  simp only [within_eq, Option.bind_some]
  by_cases c0 : 0 ≤ c ∧ c ≤ 2
  · simp [(inV_iff c 0 2).mpr c0, c0]
  have e0 : inV c 0 2 = false := by rw [Bool.eq_false_iff]; exact fun h => c0 ((inV_iff c 0 2).mp h)
  by_cases c3 : 3 ≤ c ∧ c ≤ 18
  · simp only [e0, (inV_iff c 3 18).mpr c3, if_neg c0, if_pos c3, Bool.false_eq_true, if_false, if_true, w64 (x := c - 3) (by omega) (by omega)]
  have e3 : inV c 3 18 = false := by rw [Bool.eq_false_iff]; exact fun h => c3 ((inV_iff c 3 18).mp h)
  by_cases c5 : 19 ≤ c ∧ c ≤ 34
  · simp only [e0, e3, (inV_iff c 19 34).mpr c5, if_neg c0, if_neg c3, if_pos c5, Bool.false_eq_true, if_false, if_true, w64 (x := c - 19) (by omega) (by omega)]
  have e5 : inV c 19 34 = false := by rw [Bool.eq_false_iff]; exact fun h => c5 ((inV_iff c 19 34).mp h)
  simp only [e0, e3, e5, if_neg c0, if_neg c3, if_neg c5, Bool.false_eq_true, if_false]
  by_cases c6 : c = 35
  · simp [c6]
  · by_cases c7 : c = 36
    · simp [c7]
    · simp [c6, c7]
/-- Where d types that begin at i end, m places ahead: -1 where none. -/
def eat (xs : List Int) : Nat → Int → Int → Int
  | 0, _, _ => -1
  | m + 1, d, i => if kidsV (rd xs i) < 0 then -1 else if d - 1 + kidsV (rd xs i) = 0 then i + 1 else eat xs m (d - 1 + kidsV (rd xs i)) (i + 1)
theorem kids_le (c : Int) : kidsV c ≤ 2 := by unfold kidsV; repeat' split <;> omega
theorem eat_range (xs : List Int) : ∀ (m : Nat) (d i : Int), 0 ≤ i → eat xs m d i = -1 ∨ (i < eat xs m d i ∧ eat xs m d i ≤ i + m)
  | 0, _, _, _ => Or.inl rfl
  | m + 1, d, i, h => by
    unfold eat
    split
    · exact Or.inl rfl
    · split
      · right; constructor <;> omega
      · rcases eat_range xs m (d - 1 + kidsV (rd xs i)) (i + 1) (by omega) with e | e
        · exact Or.inl e
        · right; constructor <;> omega
theorem eat_add (xs : List Int) (e : Int) (he : 1 ≤ e) : ∀ (m : Nat) (d i : Int), 0 ≤ i → 1 ≤ d → eat xs m (d + e) i = if eat xs m d i = -1 then -1 else eat xs (i + m - eat xs m d i).toNat e (eat xs m d i)
  | 0, d, i, h, hd => by simp [eat]
  | m + 1, d, i, h, hd => by
    by_cases c : kidsV (rd xs i) < 0
    · simp [eat, c]
    · by_cases c1 : d - 1 + kidsV (rd xs i) = 0
      · have e1 : eat xs (m + 1) d i = i + 1 := by simp [eat, c, c1]
        have e2 : eat xs (m + 1) (d + e) i = eat xs m e (i + 1) := by
          have e4 : d + e - 1 + kidsV (rd xs i) = e := by omega
          have e3 : ¬ e = 0 := by omega
          simp only [eat, if_neg c, e4, if_neg e3]
        rw [e1, e2, if_neg (by omega), show (i + ((m + 1 : Nat) : Int) - (i + 1)).toNat = m by omega]
      · have e1 : eat xs (m + 1) d i = eat xs m (d - 1 + kidsV (rd xs i)) (i + 1) := by simp [eat, c, c1]
        have e4 : d + e - 1 + kidsV (rd xs i) = d - 1 + kidsV (rd xs i) + e := by omega
        have e2 : eat xs (m + 1) (d + e) i = eat xs m (d - 1 + kidsV (rd xs i) + e) (i + 1) := by
          have e3 : ¬ d - 1 + kidsV (rd xs i) + e = 0 := by omega
          simp only [eat, if_neg c, e4, if_neg e3]
        rw [e1, e2, eat_add xs e he m (d - 1 + kidsV (rd xs i)) (i + 1) (by omega) (by omega), show i + 1 + (m : Int) = i + ((m + 1 : Nat) : Int) by omega]
theorem specEnd (xs : List Int) (hl : xs.length ≤ 1048576) : ∀ (m : Nat) (d i : Int), 0 ≤ i → i + m = xs.length → 1 ≤ d → d ≤ 1048576 + i → Ev (fun k => spec_l2End.l0 k xs d i) (eat xs m d i)
  | 0, d, i, h0, h1, hd, hd' => by
    refine Ev.step (f := fun _ => some (-1)) (fun k => ?_) (Ev.now _)
    simp only [spec_l2End.l0]; rw [if_neg (by omega)]
  | m + 1, d, i, h0, h1, hd, hd' => by
    have hk := kids_le (rd xs i)
    have i1 : i < (xs.length : Int) := by omega
    have run : ∀ (r : Int) (F : Nat → Option Int), (∀ k, (if kidsV (rd xs i) < 0 then some (-1) else if d - 1 + kidsV (rd xs i) = 0 then some (i + 1) else spec_l2End.l0 (k + 1) xs (d - 1 + kidsV (rd xs i)) (i + 1)) = F k) → Ev F r → Ev (fun k => spec_l2End.l0 k xs d i) r := by
      rintro r F hF ⟨K, hK⟩
      refine ⟨K + 2, fun k hk2 => ?_⟩
      obtain ⟨k, rfl⟩ : ∃ q, k = q + 2 := ⟨k - 2, by omega⟩
      rw [← hK k (by omega), ← hF k]
      show (if i < (xs.length : Int) then _ else _) = _
      rw [if_pos i1, if_pos h0, kids_eq, Option.bind_some]
      by_cases c : kidsV (rd xs i) < 0
      · rw [if_pos c, if_pos c]
      · rw [if_neg c, if_neg c, w64 (x := d - 1) (by omega) (by omega), w64 (x := d - 1 + kidsV (rd xs i)) (by omega) (by omega), w64 (x := i + 1) (by omega) (by omega)]
    unfold eat
    by_cases c : kidsV (rd xs i) < 0
    · rw [if_pos c]
      exact run _ (fun _ => some (-1)) (fun k => if_pos c) (Ev.now _)
    · rw [if_neg c]
      by_cases c1 : d - 1 + kidsV (rd xs i) = 0
      · rw [if_pos c1]
        exact run _ (fun _ => some (i + 1)) (fun k => (if_neg c).trans (if_pos c1)) (Ev.now _)
      · rw [if_neg c1]
        obtain ⟨K, hK⟩ := specEnd xs hl m (d - 1 + kidsV (rd xs i)) (i + 1) (by omega) (by omega) (by omega) (by omega)
        exact run _ (fun k => spec_l2End.l0 (k + 1) xs (d - 1 + kidsV (rd xs i)) (i + 1)) (fun k => (if_neg c).trans (if_neg c1)) ⟨K, fun k hk => hK (k + 1) (by omega)⟩
theorem specEnd0 (xs : List Int) (hl : xs.length ≤ 1048576) {i : Int} (h0 : 0 ≤ i) (h1 : i ≤ xs.length) : Ev (fun k => spec_l2End.f k xs i) (eat xs (xs.length - i).toNat 1 i) := by
  unfold spec_l2End.f
  exact specEnd xs hl _ 1 i h0 (by omega) (by omega) (by omega)
theorem kids_shape (c : Int) : (kidsV c < 0 ↔ (shapeV c).1 = 5) ∧ (kidsV c = 0 ↔ (shapeV c).1 = 0) ∧ (kidsV c = 1 ↔ (shapeV c).1 = 4) ∧ (kidsV c = 2 ↔ ((shapeV c).1 = 1 ∨ (shapeV c).1 = 2 ∨ (shapeV c).1 = 3)) := by
  unfold kidsV shapeV
  repeat' split
  all_goals (refine ⟨?_, ?_, ?_, ?_⟩ <;> simp <;> omega)
theorem implEnd_bad (xs : List Int) (i : Int) (h : i < 0 ∨ (xs.length : Int) ≤ i) : Ev (fun k => impl_typeEnd.f k xs i) (-1) := by
  refine Ev.step (f := fun k => impl_typeEnd.j0 k xs i true) (fun k => ?_) (Ev.step (f := fun _ => some (-1)) (fun k => ?_) (Ev.now _))
  · simp only [impl_typeEnd.f]
    by_cases c : i < 0
    · rw [if_pos c]
    · rw [if_neg c, decide_eq_true (by omega)]
  · simp only [impl_typeEnd.j0, if_true]
theorem implEnd (xs : List Int) (hl : xs.length ≤ 1048576) : ∀ (m : Nat) (i : Int), 0 ≤ i → i + m = xs.length → Ev (fun k => impl_typeEnd.f k xs i) (eat xs m 1 i) := by
  intro m
  induction m using Nat.strongRecOn with
  | _ m ih =>
  intro i h0 h1
  cases m with
  | zero => exact implEnd_bad xs i (by omega)
  | succ m =>
    have i1 : i < (xs.length : Int) := by omega
    have up : wrap64 (i + 1) = i + 1 := w64 (by omega) (by omega)
    have next := ih m (by omega) (i + 1) (by omega) (by omega)
    obtain ⟨k5, k0, k1, k2⟩ := kids_shape (rd xs i)
    have hle := kids_le (rd xs i)
    refine Ev.step (f := fun k => impl_typeEnd.j0 k xs i false) (fun k => ?_) ?_
    · simp only [impl_typeEnd.f]; rw [if_neg (by omega), decide_eq_false (by omega)]
    · have open_ : ∀ k, impl_typeEnd.j0 (k + 1) xs i false = (if (shapeV (rd xs i)).1 = 0 then some (i + 1) else if (shapeV (rd xs i)).1 = 4 then impl_typeEnd.f k xs (i + 1) else if (shapeV (rd xs i)).1 = 5 then some (-1) else (impl_typeEnd.f k xs (i + 1)).bind fun j => impl_typeEnd.f k xs j) := by
        intro k
        simp only [impl_typeEnd.j0, shape_eq, Option.bind_some, Bool.false_eq_true, if_false, if_pos h0, if_pos i1, up, Option.bind_fun_some]
      refine Ev.step open_ ?_
      unfold eat
      by_cases c : kidsV (rd xs i) < 0
      · have := k5.mp c
        simp only [this]
        simpa [c] using Ev.now (-1 : Int)
      · rw [if_neg c]
        by_cases c0 : kidsV (rd xs i) = 0
        · simp only [k0.mp c0, c0]
          simpa using Ev.now (i + 1)
        · by_cases c1 : kidsV (rd xs i) = 1
          · simp only [k1.mp c1, c1]
            simpa using next
          · have c2 : kidsV (rd xs i) = 2 := by omega
            have s0 : ¬ (shapeV (rd xs i)).1 = 0 := fun h => c0 (k0.mpr h)
            have s4 : ¬ (shapeV (rd xs i)).1 = 4 := fun h => c1 (k1.mpr h)
            have s5 : ¬ (shapeV (rd xs i)).1 = 5 := fun h => c (k5.mpr h)
            simp only [if_neg s0, if_neg s4, if_neg s5, c2]
            refine Ev.bind next ?_
            have ea := eat_add xs 1 (by omega) m 1 (i + 1) (by omega) (by omega)
            have er := eat_range xs m 1 (i + 1) (by omega)
            have goal_ : (if (1 : Int) - 1 + 2 = 0 then i + 1 else eat xs m (1 - 1 + 2) (i + 1)) = eat xs m (1 + 1) (i + 1) := by rw [if_neg (by decide)]; rfl
            rw [goal_, ea]
            by_cases e : eat xs m 1 (i + 1) = -1
            · rw [if_pos e, e]; exact implEnd_bad xs (-1) (by omega)
            · rw [if_neg e]
              have e' := er.resolve_left e
              exact ih _ (by omega) _ (by omega) (by omega)
def writtenV (xs : List Int) : Bool := inV xs.length 1 40 && decide (eat xs xs.length 1 0 = (xs.length : Int))
theorem specWritten (xs : List Int) (hl : xs.length ≤ 1048576) : Ev (fun k => spec_l2Type.f k xs) (writtenV xs) := by
  unfold spec_l2Type.f writtenV
  have main := specEnd0 xs hl (i := 0) (by omega) (by omega)
  rw [show ((xs.length : Int) - 0).toNat = xs.length by omega] at main
  by_cases c : (xs.length : Int) ≤ 40
  · refine evCongr (fun k => if_pos c) ?_
    refine Ev.bind main ?_
    unfold inV
    by_cases c1 : eat xs xs.length 1 0 = (xs.length : Int)
    · by_cases c2 : (xs.length : Int) > 0
      · have c3 : (xs.length : Int) ≥ 1 := by omega
        simp only [if_pos c1, decide_eq_true c, decide_eq_true c1, decide_eq_true c2, decide_eq_true c3]
        exact Ev.now _
      · have c3 : ¬ (xs.length : Int) ≥ 1 := by omega
        simp only [if_pos c1, decide_eq_true c, decide_eq_true c1, decide_eq_false c2, decide_eq_false c3]
        exact Ev.now _
    · simp only [if_neg c1, decide_eq_false c1, Bool.and_false]
      exact Ev.now _
  · refine evCongr (fun k => if_neg c) ?_
    unfold inV
    rw [decide_eq_false c, Bool.and_false, Bool.false_and]
    exact Ev.now _
theorem implWritten (xs : List Int) (hl : xs.length ≤ 1048576) : Ev (fun k => impl_isWrittenType.f k xs) (writtenV xs) := by
  unfold impl_isWrittenType.f writtenV
  simp only [within_eq, Option.bind_some]
  have main := implEnd xs hl xs.length 0 (by omega) (by omega)
  cases inV (xs.length : Int) 1 40
  · simpa using Ev.now false
  · simp only [if_true, Bool.true_and]
    refine Ev.bind main ?_
    by_cases c1 : eat xs xs.length 1 0 = (xs.length : Int)
    · simp only [c1, beq_self_eq_true, decide_true]; exact Ev.now _
    · simp only [beq_eq_false_iff_ne.mpr c1, decide_eq_false c1]; exact Ev.now _
end Go.Proofs.Ytipfkicndjddgaa.Pure
end
