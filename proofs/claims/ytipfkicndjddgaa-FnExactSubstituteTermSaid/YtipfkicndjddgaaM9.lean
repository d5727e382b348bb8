-- Several texts in one (wip/tools/merge.py).
import Derived.Test.YtipfkicndjddgaaP0
import Derived.Test.YtipfkicndjddgaaM7
import Derived.Test.YtipfkicndjddgaaM2
import Derived.Test.YtipfkicndjddgaaM8
import Derived.Test.YtipfkicndjddgaaM1
section
namespace Go.Proofs.Ytipfkicndjddgaa.P
open Go.RowKit Go.Proofs.YtipfkicndjddgaaW.PrintWords Go.Proofs.YtipfkicndjddgaaW.PrintLast Go.Proofs.YtipfkicndjddgaaW.PrintMore
attribute [local go_sem] max2_int min2_int max_two min_two max_three min_three max_four min_four   -- for this text's walks alone
set_option linter.unusedVariables false
set_option linter.unusedSimpArgs false

/-! ### spec_l2End: function 138 -/
def spec_l2End.l0 : Nat → List Int → Int → Int → Option (Int)
 | 0, _, _, _ => none
 | k + 1, x0, x5, x6 => if x6 < (x0.length : Int) then (if 0 ≤ x6 then ((spec_l2Kids.f k (rd x0 x6)).bind fun t161 => (if t161 < 0 then (some (-1)) else (if (wrap64 ((wrap64 (x5 - 1)) + t161)) = 0 then (some (wrap64 (x6 + 1))) else (spec_l2End.l0 k x0 (wrap64 ((wrap64 (x5 - 1)) + t161)) (wrap64 (x6 + 1)))))) else (none)) else (some (-1))
def spec_l2End.f (k : Nat) (l0 : List Int) (a1 : Int) : Option (Int) := spec_l2End.l0 k l0 1 a1
set_option maxHeartbeats 8000000 in
set_option maxRecDepth 100000 in
theorem spec_l2End.calls (k : Nat) (A0 : Option Addr) (c0 : Nat) (l0 : List Int) (a1 : Int) (r : Int) (w : World) (hr0 : Kd.C (Kd.int .i64) w A0 l0.length l0) (hc0 : l0.length ≤ c0) (h : spec_l2End.f k l0 a1 = some r) :
  Calls Try.prog 138 #[.slice A0 l0.length c0, .int .i64 a1] w fun e w' => e = .returned (.int .i64 r) ∧ Drawn0 w w' := by
 have HR0 := sd_ hr0
 have HC0 := sd_ hc0
 clear hr0 hc0
 have H : (spec_l2End.l0 k l0 1 a1) = some r := h
 clear h
 have H' := sd_ H
 clear H
 go_enter Try.func138, Try.ntmps138
 go_wp2
 go_loopg [5, 6] k (fun kq v5 v6 w' => ∃ (x5_1 : Int) (x6_1 : Int), v5 = .int .i64 x5_1 ∧ v6 = .int .i64 x6_1 ∧ Aside0 (spec_l2End.l0 kq l0 x5_1 x6_1 = some r) ∧ Aside0 (kq ≤ k) ∧ Drawn0 w w')
 case atStart => exact ⟨(1), (a1), sm_, sm_, H', ⟨Nat.le_refl _⟩, by repeat (first | exact Drawn0.refl _ | apply Drawn0.step)⟩
 case round =>
  clear H'
  try clear c1
  try clear p2
  obtain ⟨x5_1, x6_1, rfl, rfl, HA, HK1, ⟨m1, rfl⟩⟩ := hrel
  cases gk with
  | zero => exact absurd HA.out (by simp [spec_l2End.l0])
  | succ k1 =>
   have H := HA.out
   clear HA
   simp only [spec_l2End.l0] at H
   by_cases c3 : x6_1 < (l0.length : Int)
   ·rw [if_pos c3] at H
    have c3b0 : decide (x6_1 < (l0.length : Int)) = true := decide_eq_true c3
    clear c3
    by_cases c4 : 0 ≤ x6_1
    ·rw [if_pos c4] at H
     have c4b0 : decide (0 ≤ x6_1) = true := decide_eq_true c4
     clear c4
     replace H := Option.bind_eq_some_iff.mp H
     obtain ⟨t161, A50, H⟩ := H
     try dsimp only at H
     have A5 := sd_ A50
     clear A50
     by_cases c6 : t161 < 0
     ·rw [if_pos c6] at H
      have c6b0 : decide (t161 < 0) = true := decide_eq_true c6
      clear c6
      obtain rfl := Option.some.inj H
      have p160 : 0 ≤ (x6_1 : Int) := dt_
      have q160 : x6_1 < (l0.length : Int) := dt_
      obtain ⟨ad160, e160, hx160_0⟩ := Kd.at_int HR0.out x6_1 p160 q160
      cases e160
      replace p160 := eq_true p160
      replace q160 := eq_true q160
      go_wp2_with (first | ((with_reducible refine gate_callee (f := 114) rfl ?_); refine goesL_ (some 19) rfl rfl Try.func114 (by kernel_rfl) rfl #[.int .i64 (rd l0 x6_1)] rfl la_ ?_; (with_reducible refine (spec_l2Kids.calls k1 (rd l0 x6_1) t161 _ A5.out).mono ?_); rintro e w' ⟨rfl, ⟨nd, rfl⟩⟩; refine ⟨_, rfl, ?_⟩))
      go_ret
      exact ⟨by first | rfl | (simp; done) | (simp [*]; done), by repeat (first | exact Drawn0.refl _ | apply Drawn0.step)⟩
     rw [if_neg c6] at H
     have c6b0 : decide (t161 < 0) = false := decide_eq_false c6
     clear c6
     by_cases c7 : (wrap64 ((wrap64 (x5_1 - 1)) + t161)) = 0
     ·rw [if_pos c7] at H
      have c7b0 : ((wrap64 ((wrap64 (x5_1 - 1)) + t161)) == 0) = true := beq_iff_eq.mpr c7
      have c7b1 : ((wrap64 ((wrap64 (x5_1 - 1)) + t161)) != 0) = false := bne_eq_false_iff_eq.mpr c7
      clear c7
      obtain rfl := Option.some.inj H
      have p160 : 0 ≤ (x6_1 : Int) := dt_
      have q160 : x6_1 < (l0.length : Int) := dt_
      obtain ⟨ad160, e160, hx160_0⟩ := Kd.at_int HR0.out x6_1 p160 q160
      cases e160
      replace p160 := eq_true p160
      replace q160 := eq_true q160
      go_wp2_with (first | ((with_reducible refine gate_callee (f := 114) rfl ?_); refine goesL_ (some 19) rfl rfl Try.func114 (by kernel_rfl) rfl #[.int .i64 (rd l0 x6_1)] rfl la_ ?_; (with_reducible refine (spec_l2Kids.calls k1 (rd l0 x6_1) t161 _ A5.out).mono ?_); rintro e w' ⟨rfl, ⟨nd, rfl⟩⟩; refine ⟨_, rfl, ?_⟩))
      go_ret
      exact ⟨by first | rfl | (simp; done) | (simp [*]; done), by repeat (first | exact Drawn0.refl _ | apply Drawn0.step)⟩
     rw [if_neg c7] at H
     have c7b0 : ((wrap64 ((wrap64 (x5_1 - 1)) + t161)) == 0) = false := beq_eq_false_iff_ne.mpr c7
     have c7b1 : ((wrap64 ((wrap64 (x5_1 - 1)) + t161)) != 0) = true := bne_iff_ne.mpr c7
     have H' := sd_ H
     clear H
     have p160 : 0 ≤ (x6_1 : Int) := dt_
     have q160 : x6_1 < (l0.length : Int) := dt_
     obtain ⟨ad160, e160, hx160_0⟩ := Kd.at_int HR0.out x6_1 p160 q160
     cases e160
     replace p160 := eq_true p160
     replace q160 := eq_true q160
     go_wp2_with (first | ((with_reducible refine gate_callee (f := 114) rfl ?_); refine goesL_ (some 19) rfl rfl Try.func114 (by kernel_rfl) rfl #[.int .i64 (rd l0 x6_1)] rfl la_ ?_; (with_reducible refine (spec_l2Kids.calls k1 (rd l0 x6_1) t161 _ A5.out).mono ?_); rintro e w' ⟨rfl, ⟨nd, rfl⟩⟩; refine ⟨_, rfl, ?_⟩))
     go_roundg k1
     case measure => have := HK1.out; omega
     case rel => exact ⟨(wrap64 ((wrap64 (x5_1 - 1)) + t161)), (wrap64 (x6_1 + 1)), sm_, sm_, H', ⟨by have := HK1.out; omega⟩, by repeat (first | exact Drawn0.refl _ | apply Drawn0.step)⟩
    rw [if_neg c4] at H
    exact absurd H (by simp)
   rw [if_neg c3] at H
   have c3b0 : decide (x6_1 < (l0.length : Int)) = false := decide_eq_false c3
   clear c3
   obtain rfl := Option.some.inj H
   go_wp2
   go_ret
   exact ⟨by first | rfl | (simp; done) | (simp [*]; done), by repeat (first | exact Drawn0.refl _ | apply Drawn0.step)⟩


/-! ### spec_l2Type: function 113 -/
def spec_l2Type.f (k : Nat) (l0 : List Int) : Option (Bool) := if (l0.length : Int) ≤ 40 then ((spec_l2End.f k l0 0).bind fun t162 => (if t162 = (l0.length : Int) then (some (decide ((l0.length : Int) > 0))) else (some false))) else (some false)
set_option maxHeartbeats 8000000 in
set_option maxRecDepth 100000 in
theorem spec_l2Type.calls (k : Nat) (A0 : Option Addr) (c0 : Nat) (l0 : List Int) (r : Bool) (w : World) (hr0 : Kd.C (Kd.int .i64) w A0 l0.length l0) (hc0 : l0.length ≤ c0) (h : spec_l2Type.f k l0 = some r) :
  Calls Try.prog 113 #[.slice A0 l0.length c0] w fun e w' => e = .returned (.bool r) ∧ Drawn0 w w' := by
 have HR0 := sd_ hr0
 have HC0 := sd_ hc0
 clear hr0 hc0
 have H : (if (l0.length : Int) ≤ 40 then ((spec_l2End.f k l0 0).bind fun t162 => (if t162 = (l0.length : Int) then (some (decide ((l0.length : Int) > 0))) else (some false))) else (some false)) = some r := h
 clear h
 by_cases c2 : (l0.length : Int) ≤ 40
 ·rw [if_pos c2] at H
  have c2b0 : decide ((l0.length : Int) ≤ 40) = true := decide_eq_true c2
  have c2b1 : decide (l0.length ≤ 40) = true := decide_eq_true (by omega)
  clear c2
  replace H := Option.bind_eq_some_iff.mp H
  obtain ⟨t162, A30, H⟩ := H
  try dsimp only at H
  have A3 := sd_ A30
  clear A30
  by_cases c4 : t162 = (l0.length : Int)
  ·rw [if_pos c4] at H
   have c4b0 : (t162 == (l0.length : Int)) = true := beq_iff_eq.mpr c4
   have c4b1 : (t162 != (l0.length : Int)) = false := bne_eq_false_iff_eq.mpr c4
   clear c4
   obtain rfl := Option.some.inj H
   go_enter Try.func113, Try.ntmps113
   go_wp2_with (first | (go_at_call 138; (with_reducible refine (spec_l2End.calls k _ _ l0 0 t162 _ (kp_ HR0.out) HC0.out A3.out).mono ?_); rintro e w' ⟨rfl, ⟨nd, rfl⟩⟩))
   go_ret
   exact ⟨by first | rfl | (simp; done) | (simp [*]; done), by repeat (first | exact Drawn0.refl _ | apply Drawn0.step)⟩
  rw [if_neg c4] at H
  have c4b0 : (t162 == (l0.length : Int)) = false := beq_eq_false_iff_ne.mpr c4
  have c4b1 : (t162 != (l0.length : Int)) = true := bne_iff_ne.mpr c4
  obtain rfl := Option.some.inj H
  go_enter Try.func113, Try.ntmps113
  go_wp2_with (first | (go_at_call 138; (with_reducible refine (spec_l2End.calls k _ _ l0 0 t162 _ (kp_ HR0.out) HC0.out A3.out).mono ?_); rintro e w' ⟨rfl, ⟨nd, rfl⟩⟩))
  go_ret
  exact ⟨by first | rfl | (simp; done) | (simp [*]; done), by repeat (first | exact Drawn0.refl _ | apply Drawn0.step)⟩
 rw [if_neg c2] at H
 have c2b0 : decide ((l0.length : Int) ≤ 40) = false := decide_eq_false c2
 have c2b1 : decide (l0.length ≤ 40) = false := decide_eq_false (by omega)
 clear c2
 obtain rfl := Option.some.inj H
 go_enter Try.func113, Try.ntmps113
 go_wp2
 go_ret
 exact ⟨by first | rfl | (simp; done) | (simp [*]; done), by repeat (first | exact Drawn0.refl _ | apply Drawn0.step)⟩


/-! ### spec_l2Node: function 111 -/
def spec_l2Node.j0 : Nat → Int → Bool → Int → Int → List Int → List (S40) → Option (Bool)
 | 0, _, _, _, _, _, _ => none
 | k + 1, x2, x3, x174000, x174001, x174002, x174003 => (spec_l2Typed.f x174000).bind fun t178 => (if t178 = true then ((spec_l2Type.f k x174002).bind fun t179 => (if t179 = true then ((spec_l2Graded.f k x174002 x2 x3).bind fun t180 => (some t180)) else (some false))) else (some ((x174002.length : Int) == 0)))
def spec_l2Node.f (k : Nat) (a0_0 : Int) (a0_1 : Int) (l0_2 : List Int) (l0_3 : List (S40)) (a1 : Int) (a2 : Int) (a3 : Bool) : Option (Bool) := (spec_l2Many.f a0_0).bind fun t174 => (if (l0_3.length : Int) = t174 then (if a0_0 = 0 then ((spec_l1In.f a0_1 0 (wrap64 (a1 - 1))).bind fun t175 => (if t175 = true then (spec_l2Node.j0 k a2 a3 a0_0 a0_1 l0_2 l0_3) else (some false))) else (if a0_0 = 1 then ((spec_l1In.f a0_1 0 2).bind fun t176 => (if t176 = true then (spec_l2Node.j0 k a2 a3 a0_0 a0_1 l0_2 l0_3) else (some false))) else ((spec_l2Has.f a0_0).bind fun t177 => (if t177 = true then (if a0_1 ≥ a2 then (some false) else (if a0_1 < (-1) then (some false) else (if a3 = true then (if a0_1 < 0 then (some false) else (spec_l2Node.j0 k a2 a3 a0_0 a0_1 l0_2 l0_3)) else (spec_l2Node.j0 k a2 a3 a0_0 a0_1 l0_2 l0_3)))) else (if a0_1 = 0 then (spec_l2Node.j0 k a2 a3 a0_0 a0_1 l0_2 l0_3) else (some false)))))) else (some false))
set_option maxHeartbeats 8000000 in
set_option maxRecDepth 100000 in
theorem spec_l2Node.calls (k : Nat) (a0_0 : Int) (a0_1 : Int) (A0_2 : Option Addr) (c0_2 : Nat) (l0_2 : List Int) (A0_3 : Option Addr) (c0_3 : Nat) (l0_3 : List (S40)) (a1 : Int) (a2 : Int) (a3 : Bool) (r : Bool) (w : World) (hr0_2 : Kd.C (Kd.int .i64) w A0_2 l0_2.length l0_2) (hc0_2 : l0_2.length ≤ c0_2) (hr0_3 : Kd.C k40 w A0_3 l0_3.length l0_3) (hc0_3 : l0_3.length ≤ c0_3) (h : spec_l2Node.f k a0_0 a0_1 l0_2 l0_3 a1 a2 a3 = some r) :
  Calls Try.prog 111 #[.agg #[.int .i64 a0_0, .int .i64 a0_1, .slice A0_2 l0_2.length c0_2, .slice A0_3 l0_3.length c0_3], .int .i64 a1, .int .i64 a2, .bool a3] w fun e w' => e = .returned (.bool r) ∧ Below w.heap.size w w' := by
 have hu40 := Try.underlying40
 have HR0_2 := sd_ hr0_2
 have HC0_2 := sd_ hc0_2
 clear hr0_2 hc0_2
 have HR0_3 := sd_ hr0_3
 have HC0_3 := sd_ hc0_3
 clear hr0_3 hc0_3
 have HB := sd_ (Below.refl w.heap.size w)
 have H : ((spec_l2Many.f a0_0).bind fun t174 => (if (l0_3.length : Int) = t174 then (if a0_0 = 0 then ((spec_l1In.f a0_1 0 (wrap64 (a1 - 1))).bind fun t175 => (if t175 = true then (spec_l2Node.j0 k a2 a3 a0_0 a0_1 l0_2 l0_3) else (some false))) else (if a0_0 = 1 then ((spec_l1In.f a0_1 0 2).bind fun t176 => (if t176 = true then (spec_l2Node.j0 k a2 a3 a0_0 a0_1 l0_2 l0_3) else (some false))) else ((spec_l2Has.f a0_0).bind fun t177 => (if t177 = true then (if a0_1 ≥ a2 then (some false) else (if a0_1 < (-1) then (some false) else (if a3 = true then (if a0_1 < 0 then (some false) else (spec_l2Node.j0 k a2 a3 a0_0 a0_1 l0_2 l0_3)) else (spec_l2Node.j0 k a2 a3 a0_0 a0_1 l0_2 l0_3)))) else (if a0_1 = 0 then (spec_l2Node.j0 k a2 a3 a0_0 a0_1 l0_2 l0_3) else (some false)))))) else (some false))) = some r := h
 clear h
 replace H := Option.bind_eq_some_iff.mp H
 obtain ⟨t174, A50, H⟩ := H
 try dsimp only at H
 have A5 := sd_ A50
 clear A50
 by_cases c6 : (l0_3.length : Int) = t174
 ·rw [if_pos c6] at H
  have c6b0 : ((l0_3.length : Int) == t174) = true := beq_iff_eq.mpr c6
  have c6b1 : ((l0_3.length : Int) != t174) = false := bne_eq_false_iff_eq.mpr c6
  clear c6
  have HC7 := sd_ H
  clear H
  go_enter Try.func111, Try.ntmps111
  try go_wp2_with (first | ((with_reducible refine gate_dst (N := 4) rfl ?_); refine bx_ (N := 4) (cs := #[.int .i64 a0_0, .int .i64 a0_1, .slice A0_2 l0_2.length c0_2, .slice A0_3 l0_3.length c0_3]) (t := 40) ?_; intro gb173 hg w8 hbox hb; have BK173 := sd_ (hbox); have GW173 := sd_ (gs_ hg (bw0_ HB.out)); have GE173 := sd_ (gs_ hg (bw0_ HB.out)); replace HB := sd_ (below_step (bw0_ HB.out) hb); clear hb hbox hg))
  refine qb_region (by kernel_rfl) (by kernel_rfl) ?_
  repeat ((first | (apply qb_skip; (focus rfl)) | (refine qb_callN 14 rfl ?_; apply qb_call 14 rfl Try.func136 (by kernel_rfl) rfl rfl; (focus rfl); (focus (exact fun wq9 hb9 => qb_b hb9 (spec_l2Many.calls a0_0 t174 _ A5.out))); (focus (rfl))) | (apply qb_val; (focus rfl); (focus (intro wq9 _; go_simp; with_reducible rfl))) | (apply qb_val; (focus rfl); (focus (intro wq9 hb9_; have hb9 : Below w8.heap.size w8 wq9 := hb9_; have BK173 := sd_ (blk_below BK173.out hb9); have hc9_173_0 : wq9.cell? ⟨gb173, 0, none⟩ = some (.int .i64 a0_0) := (blk_cell BK173.out 0).trans rfl; have hc9_173_1 : wq9.cell? ⟨gb173, 1, none⟩ = some (.int .i64 a0_1) := (blk_cell BK173.out 1).trans rfl; have hc9_173_2 : wq9.cell? ⟨gb173, 2, none⟩ = some (.slice A0_2 l0_2.length c0_2) := (blk_cell BK173.out 2).trans rfl; have hc9_173_3 : wq9.cell? ⟨gb173, 3, none⟩ = some (.slice A0_3 l0_3.length c0_3) := (blk_cell BK173.out 3).trans rfl; go_simp; with_reducible rfl)))); (focus (simp only [Act.put, List.setIfInBounds_toArray, List.set_cons_zero, List.set_cons_succ, i64_w, i32_w]; rfl)))
  refine qb_nil ?_
  intro w10 hb
  replace BK173 := sd_ (blk_below BK173.out hb)
  replace HB := sd_ (below_step HB.out hb)
  clear hb
  (try clear HQ)
  go_upto_block 0 with (fail)
  go_cut [] (fun wc => ∃ (kq : Nat), Aside0 (spec_l2Node.j0 kq a2 a3 a0_0 a0_1 l0_2 l0_3 = some r) ∧ Aside0 (kq ≤ k) ∧ Aside0 (wc.heap[gb173]? = some (.cells #[.int .i64 a0_0, .int .i64 a0_1, (.slice A0_2 l0_2.length c0_2), (.slice A0_3 l0_3.length c0_3)] 40 (0, 0))) ∧ Aside0 (Below w.heap.size w wc))
  case first =>
   have H := HC7.out
   clear HC7
   by_cases c11 : a0_0 = 0
   ·rw [if_pos c11] at H
    have c11b0 : (a0_0 == 0) = true := beq_iff_eq.mpr c11
    have c11b1 : (a0_0 != 0) = false := bne_eq_false_iff_eq.mpr c11
    clear c11
    (first | rw [c11b0] | (simp only [i64_w, i32_w]; rw [c11b0]) | skip)
    replace H := Option.bind_eq_some_iff.mp H
    obtain ⟨t175, A120, H⟩ := H
    try dsimp only at H
    have A12 := sd_ A120
    clear A120
    by_cases c13 : t175 = true
    ·subst c13
     have H1 : (spec_l2Node.j0 k a2 a3 a0_0 a0_1 l0_2 l0_3) = some r := by rw [if_pos rfl] at H; exact H
     clear H
     have H := H1
     clear H1
     have H' := sd_ H
     clear H
     obtain ⟨hcz14_0, hcz14_1, hcz14_2, hcz14_3, hfz14_0, hfz14_1, hfz14_2, hfz14_3⟩ := bf4_ BK173.out
     go_wp2_with (first | ((with_reducible refine gate_callee (f := 112) rfl ?_); refine goesL_ (some 27) rfl rfl Try.func112 (by kernel_rfl) rfl #[.int .i64 a0_1, .int .i64 0, .int .i64 (wrap64 (a1 - 1))] rfl la_ ?_; (with_reducible refine (spec_l1In.calls a0_1 0 (wrap64 (a1 - 1)) true _ A12.out).mono ?_); rintro e w' ⟨rfl, ⟨nd, rfl⟩⟩; refine ⟨_, rfl, ?_⟩))
     go_meet
     case rel => exact ⟨_, H', ⟨by first | omega | exact Nat.le_refl _⟩, ⟨by exact bz_ BK173.out⟩, ⟨bw1_ HB.out GE173.out⟩⟩
    replace c13 := Bool.eq_false_iff.mpr c13
    subst c13
    have H1 : (some false) = some r := by rw [if_neg (show ¬ (false = true) by decide)] at H; exact H
    clear H
    have H := H1
    clear H1
    obtain rfl := Option.some.inj H
    obtain ⟨hcz15_0, hcz15_1, hcz15_2, hcz15_3, hfz15_0, hfz15_1, hfz15_2, hfz15_3⟩ := bf4_ BK173.out
    go_wp2_with (first | ((with_reducible refine gate_callee (f := 112) rfl ?_); refine goesL_ (some 27) rfl rfl Try.func112 (by kernel_rfl) rfl #[.int .i64 a0_1, .int .i64 0, .int .i64 (wrap64 (a1 - 1))] rfl la_ ?_; (with_reducible refine (spec_l1In.calls a0_1 0 (wrap64 (a1 - 1)) false _ A12.out).mono ?_); rintro e w' ⟨rfl, ⟨nd, rfl⟩⟩; refine ⟨_, rfl, ?_⟩))
    go_ret
    exact ⟨an_, bw1_ HB.out GE173.out⟩
   rw [if_neg c11] at H
   have c11b0 : (a0_0 == 0) = false := beq_eq_false_iff_ne.mpr c11
   have c11b1 : (a0_0 != 0) = true := bne_iff_ne.mpr c11
   (first | rw [c11b0] | (simp only [i64_w, i32_w]; rw [c11b0]) | skip)
   by_cases c16 : a0_0 = 1
   ·rw [if_pos c16] at H
    have c16b0 : (a0_0 == 1) = true := beq_iff_eq.mpr c16
    have c16b1 : (a0_0 != 1) = false := bne_eq_false_iff_eq.mpr c16
    clear c16
    replace H := Option.bind_eq_some_iff.mp H
    obtain ⟨t176, A170, H⟩ := H
    try dsimp only at H
    have A17 := sd_ A170
    clear A170
    by_cases c18 : t176 = true
    ·subst c18
     have H1 : (spec_l2Node.j0 k a2 a3 a0_0 a0_1 l0_2 l0_3) = some r := by rw [if_pos rfl] at H; exact H
     clear H
     have H := H1
     clear H1
     have H' := sd_ H
     clear H
     obtain ⟨hcz19_0, hcz19_1, hcz19_2, hcz19_3, hfz19_0, hfz19_1, hfz19_2, hfz19_3⟩ := bf4_ BK173.out
     go_wp2_with (first | ((with_reducible refine gate_callee (f := 112) rfl ?_); refine goesL_ (some 35) rfl rfl Try.func112 (by kernel_rfl) rfl #[.int .i64 a0_1, .int .i64 0, .int .i64 2] rfl la_ ?_; (with_reducible refine (spec_l1In.calls a0_1 0 2 true _ A17.out).mono ?_); rintro e w' ⟨rfl, ⟨nd, rfl⟩⟩; refine ⟨_, rfl, ?_⟩))
     go_meet
     case rel => exact ⟨_, H', ⟨by first | omega | exact Nat.le_refl _⟩, ⟨by exact bz_ BK173.out⟩, ⟨bw1_ HB.out GE173.out⟩⟩
    replace c18 := Bool.eq_false_iff.mpr c18
    subst c18
    have H1 : (some false) = some r := by rw [if_neg (show ¬ (false = true) by decide)] at H; exact H
    clear H
    have H := H1
    clear H1
    obtain rfl := Option.some.inj H
    obtain ⟨hcz20_0, hcz20_1, hcz20_2, hcz20_3, hfz20_0, hfz20_1, hfz20_2, hfz20_3⟩ := bf4_ BK173.out
    go_wp2_with (first | ((with_reducible refine gate_callee (f := 112) rfl ?_); refine goesL_ (some 35) rfl rfl Try.func112 (by kernel_rfl) rfl #[.int .i64 a0_1, .int .i64 0, .int .i64 2] rfl la_ ?_; (with_reducible refine (spec_l1In.calls a0_1 0 2 false _ A17.out).mono ?_); rintro e w' ⟨rfl, ⟨nd, rfl⟩⟩; refine ⟨_, rfl, ?_⟩))
    go_ret
    exact ⟨an_, bw1_ HB.out GE173.out⟩
   rw [if_neg c16] at H
   have c16b0 : (a0_0 == 1) = false := beq_eq_false_iff_ne.mpr c16
   have c16b1 : (a0_0 != 1) = true := bne_iff_ne.mpr c16
   replace H := Option.bind_eq_some_iff.mp H
   obtain ⟨t177, A210, H⟩ := H
   try dsimp only at H
   have A21 := sd_ A210
   clear A210
   by_cases c22 : t177 = true
   ·subst c22
    have H1 : (if a0_1 ≥ a2 then (some false) else (if a0_1 < (-1) then (some false) else (if a3 = true then (if a0_1 < 0 then (some false) else (spec_l2Node.j0 k a2 a3 a0_0 a0_1 l0_2 l0_3)) else (spec_l2Node.j0 k a2 a3 a0_0 a0_1 l0_2 l0_3)))) = some r := by rw [if_pos rfl] at H; exact H
    clear H
    have H := H1
    clear H1
    by_cases c23 : a0_1 ≥ a2
    ·rw [if_pos c23] at H
     have c23b0 : decide (a2 ≤ a0_1) = true := decide_eq_true c23
     clear c23
     obtain rfl := Option.some.inj H
     obtain ⟨hcz24_0, hcz24_1, hcz24_2, hcz24_3, hfz24_0, hfz24_1, hfz24_2, hfz24_3⟩ := bf4_ BK173.out
     go_wp2_with (first | ((with_reducible refine gate_callee (f := 84) rfl ?_); refine goesL_ (some 40) rfl rfl Try.func84 (by kernel_rfl) rfl #[.int .i64 a0_0] rfl la_ ?_; (with_reducible refine (spec_l2Has.calls a0_0 true _ A21.out).mono ?_); rintro e w' ⟨rfl, ⟨nd, rfl⟩⟩; refine ⟨_, rfl, ?_⟩))
     go_ret
     exact ⟨an_, bw1_ HB.out GE173.out⟩
    rw [if_neg c23] at H
    have c23b0 : decide (a2 ≤ a0_1) = false := decide_eq_false c23
    clear c23
    by_cases c25 : a0_1 < (-1)
    ·rw [if_pos c25] at H
     have c25b0 : decide (a0_1 < (-1)) = true := decide_eq_true c25
     clear c25
     obtain rfl := Option.some.inj H
     obtain ⟨hcz26_0, hcz26_1, hcz26_2, hcz26_3, hfz26_0, hfz26_1, hfz26_2, hfz26_3⟩ := bf4_ BK173.out
     go_wp2_with (first | ((with_reducible refine gate_callee (f := 84) rfl ?_); refine goesL_ (some 40) rfl rfl Try.func84 (by kernel_rfl) rfl #[.int .i64 a0_0] rfl la_ ?_; (with_reducible refine (spec_l2Has.calls a0_0 true _ A21.out).mono ?_); rintro e w' ⟨rfl, ⟨nd, rfl⟩⟩; refine ⟨_, rfl, ?_⟩))
     go_ret
     exact ⟨an_, bw1_ HB.out GE173.out⟩
    rw [if_neg c25] at H
    have c25b0 : decide (a0_1 < (-1)) = false := decide_eq_false c25
    clear c25
    by_cases c27 : a3 = true
    ·subst c27
     have H1 : (if a0_1 < 0 then (some false) else (spec_l2Node.j0 k a2 true a0_0 a0_1 l0_2 l0_3)) = some r := by rw [if_pos rfl] at H; exact H
     clear H
     have H := H1
     clear H1
     by_cases c28 : a0_1 < 0
     ·rw [if_pos c28] at H
      have c28b0 : decide (a0_1 < 0) = true := decide_eq_true c28
      clear c28
      obtain rfl := Option.some.inj H
      obtain ⟨hcz29_0, hcz29_1, hcz29_2, hcz29_3, hfz29_0, hfz29_1, hfz29_2, hfz29_3⟩ := bf4_ BK173.out
      go_wp2_with (first | ((with_reducible refine gate_callee (f := 84) rfl ?_); refine goesL_ (some 40) rfl rfl Try.func84 (by kernel_rfl) rfl #[.int .i64 a0_0] rfl la_ ?_; (with_reducible refine (spec_l2Has.calls a0_0 true _ A21.out).mono ?_); rintro e w' ⟨rfl, ⟨nd, rfl⟩⟩; refine ⟨_, rfl, ?_⟩))
      go_ret
      exact ⟨an_, bw1_ HB.out GE173.out⟩
     rw [if_neg c28] at H
     have c28b0 : decide (a0_1 < 0) = false := decide_eq_false c28
     clear c28
     have H' := sd_ H
     clear H
     obtain ⟨hcz30_0, hcz30_1, hcz30_2, hcz30_3, hfz30_0, hfz30_1, hfz30_2, hfz30_3⟩ := bf4_ BK173.out
     go_wp2_with (first | ((with_reducible refine gate_callee (f := 84) rfl ?_); refine goesL_ (some 40) rfl rfl Try.func84 (by kernel_rfl) rfl #[.int .i64 a0_0] rfl la_ ?_; (with_reducible refine (spec_l2Has.calls a0_0 true _ A21.out).mono ?_); rintro e w' ⟨rfl, ⟨nd, rfl⟩⟩; refine ⟨_, rfl, ?_⟩))
     go_meet
     case rel => exact ⟨_, H', ⟨by first | omega | exact Nat.le_refl _⟩, ⟨by exact bz_ BK173.out⟩, ⟨bw1_ HB.out GE173.out⟩⟩
    replace c27 := Bool.eq_false_iff.mpr c27
    subst c27
    have H1 : (spec_l2Node.j0 k a2 false a0_0 a0_1 l0_2 l0_3) = some r := by rw [if_neg (show ¬ (false = true) by decide)] at H; exact H
    clear H
    have H := H1
    clear H1
    have H' := sd_ H
    clear H
    obtain ⟨hcz31_0, hcz31_1, hcz31_2, hcz31_3, hfz31_0, hfz31_1, hfz31_2, hfz31_3⟩ := bf4_ BK173.out
    go_wp2_with (first | ((with_reducible refine gate_callee (f := 84) rfl ?_); refine goesL_ (some 40) rfl rfl Try.func84 (by kernel_rfl) rfl #[.int .i64 a0_0] rfl la_ ?_; (with_reducible refine (spec_l2Has.calls a0_0 true _ A21.out).mono ?_); rintro e w' ⟨rfl, ⟨nd, rfl⟩⟩; refine ⟨_, rfl, ?_⟩))
    go_meet
    case rel => exact ⟨_, H', ⟨by first | omega | exact Nat.le_refl _⟩, ⟨by exact bz_ BK173.out⟩, ⟨bw1_ HB.out GE173.out⟩⟩
   replace c22 := Bool.eq_false_iff.mpr c22
   subst c22
   have H1 : (if a0_1 = 0 then (spec_l2Node.j0 k a2 a3 a0_0 a0_1 l0_2 l0_3) else (some false)) = some r := by rw [if_neg (show ¬ (false = true) by decide)] at H; exact H
   clear H
   have H := H1
   clear H1
   by_cases c32 : a0_1 = 0
   ·rw [if_pos c32] at H
    have c32b0 : (a0_1 == 0) = true := beq_iff_eq.mpr c32
    have c32b1 : (a0_1 != 0) = false := bne_eq_false_iff_eq.mpr c32
    clear c32
    have H' := sd_ H
    clear H
    obtain ⟨hcz33_0, hcz33_1, hcz33_2, hcz33_3, hfz33_0, hfz33_1, hfz33_2, hfz33_3⟩ := bf4_ BK173.out
    go_wp2_with (first | ((with_reducible refine gate_callee (f := 84) rfl ?_); refine goesL_ (some 40) rfl rfl Try.func84 (by kernel_rfl) rfl #[.int .i64 a0_0] rfl la_ ?_; (with_reducible refine (spec_l2Has.calls a0_0 false _ A21.out).mono ?_); rintro e w' ⟨rfl, ⟨nd, rfl⟩⟩; refine ⟨_, rfl, ?_⟩))
    go_meet
    case rel => exact ⟨_, H', ⟨by first | omega | exact Nat.le_refl _⟩, ⟨by exact bz_ BK173.out⟩, ⟨bw1_ HB.out GE173.out⟩⟩
   rw [if_neg c32] at H
   have c32b0 : (a0_1 == 0) = false := beq_eq_false_iff_ne.mpr c32
   have c32b1 : (a0_1 != 0) = true := bne_iff_ne.mpr c32
   obtain rfl := Option.some.inj H
   obtain ⟨hcz34_0, hcz34_1, hcz34_2, hcz34_3, hfz34_0, hfz34_1, hfz34_2, hfz34_3⟩ := bf4_ BK173.out
   go_wp2_with (first | ((with_reducible refine gate_callee (f := 84) rfl ?_); refine goesL_ (some 40) rfl rfl Try.func84 (by kernel_rfl) rfl #[.int .i64 a0_0] rfl la_ ?_; (with_reducible refine (spec_l2Has.calls a0_0 false _ A21.out).mono ?_); rintro e w' ⟨rfl, ⟨nd, rfl⟩⟩; refine ⟨_, rfl, ?_⟩))
   go_ret
   exact ⟨an_, bw1_ HB.out GE173.out⟩
  case rest =>
   clear HC7
   try clear c1
   try clear p2
   try clear c6
   try clear c6b0
   try clear c6b1
   try clear p6
   try clear c9
   try clear q9
   try clear c11
   try clear c13
   obtain ⟨kq, HA, HJ6, BK173, HB⟩ := hcut
   cases kq with
   | zero => exact absurd HA.out (by simp [spec_l2Node.j0])
   | succ kj6 =>
    have H := HA.out
    clear HA
    simp only [spec_l2Node.j0] at H
    replace H := Option.bind_eq_some_iff.mp H
    obtain ⟨t178, A350, H⟩ := H
    try dsimp only at H
    have A35 := sd_ A350
    clear A350
    by_cases c36 : t178 = true
    ·subst c36
     have H1 : ((spec_l2Type.f kj6 l0_2).bind fun t179 => (if t179 = true then ((spec_l2Graded.f kj6 l0_2 a2 a3).bind fun t180 => (some t180)) else (some false))) = some r := by rw [if_pos rfl] at H; exact H
     clear H
     have H := H1
     clear H1
     replace H := Option.bind_eq_some_iff.mp H
     obtain ⟨t179, A370, H⟩ := H
     try dsimp only at H
     have A37 := sd_ A370
     clear A370
     by_cases c38 : t179 = true
     ·subst c38
      have H1 : ((spec_l2Graded.f kj6 l0_2 a2 a3).bind fun t180 => (some t180)) = some r := by rw [if_pos rfl] at H; exact H
      clear H
      have H := H1
      clear H1
      replace H := Option.bind_eq_some_iff.mp H
      obtain ⟨t180, A390, H⟩ := H
      try dsimp only at H
      have A39 := sd_ A390
      clear A390
      obtain rfl := Option.some.inj H
      obtain ⟨hcz40_0, hcz40_1, hcz40_2, hcz40_3, hfz40_0, hfz40_1, hfz40_2, hfz40_3⟩ := bf4_ BK173.out
      go_wp2_with (first | ((with_reducible refine gate_callee (f := 86) rfl ?_); refine goesL_ (some 60) rfl rfl Try.func86 (by kernel_rfl) rfl #[.int .i64 a0_0] rfl la_ ?_; (with_reducible refine (spec_l2Typed.calls a0_0 true _ A35.out).mono ?_); rintro e w' ⟨rfl, ⟨nd, rfl⟩⟩; refine ⟨_, rfl, ?_⟩) | ((with_reducible refine gate_callee (f := 113) rfl ?_); refine goesL_ (some 68) rfl rfl Try.func113 (by kernel_rfl) rfl #[.slice A0_2 l0_2.length c0_2] rfl la_ ?_; (with_reducible refine (spec_l2Type.calls kj6 _ _ l0_2 true _ ?side1 ?side2 A37.out).mono ?_); (case side1 => repeat (first | exact (Kd.C_below HR0_2.out (bw1_ HB.out GE173.out)) | (with_reducible refine Kd.C_alloc ?_ _) | (with_reducible refine Kd.C_drewN ?_ _) | (with_reducible refine Kd.C_drew ?_))); (case side2 => exact HC0_2.out); rintro e w' ⟨rfl, ⟨nd, rfl⟩⟩; refine ⟨_, rfl, ?_⟩) | (go_at_call 137; (with_reducible refine (spec_l2Graded.calls kj6 _ _ l0_2 a2 a3 t180 _ ?side1 ?side2 A39.out).mono ?_); (case side1 => repeat (first | exact (Kd.C_below HR0_2.out (bw1_ HB.out GE173.out)) | (with_reducible refine Kd.C_alloc ?_ _) | (with_reducible refine Kd.C_drewN ?_ _) | (with_reducible refine Kd.C_drew ?_))); (case side2 => exact HC0_2.out); rintro e w' ⟨rfl, ⟨nd, rfl⟩⟩))
      go_ret
      exact ⟨an_, bw1_ HB.out GE173.out⟩
     replace c38 := Bool.eq_false_iff.mpr c38
     subst c38
     have H1 : (some false) = some r := by rw [if_neg (show ¬ (false = true) by decide)] at H; exact H
     clear H
     have H := H1
     clear H1
     obtain rfl := Option.some.inj H
     obtain ⟨hcz41_0, hcz41_1, hcz41_2, hcz41_3, hfz41_0, hfz41_1, hfz41_2, hfz41_3⟩ := bf4_ BK173.out
     go_wp2_with (first | ((with_reducible refine gate_callee (f := 86) rfl ?_); refine goesL_ (some 60) rfl rfl Try.func86 (by kernel_rfl) rfl #[.int .i64 a0_0] rfl la_ ?_; (with_reducible refine (spec_l2Typed.calls a0_0 true _ A35.out).mono ?_); rintro e w' ⟨rfl, ⟨nd, rfl⟩⟩; refine ⟨_, rfl, ?_⟩) | ((with_reducible refine gate_callee (f := 113) rfl ?_); refine goesL_ (some 68) rfl rfl Try.func113 (by kernel_rfl) rfl #[.slice A0_2 l0_2.length c0_2] rfl la_ ?_; (with_reducible refine (spec_l2Type.calls kj6 _ _ l0_2 false _ ?side1 ?side2 A37.out).mono ?_); (case side1 => repeat (first | exact (Kd.C_below HR0_2.out (bw1_ HB.out GE173.out)) | (with_reducible refine Kd.C_alloc ?_ _) | (with_reducible refine Kd.C_drewN ?_ _) | (with_reducible refine Kd.C_drew ?_))); (case side2 => exact HC0_2.out); rintro e w' ⟨rfl, ⟨nd, rfl⟩⟩; refine ⟨_, rfl, ?_⟩))
     go_ret
     exact ⟨an_, bw1_ HB.out GE173.out⟩
    replace c36 := Bool.eq_false_iff.mpr c36
    subst c36
    have H1 : (some ((l0_2.length : Int) == 0)) = some r := by rw [if_neg (show ¬ (false = true) by decide)] at H; exact H
    clear H
    have H := H1
    clear H1
    obtain rfl := Option.some.inj H
    obtain ⟨hcz42_0, hcz42_1, hcz42_2, hcz42_3, hfz42_0, hfz42_1, hfz42_2, hfz42_3⟩ := bf4_ BK173.out
    go_wp2_with (first | ((with_reducible refine gate_callee (f := 86) rfl ?_); refine goesL_ (some 60) rfl rfl Try.func86 (by kernel_rfl) rfl #[.int .i64 a0_0] rfl la_ ?_; (with_reducible refine (spec_l2Typed.calls a0_0 false _ A35.out).mono ?_); rintro e w' ⟨rfl, ⟨nd, rfl⟩⟩; refine ⟨_, rfl, ?_⟩))
    go_ret
    exact ⟨an_, bw1_ HB.out GE173.out⟩
 rw [if_neg c6] at H
 have c6b0 : ((l0_3.length : Int) == t174) = false := beq_eq_false_iff_ne.mpr c6
 have c6b1 : ((l0_3.length : Int) != t174) = true := bne_iff_ne.mpr c6
 obtain rfl := Option.some.inj H
 go_enter Try.func111, Try.ntmps111
 try go_wp2_with (first | ((with_reducible refine gate_dst (N := 4) rfl ?_); refine bx_ (N := 4) (cs := #[.int .i64 a0_0, .int .i64 a0_1, .slice A0_2 l0_2.length c0_2, .slice A0_3 l0_3.length c0_3]) (t := 40) ?_; intro gb173 hg w43 hbox hb; have BK173 := sd_ (hbox); have GW173 := sd_ (gs_ hg (bw0_ HB.out)); have GE173 := sd_ (gs_ hg (bw0_ HB.out)); replace HB := sd_ (below_step (bw0_ HB.out) hb); clear hb hbox hg))
 refine qb_region (by kernel_rfl) (by kernel_rfl) ?_
 repeat ((first | (apply qb_skip; (focus rfl)) | (refine qb_callN 14 rfl ?_; apply qb_call 14 rfl Try.func136 (by kernel_rfl) rfl rfl; (focus rfl); (focus (exact fun wq9 hb9 => qb_b hb9 (spec_l2Many.calls a0_0 t174 _ A5.out))); (focus (rfl))) | (apply qb_val; (focus rfl); (focus (intro wq9 _; go_simp; with_reducible rfl))) | (apply qb_val; (focus rfl); (focus (intro wq9 hb9_; have hb9 : Below w43.heap.size w43 wq9 := hb9_; have BK173 := sd_ (blk_below BK173.out hb9); have hc9_173_0 : wq9.cell? ⟨gb173, 0, none⟩ = some (.int .i64 a0_0) := (blk_cell BK173.out 0).trans rfl; have hc9_173_1 : wq9.cell? ⟨gb173, 1, none⟩ = some (.int .i64 a0_1) := (blk_cell BK173.out 1).trans rfl; have hc9_173_2 : wq9.cell? ⟨gb173, 2, none⟩ = some (.slice A0_2 l0_2.length c0_2) := (blk_cell BK173.out 2).trans rfl; have hc9_173_3 : wq9.cell? ⟨gb173, 3, none⟩ = some (.slice A0_3 l0_3.length c0_3) := (blk_cell BK173.out 3).trans rfl; go_simp; with_reducible rfl)))); (focus (simp only [Act.put, List.setIfInBounds_toArray, List.set_cons_zero, List.set_cons_succ, i64_w, i32_w]; rfl)))
 refine qb_nil ?_
 intro w45 hb
 replace BK173 := sd_ (blk_below BK173.out hb)
 replace HB := sd_ (below_step HB.out hb)
 clear hb
 (try clear HQ)
 try go_wp2
 go_ret
 exact ⟨an_, bw1_ HB.out GE173.out⟩

end Go.Proofs.Ytipfkicndjddgaa.P
end
