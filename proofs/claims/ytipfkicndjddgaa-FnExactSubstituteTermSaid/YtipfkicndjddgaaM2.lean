-- Several texts in one (wip/tools/merge.py).
import Derived.Test.YtipfkicndjddgaaP0
import Derived.Test.YtipfkicndjddgaaM1
section
namespace Go.Proofs.Ytipfkicndjddgaa.P
open Go.RowKit Go.Proofs.YtipfkicndjddgaaW.PrintWords Go.Proofs.YtipfkicndjddgaaW.PrintLast Go.Proofs.YtipfkicndjddgaaW.PrintMore
attribute [local go_sem] max2_int min2_int max_two min_two max_three min_three max_four min_four   -- for this text's walks alone
set_option linter.unusedVariables false
set_option linter.unusedSimpArgs false

/-! ### laws_szTermS: function 59 -/
/-! ### laws_szTerm: function 15 -/
mutual
def laws_szTermS.l0 : Nat → List (S36) → Int → Int → Option (Int)
 | 0, _, _, _ => none
 | k + 1, x0, x1, x5 => if x5 < (x0.length : Int) then (if 0 ≤ x5 then ((laws_szTerm.f k ((rd_T36 x0 x5).f0) ((rd_T36 x0 x5).f1) ((rd_T36 x0 x5).f2) ((rd_T36 x0 x5).f3) x1).bind fun t102 => (if t102 < 0 then (some (-1)) else (laws_szTermS.l0 k x0 t102 (wrap64 (x5 + 1))))) else (none)) else (some x1)
def laws_szTermS.f : Nat → List (S36) → Int → Option (Int)
 | 0, _, _ => none
 | k + 1, l0, a1 => if (wrap64 (a1 - (l0.length : Int))) < 0 then (some (-1)) else (laws_szTermS.l0 k l0 (wrap64 (a1 - (l0.length : Int))) 0)
def laws_szTerm.f : Nat → Int → Int → List Int → List (S36) → Int → Option (Int)
 | 0, _, _, _, _, _ => none
 | k + 1, a0_0, a0_1, l0_2, l0_3, a1 => (laws_szIntS.f l0_2 a1).bind fun t104 => (if t104 < 0 then (some (-1)) else ((laws_szTermS.f k l0_3 t104).bind fun t105 => (if t105 < 0 then (some (-1)) else (some t105))))
end
set_option maxHeartbeats 8000000 in
set_option maxRecDepth 100000 in
theorem laws_szTermS.step (k : Nat) (ih : ∀ k_, k_ < k → (∀ (A0 : Option Addr) (c0 : Nat) (l0 : List (S36)) (a1 : Int) (r : Int) (w : World) (hr0 : Kd.C k36 w A0 l0.length l0) (hc0 : l0.length ≤ c0) (h : laws_szTermS.f k_ l0 a1 = some r), Calls Try.prog 59 #[.slice A0 l0.length c0, .int .i64 a1] w fun e w' => e = .returned (.int .i64 r) ∧ Below w.heap.size w w')) (ihm : ∀ k_, k_ < k → (∀ (a0_0 : Int) (a0_1 : Int) (A0_2 : Option Addr) (c0_2 : Nat) (l0_2 : List Int) (A0_3 : Option Addr) (c0_3 : Nat) (l0_3 : List (S36)) (a1 : Int) (r : Int) (w : World) (hr0_2 : Kd.C (Kd.int .i64) w A0_2 l0_2.length l0_2) (hc0_2 : l0_2.length ≤ c0_2) (hr0_3 : Kd.C k36 w A0_3 l0_3.length l0_3) (hc0_3 : l0_3.length ≤ c0_3) (h : laws_szTerm.f k_ a0_0 a0_1 l0_2 l0_3 a1 = some r), Calls Try.prog 15 #[.agg #[.int .i64 a0_0, .int .i64 a0_1, .slice A0_2 l0_2.length c0_2, .slice A0_3 l0_3.length c0_3], .int .i64 a1] w fun e w' => e = .returned (.int .i64 r) ∧ Below w.heap.size w w')) : ∀ (A0 : Option Addr) (c0 : Nat) (l0 : List (S36)) (a1 : Int) (r : Int) (w : World) (hr0 : Kd.C k36 w A0 l0.length l0) (hc0 : l0.length ≤ c0) (h : laws_szTermS.f k l0 a1 = some r),
  Calls Try.prog 59 #[.slice A0 l0.length c0, .int .i64 a1] w fun e w' => e = .returned (.int .i64 r) ∧ Below w.heap.size w w' := by
 intro A0 c0 l0 a1 r w hr0 hc0 h
 cases k with
 | zero => exact absurd h (by simp [laws_szTermS.f])
 | succ k =>
 simp only [laws_szTermS.f] at h
 have hu36 := Try.underlying36
 have HR0 := sd_ hr0
 have HC0 := sd_ hc0
 clear hr0 hc0
 have HB := sd_ (Below.refl w.heap.size w)
 have H : (if (wrap64 (a1 - (l0.length : Int))) < 0 then (some (-1)) else (laws_szTermS.l0 k l0 (wrap64 (a1 - (l0.length : Int))) 0)) = some r := h
 clear h
 by_cases c3 : (wrap64 (a1 - (l0.length : Int))) < 0
 ·rw [if_pos c3] at H
  have c3b0 : decide ((wrap64 (a1 - (l0.length : Int))) < 0) = true := decide_eq_true c3
  clear c3
  obtain rfl := Option.some.inj H
  go_enter Try.func59, Try.ntmps59
  go_wp2
  go_ret
  exact ⟨an_, bw0_ HB.out⟩
 rw [if_neg c3] at H
 have c3b0 : decide ((wrap64 (a1 - (l0.length : Int))) < 0) = false := decide_eq_false c3
 clear c3
 have H' := sd_ H
 clear H
 go_enter Try.func59, Try.ntmps59
 go_wp2
 go_loopg [1, 5] k (fun kq v1 v5 w' => ∃ (x1_1 : Int) (x5_1 : Int), v1 = .int .i64 x1_1 ∧ v5 = .int .i64 x5_1 ∧ Aside0 (laws_szTermS.l0 kq l0 x1_1 x5_1 = some r) ∧ Aside0 (kq ≤ k) ∧ Aside0 (Below w.heap.size w w'))
 case atStart => exact ⟨(wrap64 (a1 - (l0.length : Int))), (0), sm_, sm_, H', ⟨Nat.le_refl _⟩, ⟨bw0_ HB.out⟩⟩
 case round =>
  clear H'
  try clear p2
  try clear c3
  try clear c3b0
  obtain ⟨x1_1, x5_1, rfl, rfl, HA, HK1, HB⟩ := hrel
  cases gk with
  | zero => exact absurd HA.out (by simp [laws_szTermS.l0])
  | succ k1 =>
   have H := HA.out
   clear HA
   simp only [laws_szTermS.l0] at H
   by_cases c4 : x5_1 < (l0.length : Int)
   ·rw [if_pos c4] at H
    have c4b0 : decide (x5_1 < (l0.length : Int)) = true := decide_eq_true c4
    clear c4
    by_cases c5 : 0 ≤ x5_1
    ·rw [if_pos c5] at H
     have c5b0 : decide (0 ≤ x5_1) = true := decide_eq_true c5
     clear c5
     replace H := Option.bind_eq_some_iff.mp H
     obtain ⟨t102, A60, H⟩ := H
     try dsimp only at H
     have A6 := sd_ A60
     clear A60
     have HP7 := sd_ H
     clear H
     have p101 : 0 ≤ (x5_1 : Int) := dt_
     have q101 : x5_1 < (l0.length : Int) := dt_
     obtain ⟨ad101, A101_2, c101_2, A101_3, c101_3, e101, hx101_0, hx101_1, hx101_2, hx101_3, hl101_2, hi101_2, hl101_3, hi101_3⟩ := at_T36 HR0.out x5_1 p101 q101
     cases e101
     replace hx101_0 := (HB.out.cell (World.block_lt_of_cell? w _ hx101_0)).trans hx101_0
     replace hx101_1 := (HB.out.cell (World.block_lt_of_cell? w _ hx101_1)).trans hx101_1
     replace hx101_2 := (HB.out.cell (World.block_lt_of_cell? w _ hx101_2)).trans hx101_2
     replace hx101_3 := (HB.out.cell (World.block_lt_of_cell? w _ hx101_3)).trans hx101_3
     have HR101_2 := sd_ hi101_2
     have HC101_2 := sd_ hl101_2
     clear hi101_2 hl101_2
     have HR101_3 := sd_ hi101_3
     have HC101_3 := sd_ hl101_3
     clear hi101_3 hl101_3
     replace p101 := eq_true p101
     replace q101 := eq_true q101
     go_upto_if 25 with (first | ((with_reducible refine gate_callee (f := 15) rfl ?_); refine goesL_ (some 23) rfl rfl Try.func15 (by kernel_rfl) rfl #[.agg #[.int .i64 ((rd_T36 l0 x5_1).f0), .int .i64 ((rd_T36 l0 x5_1).f1), .slice A101_2 ((rd_T36 l0 x5_1).f2).length c101_2, .slice A101_3 ((rd_T36 l0 x5_1).f3).length c101_3], .int .i64 x1_1] rfl la_ ?_; (with_reducible refine (ihm k1 (by have := HK1.out; omega) ((rd_T36 l0 x5_1).f0) ((rd_T36 l0 x5_1).f1) _ _ ((rd_T36 l0 x5_1).f2) _ _ ((rd_T36 l0 x5_1).f3) x1_1 t102 _ ?side1 ?side2 ?side3 ?side4 A6.out).mono ?_); (case side1 => exact kc_ HR101_2.out HB.out); (case side2 => exact HC101_2.out); (case side3 => exact kc_ HR101_3.out HB.out); (case side4 => exact HC101_3.out); rintro e w8 ⟨rfl, hb⟩; refine ⟨_, rfl, ?_⟩; have n0_ := sd_ (below_step (bw0_ HB.out) hb); clear HB; have HB := n0_; clear n0_; (try clear hb)))
     have H := HP7.out
     clear HP7
     by_cases c9 : t102 < 0
     ·rw [if_pos c9] at H
      have c9b0 : decide (t102 < 0) = true := decide_eq_true c9
      clear c9
      (first | rw [c9b0] | (simp only [i64_w, i32_w]; rw [c9b0]) | skip)
      obtain rfl := Option.some.inj H
      go_wp2
      go_ret
      exact ⟨an_, bw0_ HB.out⟩
     rw [if_neg c9] at H
     have c9b0 : decide (t102 < 0) = false := decide_eq_false c9
     clear c9
     (first | rw [c9b0] | (simp only [i64_w, i32_w]; rw [c9b0]) | skip)
     have H' := sd_ H
     clear H
     go_wp2
     go_roundg k1
     case measure => have := HK1.out; omega
     case rel => exact ⟨(t102), (wrap64 (x5_1 + 1)), sm_, sm_, H', ⟨by have := HK1.out; omega⟩, ⟨bw0_ HB.out⟩⟩
    rw [if_neg c5] at H
    exact absurd H (by simp)
   rw [if_neg c4] at H
   have c4b0 : decide (x5_1 < (l0.length : Int)) = false := decide_eq_false c4
   clear c4
   obtain rfl := Option.some.inj H
   go_wp2
   go_ret
   exact ⟨an_, bw0_ HB.out⟩


set_option maxHeartbeats 8000000 in
set_option maxRecDepth 100000 in
theorem laws_szTerm.step (k : Nat) (ih : ∀ k_, k_ < k → (∀ (a0_0 : Int) (a0_1 : Int) (A0_2 : Option Addr) (c0_2 : Nat) (l0_2 : List Int) (A0_3 : Option Addr) (c0_3 : Nat) (l0_3 : List (S36)) (a1 : Int) (r : Int) (w : World) (hr0_2 : Kd.C (Kd.int .i64) w A0_2 l0_2.length l0_2) (hc0_2 : l0_2.length ≤ c0_2) (hr0_3 : Kd.C k36 w A0_3 l0_3.length l0_3) (hc0_3 : l0_3.length ≤ c0_3) (h : laws_szTerm.f k_ a0_0 a0_1 l0_2 l0_3 a1 = some r), Calls Try.prog 15 #[.agg #[.int .i64 a0_0, .int .i64 a0_1, .slice A0_2 l0_2.length c0_2, .slice A0_3 l0_3.length c0_3], .int .i64 a1] w fun e w' => e = .returned (.int .i64 r) ∧ Below w.heap.size w w')) (ihm : ∀ k_, k_ < k → (∀ (A0 : Option Addr) (c0 : Nat) (l0 : List (S36)) (a1 : Int) (r : Int) (w : World) (hr0 : Kd.C k36 w A0 l0.length l0) (hc0 : l0.length ≤ c0) (h : laws_szTermS.f k_ l0 a1 = some r), Calls Try.prog 59 #[.slice A0 l0.length c0, .int .i64 a1] w fun e w' => e = .returned (.int .i64 r) ∧ Below w.heap.size w w')) : ∀ (a0_0 : Int) (a0_1 : Int) (A0_2 : Option Addr) (c0_2 : Nat) (l0_2 : List Int) (A0_3 : Option Addr) (c0_3 : Nat) (l0_3 : List (S36)) (a1 : Int) (r : Int) (w : World) (hr0_2 : Kd.C (Kd.int .i64) w A0_2 l0_2.length l0_2) (hc0_2 : l0_2.length ≤ c0_2) (hr0_3 : Kd.C k36 w A0_3 l0_3.length l0_3) (hc0_3 : l0_3.length ≤ c0_3) (h : laws_szTerm.f k a0_0 a0_1 l0_2 l0_3 a1 = some r),
  Calls Try.prog 15 #[.agg #[.int .i64 a0_0, .int .i64 a0_1, .slice A0_2 l0_2.length c0_2, .slice A0_3 l0_3.length c0_3], .int .i64 a1] w fun e w' => e = .returned (.int .i64 r) ∧ Below w.heap.size w w' := by
 intro a0_0 a0_1 A0_2 c0_2 l0_2 A0_3 c0_3 l0_3 a1 r w hr0_2 hc0_2 hr0_3 hc0_3 h
 cases k with
 | zero => exact absurd h (by simp [laws_szTerm.f])
 | succ k =>
 simp only [laws_szTerm.f] at h
 have hu36 := Try.underlying36
 have HR0_2 := sd_ hr0_2
 have HC0_2 := sd_ hc0_2
 clear hr0_2 hc0_2
 have HR0_3 := sd_ hr0_3
 have HC0_3 := sd_ hc0_3
 clear hr0_3 hc0_3
 have HB := sd_ (Below.refl w.heap.size w)
 have H : ((laws_szIntS.f l0_2 a1).bind fun t104 => (if t104 < 0 then (some (-1)) else ((laws_szTermS.f k l0_3 t104).bind fun t105 => (if t105 < 0 then (some (-1)) else (some t105))))) = some r := h
 clear h
 replace H := Option.bind_eq_some_iff.mp H
 obtain ⟨t104, A30, H⟩ := H
 try dsimp only at H
 have A3 := sd_ A30
 clear A30
 have HP4 := sd_ H
 clear H
 go_enter Try.func15, Try.ntmps15
 go_upto_if 10 with (first | ((with_reducible refine gate_dst (N := 2) rfl ?_); refine bx_ (N := 2) (cs := #[.int .i64 a0_0, .int .i64 a0_1, .slice A0_2 l0_2.length c0_2, .slice A0_3 l0_3.length c0_3]) (t := 36) ?_; intro gb103 hg w5 hbox hb; have BK103 := sd_ (hbox); have GW103 := sd_ (gs_ hg (bw0_ HB.out)); have GE103 := sd_ (gs_ hg (bw0_ HB.out)); replace HB := sd_ (below_step (bw0_ HB.out) hb); clear hb hbox hg; obtain ⟨hcz6_0, hcz6_1, hcz6_2, hcz6_3, hfz6_0, hfz6_1, hfz6_2, hfz6_3⟩ := bf4_ BK103.out) | ((with_reducible refine gate_callee (f := 34) rfl ?_); refine goesL_ (some 8) rfl rfl Try.func34 (by kernel_rfl) rfl #[.slice A0_2 l0_2.length c0_2, .int .i64 a1] rfl la_ ?_; (with_reducible refine (laws_szIntS.calls _ _ l0_2 a1 t104 _ (kc_ HR0_2.out HB.out) HC0_2.out A3.out).mono ?_); rintro e w' ⟨rfl, ⟨nd, rfl⟩⟩; refine ⟨_, rfl, ?_⟩))
 have H := HP4.out
 clear HP4
 by_cases c7 : t104 < 0
 ·rw [if_pos c7] at H
  have c7b0 : decide (t104 < 0) = true := decide_eq_true c7
  clear c7
  (first | rw [c7b0] | (simp only [i64_w, i32_w]; rw [c7b0]) | skip)
  obtain rfl := Option.some.inj H
  go_wp2
  go_ret
  exact ⟨an_, bw1_ HB.out GE103.out⟩
 rw [if_neg c7] at H
 have c7b0 : decide (t104 < 0) = false := decide_eq_false c7
 clear c7
 (first | rw [c7b0] | (simp only [i64_w, i32_w]; rw [c7b0]) | skip)
 replace H := Option.bind_eq_some_iff.mp H
 obtain ⟨t105, A80, H⟩ := H
 try dsimp only at H
 have A8 := sd_ A80
 clear A80
 have HP9 := sd_ H
 clear H
 obtain ⟨hcz10_0, hcz10_1, hcz10_2, hcz10_3, hfz10_0, hfz10_1, hfz10_2, hfz10_3⟩ := bf4_ BK103.out
 go_upto_if 16 with (first | ((with_reducible refine gate_callee (f := 59) rfl ?_); refine goesL_ (some 14) rfl rfl Try.func59 (by kernel_rfl) rfl #[.slice A0_3 l0_3.length c0_3, .int .i64 t104] rfl la_ ?_; (with_reducible refine (ihm k (by omega) _ _ l0_3 t104 t105 _ ?side1 ?side2 A8.out).mono ?_); (case side1 => exact kc_ HR0_3.out HB.out); (case side2 => exact HC0_3.out); rintro e w11 ⟨rfl, hb⟩; refine ⟨_, rfl, ?_⟩; replace BK103 := sd_ (bb_ BK103.out hb); replace HB := sd_ (below_step (bw1_ HB.out GE103.out) hb); (try clear hb)))
 have H := HP9.out
 clear HP9
 by_cases c12 : t105 < 0
 ·rw [if_pos c12] at H
  have c12b0 : decide (t105 < 0) = true := decide_eq_true c12
  clear c12
  (first | rw [c12b0] | (simp only [i64_w, i32_w]; rw [c12b0]) | skip)
  obtain rfl := Option.some.inj H
  go_wp2
  go_ret
  exact ⟨an_, bw1_ HB.out GE103.out⟩
 rw [if_neg c12] at H
 have c12b0 : decide (t105 < 0) = false := decide_eq_false c12
 clear c12
 (first | rw [c12b0] | (simp only [i64_w, i32_w]; rw [c12b0]) | skip)
 obtain rfl := Option.some.inj H
 go_wp2
 go_ret
 exact ⟨an_, bw1_ HB.out GE103.out⟩

theorem laws_szTerm.both (k : Nat) : (∀ (a0_0 : Int) (a0_1 : Int) (A0_2 : Option Addr) (c0_2 : Nat) (l0_2 : List Int) (A0_3 : Option Addr) (c0_3 : Nat) (l0_3 : List (S36)) (a1 : Int) (r : Int) (w : World) (hr0_2 : Kd.C (Kd.int .i64) w A0_2 l0_2.length l0_2) (hc0_2 : l0_2.length ≤ c0_2) (hr0_3 : Kd.C k36 w A0_3 l0_3.length l0_3) (hc0_3 : l0_3.length ≤ c0_3) (h : laws_szTerm.f k a0_0 a0_1 l0_2 l0_3 a1 = some r), Calls Try.prog 15 #[.agg #[.int .i64 a0_0, .int .i64 a0_1, .slice A0_2 l0_2.length c0_2, .slice A0_3 l0_3.length c0_3], .int .i64 a1] w fun e w' => e = .returned (.int .i64 r) ∧ Below w.heap.size w w') ∧ (∀ (A0 : Option Addr) (c0 : Nat) (l0 : List (S36)) (a1 : Int) (r : Int) (w : World) (hr0 : Kd.C k36 w A0 l0.length l0) (hc0 : l0.length ≤ c0) (h : laws_szTermS.f k l0 a1 = some r), Calls Try.prog 59 #[.slice A0 l0.length c0, .int .i64 a1] w fun e w' => e = .returned (.int .i64 r) ∧ Below w.heap.size w w') := by
 induction k using Nat.strongRecOn with
 | _ k ih => exact ⟨laws_szTerm.step k (fun j hj => (ih j hj).1) (fun j hj => (ih j hj).2), laws_szTermS.step k (fun j hj => (ih j hj).2) (fun j hj => (ih j hj).1)⟩
theorem laws_szTerm.calls (k : Nat) : ∀ (a0_0 : Int) (a0_1 : Int) (A0_2 : Option Addr) (c0_2 : Nat) (l0_2 : List Int) (A0_3 : Option Addr) (c0_3 : Nat) (l0_3 : List (S36)) (a1 : Int) (r : Int) (w : World) (hr0_2 : Kd.C (Kd.int .i64) w A0_2 l0_2.length l0_2) (hc0_2 : l0_2.length ≤ c0_2) (hr0_3 : Kd.C k36 w A0_3 l0_3.length l0_3) (hc0_3 : l0_3.length ≤ c0_3) (h : laws_szTerm.f k a0_0 a0_1 l0_2 l0_3 a1 = some r), Calls Try.prog 15 #[.agg #[.int .i64 a0_0, .int .i64 a0_1, .slice A0_2 l0_2.length c0_2, .slice A0_3 l0_3.length c0_3], .int .i64 a1] w fun e w' => e = .returned (.int .i64 r) ∧ Below w.heap.size w w' := (laws_szTerm.both k).1
theorem laws_szTermS.calls (k : Nat) : ∀ (A0 : Option Addr) (c0 : Nat) (l0 : List (S36)) (a1 : Int) (r : Int) (w : World) (hr0 : Kd.C k36 w A0 l0.length l0) (hc0 : l0.length ≤ c0) (h : laws_szTermS.f k l0 a1 = some r), Calls Try.prog 59 #[.slice A0 l0.length c0, .int .i64 a1] w fun e w' => e = .returned (.int .i64 r) ∧ Below w.heap.size w w' := (laws_szTerm.both k).2

/-! ### laws_eqIntS: function 21 -/
def laws_eqIntS.l0 : Nat → List Int → List Int → Int → Option (Bool)
 | 0, _, _, _ => none
 | k + 1, x0, x1, x5 => if x5 < (x0.length : Int) then (if 0 ≤ x5 then (if x5 < (x1.length : Int) then (if (rd x0 x5) = (rd x1 x5) then (laws_eqIntS.l0 k x0 x1 (wrap64 (x5 + 1))) else (some false)) else (none)) else (none)) else (some true)
def laws_eqIntS.f (k : Nat) (l0 : List Int) (l1 : List Int) : Option (Bool) := if (l0.length : Int) = (l1.length : Int) then (laws_eqIntS.l0 k l0 l1 0) else (some false)
set_option maxHeartbeats 8000000 in
set_option maxRecDepth 100000 in
theorem laws_eqIntS.calls (k : Nat) (A0 : Option Addr) (c0 : Nat) (l0 : List Int) (A1 : Option Addr) (c1 : Nat) (l1 : List Int) (r : Bool) (w : World) (hr0 : Kd.C (Kd.int .i64) w A0 l0.length l0) (hc0 : l0.length ≤ c0) (hr1 : Kd.C (Kd.int .i64) w A1 l1.length l1) (hc1 : l1.length ≤ c1) (h : laws_eqIntS.f k l0 l1 = some r) :
  Calls Try.prog 21 #[.slice A0 l0.length c0, .slice A1 l1.length c1] w fun e w' => e = .returned (.bool r) ∧ Drawn0 w w' := by
 have HR0 := sd_ hr0
 have HC0 := sd_ hc0
 clear hr0 hc0
 have HR1 := sd_ hr1
 have HC1 := sd_ hc1
 clear hr1 hc1
 have H : (if (l0.length : Int) = (l1.length : Int) then (laws_eqIntS.l0 k l0 l1 0) else (some false)) = some r := h
 clear h
 by_cases c3 : (l0.length : Int) = (l1.length : Int)
 ·rw [if_pos c3] at H
  have c3b0 : ((l0.length : Int) == (l1.length : Int)) = true := beq_iff_eq.mpr c3
  have c3b1 : ((l0.length : Int) != (l1.length : Int)) = false := bne_eq_false_iff_eq.mpr c3
  have c3b2 : (l0.length == l1.length) = true := by first | simpa using c3 | (simp at c3 ⊢; omega)
  clear c3
  have H' := sd_ H
  clear H
  go_enter Try.func21, Try.ntmps21
  go_wp2
  repeat (go_quiet (fail); try go_wp2)
  go_loopg [5] k (fun kq v5 w' => ∃ (x5_1 : Int), v5 = .int .i64 x5_1 ∧ Aside0 (laws_eqIntS.l0 kq l0 l1 x5_1 = some r) ∧ Aside0 (kq ≤ k) ∧ Drawn0 w w')
  case atStart => exact ⟨(0), sm_, H', ⟨Nat.le_refl _⟩, by repeat (first | exact Drawn0.refl _ | apply Drawn0.step)⟩
  case round =>
   clear H'
   try clear c1
   try clear c2
   try clear p2
   try clear c3
   try clear c3b0
   try clear c3b1
   try clear c3b2
   obtain ⟨x5_1, rfl, HA, HK1, ⟨m1, rfl⟩⟩ := hrel
   cases gk with
   | zero => exact absurd HA.out (by simp [laws_eqIntS.l0])
   | succ k1 =>
    have H := HA.out
    clear HA
    simp only [laws_eqIntS.l0] at H
    by_cases c4 : x5_1 < (l0.length : Int)
    ·rw [if_pos c4] at H
     have c4b0 : decide (x5_1 < (l0.length : Int)) = true := decide_eq_true c4
     clear c4
     by_cases c5 : 0 ≤ x5_1
     ·rw [if_pos c5] at H
      have c5b0 : decide (0 ≤ x5_1) = true := decide_eq_true c5
      clear c5
      by_cases c6 : x5_1 < (l1.length : Int)
      ·rw [if_pos c6] at H
       have c6b0 : decide (x5_1 < (l1.length : Int)) = true := decide_eq_true c6
       clear c6
       by_cases c7 : (rd l0 x5_1) = (rd l1 x5_1)
       ·rw [if_pos c7] at H
        have c7b0 : ((rd l0 x5_1) == (rd l1 x5_1)) = true := beq_iff_eq.mpr c7
        have c7b1 : ((rd l0 x5_1) != (rd l1 x5_1)) = false := bne_eq_false_iff_eq.mpr c7
        clear c7
        have H' := sd_ H
        clear H
        have p133 : 0 ≤ (x5_1 : Int) := dt_
        have q133 : x5_1 < (l0.length : Int) := dt_
        obtain ⟨ad133, e133, hx133_0⟩ := Kd.at_int HR0.out x5_1 p133 q133
        cases e133
        replace p133 := eq_true p133
        replace q133 := eq_true q133
        have p134 : 0 ≤ (x5_1 : Int) := dt_
        have q134 : x5_1 < (l1.length : Int) := dt_
        obtain ⟨ad134, e134, hx134_0⟩ := Kd.at_int HR1.out x5_1 p134 q134
        cases e134
        replace p134 := eq_true p134
        replace q134 := eq_true q134
        go_wp2
        repeat (go_quiet (fail); try go_wp2)
        go_roundg k1
        case measure => have := HK1.out; omega
        case rel => exact ⟨(wrap64 (x5_1 + 1)), sm_, H', ⟨by have := HK1.out; omega⟩, by repeat (first | exact Drawn0.refl _ | apply Drawn0.step)⟩
       rw [if_neg c7] at H
       have c7b0 : ((rd l0 x5_1) == (rd l1 x5_1)) = false := beq_eq_false_iff_ne.mpr c7
       have c7b1 : ((rd l0 x5_1) != (rd l1 x5_1)) = true := bne_iff_ne.mpr c7
       obtain rfl := Option.some.inj H
       have p133 : 0 ≤ (x5_1 : Int) := dt_
       have q133 : x5_1 < (l0.length : Int) := dt_
       obtain ⟨ad133, e133, hx133_0⟩ := Kd.at_int HR0.out x5_1 p133 q133
       cases e133
       replace p133 := eq_true p133
       replace q133 := eq_true q133
       have p134 : 0 ≤ (x5_1 : Int) := dt_
       have q134 : x5_1 < (l1.length : Int) := dt_
       obtain ⟨ad134, e134, hx134_0⟩ := Kd.at_int HR1.out x5_1 p134 q134
       cases e134
       replace p134 := eq_true p134
       replace q134 := eq_true q134
       go_wp2
       repeat (go_quiet (fail); try go_wp2)
       go_ret
       exact ⟨by first | rfl | (simp; done) | (simp [*]; done), by repeat (first | exact Drawn0.refl _ | apply Drawn0.step)⟩
      rw [if_neg c6] at H
      exact absurd H (by simp)
     rw [if_neg c5] at H
     exact absurd H (by simp)
    rw [if_neg c4] at H
    have c4b0 : decide (x5_1 < (l0.length : Int)) = false := decide_eq_false c4
    clear c4
    obtain rfl := Option.some.inj H
    go_wp2
    repeat (go_quiet (fail); try go_wp2)
    go_ret
    exact ⟨by first | rfl | (simp; done) | (simp [*]; done), by repeat (first | exact Drawn0.refl _ | apply Drawn0.step)⟩
 rw [if_neg c3] at H
 have c3b0 : ((l0.length : Int) == (l1.length : Int)) = false := beq_eq_false_iff_ne.mpr c3
 have c3b1 : ((l0.length : Int) != (l1.length : Int)) = true := bne_iff_ne.mpr c3
 have c3b2 : (l0.length == l1.length) = false := by first | simpa using c3 | (simp at c3 ⊢; omega)
 obtain rfl := Option.some.inj H
 go_enter Try.func21, Try.ntmps21
 go_wp2
 repeat (go_quiet (fail); try go_wp2)
 go_ret
 exact ⟨by first | rfl | (simp; done) | (simp [*]; done), by repeat (first | exact Drawn0.refl _ | apply Drawn0.step)⟩


/-! ### laws_markIntS: function 22 -/
def laws_markIntS.l0 : Nat → List Int → Int → Int → Option (Int × List Int)
 | 0, _, _, _ => none
 | k + 1, x0, x1, x5 => if x5 < (x0.length : Int) then (if 0 ≤ x5 then (laws_markIntS.l0 k (x0.set (x5 : Int).toNat x1) (wrap64 (x1 + 1)) (wrap64 (x5 + 1))) else (none)) else (some (x1, x0))
def laws_markIntS.f (k : Nat) (l0 : List Int) (a1 : Int) : Option (Int × List Int) := laws_markIntS.l0 k l0 a1 0
set_option maxHeartbeats 8000000 in
set_option maxRecDepth 100000 in
theorem laws_markIntS.calls (k : Nat) (P0_ : Nat → Prop) (u9000_ : Value) (l0 : List Int) (a1 : Int) (r1 : Int) (r2 : List Int) (w0 w : World) (hB : Below w0.heap.size w0 w) (ho0 : Kd.R (Kd.int .i64) 3 w w0.heap.size P0_ u9000_ l0) (h : laws_markIntS.f k l0 a1 = some (r1, r2)) :
  Calls Try.prog 22 #[u9000_, .int .i64 a1] w fun e w' => e = .returned (.int .i64 r1) ∧ Kd.R (Kd.int .i64) 3 w' w0.heap.size (fun k_ => (P0_ k_ ∨ w.heap.size ≤ k_)) u9000_ r2 ∧ Below w0.heap.size w0 w' ∧ Kept w w' (fun k_ => P0_ k_) := by
 have HO0 := sd_ (show Kd.R (Kd.int .i64) 3 w w0.heap.size (fun k_ => (P0_ k_ ∨ w.heap.size ≤ k_)) u9000_ l0 from Kd.R_mono ho0 (fun k_ hk => (.inl hk)))
 have HK := sd_ (Kept.refl w (fun k_ => P0_ k_))
 have HW0 := sd_ hB.size
 have HB := sd_ hB
 clear hB
 have H : (laws_markIntS.l0 k l0 a1 0) = some (r1, r2) := h
 clear h
 have H' := sd_ H
 clear H
 go_enter Try.func22, Try.ntmps22
 go_wp2
 go_loopg [1, 5] k (fun kq v1 v5 w' => ∃ (x0_1 : List Int) (x1_1 : Int) (x5_1 : Int), v1 = .int .i64 x1_1 ∧ v5 = .int .i64 x5_1 ∧ Aside0 (laws_markIntS.l0 kq x0_1 x1_1 x5_1 = some (r1, r2)) ∧ Aside0 (kq ≤ k) ∧ Aside0 (Kd.R (Kd.int .i64) 3 w' w0.heap.size (fun k_ => (P0_ k_ ∨ w.heap.size ≤ k_)) u9000_ x0_1) ∧ Aside0 (Kept w w' (fun k_ => P0_ k_)) ∧ Aside0 (Below w0.heap.size w0 w'))
 case atStart => exact ⟨(l0), (a1), (0), sm_, sm_, H', ⟨Nat.le_refl _⟩, ⟨by (with_reducible repeat (first | apply Kd.R_alloc | apply Kd.R_drewN | apply Kd.R_drew)); exact HO0.out⟩, ⟨by repeat (first | (with_reducible first | exact HK.out | apply Kept.alloc | apply Kept.drewN | apply Kept.drew) | exact HK.out)⟩, ⟨bw0_ HB.out⟩⟩
 case round =>
  clear H'
  try clear c2
  try clear p2
  obtain ⟨x0_1, x1_1, x5_1, rfl, rfl, HA, HK1, HO_0, HK, HB⟩ := hrel
  cases gk with
  | zero => exact absurd HA.out (by simp [laws_markIntS.l0])
  | succ k1 =>
   have H := HA.out
   clear HA
   simp only [laws_markIntS.l0] at H
   by_cases c3 : x5_1 < (x0_1.length : Int)
   ·rw [if_pos c3] at H
    have c3b0 : decide (x5_1 < (x0_1.length : Int)) = true := decide_eq_true c3
    clear c3
    by_cases c4 : 0 ≤ x5_1
    ·rw [if_pos c4] at H
     have c4b0 : decide (0 ≤ x5_1) = true := decide_eq_true c4
     clear c4
     obtain ⟨y142, hy142⟩ : ∃ y_ : List Int, y_ = (x0_1.set (x5_1 : Int).toNat x1_1) := ⟨_, rfl⟩
     replace H : (laws_markIntS.l0 k1 y142 (wrap64 (x1_1 + 1)) (wrap64 (x5_1 + 1))) = some (r1, r2) := by first | (rw [hy142]; with_reducible exact H) | (have H2_ := (Option.bind_some _ _).symm.trans H; rw [hy142]; with_reducible exact H2_) | (have H2_ := (Option.bind_some _ _).symm.trans H; with_reducible exact H2_) | with_reducible exact H | (rw [hy142]; exact H) | exact H
     have Ny142 := sd_ hy142
     clear hy142
     have H' := sd_ H
     clear H
     obtain ⟨Ao6, co6, eo6⟩ := Kd.R_slice HO_0.out
     subst eo6
     have p5 : 0 ≤ (x5_1 : Int) := dt_
     have q5 : (x5_1 : Int) < ((x0_1.length : Int) : Int) := dt_
     obtain ⟨go5, co5, eo5, gb5, gl5, cl5, HG5⟩ := Kd.R_form HO_0.out (by omega)
     (first | cases eo5 | (injection eo5 with ea_ en_ ec_; (first | subst ea_ | (injection ea_ with ea_; subst ea_)); subst ec_; clear en_))
     have GB5 := sd_ gb5
     have GG5 := sd_ HG5
     clear gb5 gl5 HG5
     have HMgo5 := sd_ (show (P0_ go5 ∨ w.heap.size ≤ go5) from (HO_0.out.1 _ rfl))
     obtain ⟨hx5_0, hf5_0⟩ := Kd.R_celln 0 HO_0.out (x5_1 : Int) p5 q5
     replace p5 := eq_true p5
     replace q5 := eq_true q5
     have HP7 := Kd.R_putg HO_0.out (x5_1 : Int) x1_1
     go_wp2_with (first | ((with_reducible refine gate_store (t := 3) (p := 15) rfl ?_); refine store_event (t := 3) (p := 15) (v := ?vo_w8) (w1 := (wr.setCell ⟨go5, (x5_1 : Int).toNat, none⟩ (.int .i64 x1_1))) ?hg ?ho ?hn ?hr ?_; (case ho => rfl); (case hg => rfl); (case hn => rfl); (case hr => first | (go_simp; done) | (go_simp; rfl)); intro w8 hw; have hg : wr.grownBy w8 (some go5) := (by rw [hw]; exact HP7.2); have hp_ : Kd.R (Kd.int .i64) 3 w8 w0.heap.size (fun k_ => (P0_ k_ ∨ w.heap.size ≤ k_)) (.slice (some ⟨go5, 0, none⟩) x0_1.length co6) y142 := (by rw [hw, Ny142.out]; exact HP7.1); clear HP7; replace HB := sd_ ((by rw [hw]; exact below_set (HB.out) GB5.out : Below w0.heap.size w0 w8)); replace HK := sd_ (Kept.of_grown (S := (fun k_ => P0_ k_)) hg (by repeat (first | (with_reducible first | exact HK.out | apply Kept.alloc | apply Kept.drewN | apply Kept.drew) | exact HK.out)) (fun k_ e_ => (HO_0.out.1 k_ e_))); replace HO_0 := sd_ (hp_); clear hg hw hp_))
     go_roundg k1
     case measure => have := HK1.out; omega
     case rel => exact ⟨(y142), (wrap64 (x1_1 + 1)), (wrap64 (x5_1 + 1)), sm_, sm_, H', ⟨by have := HK1.out; omega⟩, ⟨by (with_reducible repeat (first | apply Kd.R_alloc | apply Kd.R_drewN | apply Kd.R_drew)); exact HO_0.out⟩, ⟨by repeat (first | (with_reducible first | exact HK.out | apply Kept.alloc | apply Kept.drewN | apply Kept.drew) | exact HK.out)⟩, ⟨bw0_ HB.out⟩⟩
    rw [if_neg c4] at H
    exact absurd H (by simp)
   rw [if_neg c3] at H
   have c3b0 : decide (x5_1 < (x0_1.length : Int)) = false := decide_eq_false c3
   clear c3
   simp only [Option.some.injEq, Prod.mk.injEq] at H
   obtain ⟨rfl, rfl⟩ := H
   obtain ⟨Ao9, co9, eo9⟩ := Kd.R_slice HO_0.out
   subst eo9
   go_wp2
   go_ret
   exact ⟨an_, by (with_reducible repeat (first | apply Kd.R_alloc | apply Kd.R_drewN | apply Kd.R_drew)); exact HO_0.out, bw0_ HB.out, by repeat (first | (with_reducible first | exact HK.out | apply Kept.alloc | apply Kept.drewN | apply Kept.drew) | exact HK.out)⟩


/-! ### laws_heldIntS: function 57 -/
def laws_heldIntS.l0 : Nat → List Int → Int → Int → Option (Int)
 | 0, _, _, _ => none
 | k + 1, x0, x1, x5 => if x5 < (x0.length : Int) then (if 0 ≤ x5 then (if (rd x0 x5) = x1 then (laws_heldIntS.l0 k x0 (wrap64 (x1 + 1)) (wrap64 (x5 + 1))) else (some (-1))) else (none)) else (some x1)
def laws_heldIntS.f (k : Nat) (l0 : List Int) (a1 : Int) : Option (Int) := laws_heldIntS.l0 k l0 a1 0
set_option maxHeartbeats 8000000 in
set_option maxRecDepth 100000 in
theorem laws_heldIntS.calls (k : Nat) (A0 : Option Addr) (c0 : Nat) (l0 : List Int) (a1 : Int) (r : Int) (w : World) (hr0 : Kd.C (Kd.int .i64) w A0 l0.length l0) (hc0 : l0.length ≤ c0) (h : laws_heldIntS.f k l0 a1 = some r) :
  Calls Try.prog 57 #[.slice A0 l0.length c0, .int .i64 a1] w fun e w' => e = .returned (.int .i64 r) ∧ Drawn0 w w' := by
 have HR0 := sd_ hr0
 have HC0 := sd_ hc0
 clear hr0 hc0
 have H : (laws_heldIntS.l0 k l0 a1 0) = some r := h
 clear h
 have H' := sd_ H
 clear H
 go_enter Try.func57, Try.ntmps57
 go_wp2
 go_loopg [1, 5] k (fun kq v1 v5 w' => ∃ (x1_1 : Int) (x5_1 : Int), v1 = .int .i64 x1_1 ∧ v5 = .int .i64 x5_1 ∧ Aside0 (laws_heldIntS.l0 kq l0 x1_1 x5_1 = some r) ∧ Aside0 (kq ≤ k) ∧ Drawn0 w w')
 case atStart => exact ⟨(a1), (0), sm_, sm_, H', ⟨Nat.le_refl _⟩, by repeat (first | exact Drawn0.refl _ | apply Drawn0.step)⟩
 case round =>
  clear H'
  try clear p2
  obtain ⟨x1_1, x5_1, rfl, rfl, HA, HK1, ⟨m1, rfl⟩⟩ := hrel
  cases gk with
  | zero => exact absurd HA.out (by simp [laws_heldIntS.l0])
  | succ k1 =>
   have H := HA.out
   clear HA
   simp only [laws_heldIntS.l0] at H
   by_cases c3 : x5_1 < (l0.length : Int)
   ·rw [if_pos c3] at H
    have c3b0 : decide (x5_1 < (l0.length : Int)) = true := decide_eq_true c3
    clear c3
    by_cases c4 : 0 ≤ x5_1
    ·rw [if_pos c4] at H
     have c4b0 : decide (0 ≤ x5_1) = true := decide_eq_true c4
     clear c4
     by_cases c5 : (rd l0 x5_1) = x1_1
     ·rw [if_pos c5] at H
      have c5b0 : ((rd l0 x5_1) == x1_1) = true := beq_iff_eq.mpr c5
      have c5b1 : ((rd l0 x5_1) != x1_1) = false := bne_eq_false_iff_eq.mpr c5
      clear c5
      have H' := sd_ H
      clear H
      have p143 : 0 ≤ (x5_1 : Int) := dt_
      have q143 : x5_1 < (l0.length : Int) := dt_
      obtain ⟨ad143, e143, hx143_0⟩ := Kd.at_int HR0.out x5_1 p143 q143
      cases e143
      replace p143 := eq_true p143
      replace q143 := eq_true q143
      go_wp2
      go_roundg k1
      case measure => have := HK1.out; omega
      case rel => exact ⟨(wrap64 (x1_1 + 1)), (wrap64 (x5_1 + 1)), sm_, sm_, H', ⟨by have := HK1.out; omega⟩, by repeat (first | exact Drawn0.refl _ | apply Drawn0.step)⟩
     rw [if_neg c5] at H
     have c5b0 : ((rd l0 x5_1) == x1_1) = false := beq_eq_false_iff_ne.mpr c5
     have c5b1 : ((rd l0 x5_1) != x1_1) = true := bne_iff_ne.mpr c5
     obtain rfl := Option.some.inj H
     have p143 : 0 ≤ (x5_1 : Int) := dt_
     have q143 : x5_1 < (l0.length : Int) := dt_
     obtain ⟨ad143, e143, hx143_0⟩ := Kd.at_int HR0.out x5_1 p143 q143
     cases e143
     replace p143 := eq_true p143
     replace q143 := eq_true q143
     go_wp2
     go_ret
     exact ⟨by first | rfl | (simp; done) | (simp [*]; done), by repeat (first | exact Drawn0.refl _ | apply Drawn0.step)⟩
    rw [if_neg c4] at H
    exact absurd H (by simp)
   rw [if_neg c3] at H
   have c3b0 : decide (x5_1 < (l0.length : Int)) = false := decide_eq_false c3
   clear c3
   obtain rfl := Option.some.inj H
   go_wp2
   go_ret
   exact ⟨by first | rfl | (simp; done) | (simp [*]; done), by repeat (first | exact Drawn0.refl _ | apply Drawn0.step)⟩


/-! ### spec_l2Has: function 84 -/
def spec_l2Has.f (a0 : Int) : Option (Bool) := if a0 = 5 then (some true) else (if a0 = 8 then (some true) else (if a0 = 9 then (some true) else (if a0 = 11 then (some true) else (some (a0 == 12)))))
set_option maxHeartbeats 8000000 in
set_option maxRecDepth 100000 in
theorem spec_l2Has.calls (a0 : Int) (r : Bool) (w : World) (h : spec_l2Has.f a0 = some r) :
  Calls Try.prog 84 #[.int .i64 a0] w fun e w' => e = .returned (.bool r) ∧ Drawn0 w w' := by
 have H : (if a0 = 5 then (some true) else (if a0 = 8 then (some true) else (if a0 = 9 then (some true) else (if a0 = 11 then (some true) else (some (a0 == 12)))))) = some r := h
 clear h
 by_cases c2 : a0 = 5
 ·rw [if_pos c2] at H
  have c2b0 : (a0 == 5) = true := beq_iff_eq.mpr c2
  have c2b1 : (a0 != 5) = false := bne_eq_false_iff_eq.mpr c2
  clear c2
  obtain rfl := Option.some.inj H
  go_enter Try.func84, Try.ntmps84
  go_wp2
  go_ret
  exact ⟨by first | rfl | (simp; done) | (simp [*]; done), by repeat (first | exact Drawn0.refl _ | apply Drawn0.step)⟩
 rw [if_neg c2] at H
 have c2b0 : (a0 == 5) = false := beq_eq_false_iff_ne.mpr c2
 have c2b1 : (a0 != 5) = true := bne_iff_ne.mpr c2
 by_cases c3 : a0 = 8
 ·rw [if_pos c3] at H
  have c3b0 : (a0 == 8) = true := beq_iff_eq.mpr c3
  have c3b1 : (a0 != 8) = false := bne_eq_false_iff_eq.mpr c3
  clear c3
  obtain rfl := Option.some.inj H
  go_enter Try.func84, Try.ntmps84
  go_wp2
  go_ret
  exact ⟨by first | rfl | (simp; done) | (simp [*]; done), by repeat (first | exact Drawn0.refl _ | apply Drawn0.step)⟩
 rw [if_neg c3] at H
 have c3b0 : (a0 == 8) = false := beq_eq_false_iff_ne.mpr c3
 have c3b1 : (a0 != 8) = true := bne_iff_ne.mpr c3
 by_cases c4 : a0 = 9
 ·rw [if_pos c4] at H
  have c4b0 : (a0 == 9) = true := beq_iff_eq.mpr c4
  have c4b1 : (a0 != 9) = false := bne_eq_false_iff_eq.mpr c4
  clear c4
  obtain rfl := Option.some.inj H
  go_enter Try.func84, Try.ntmps84
  go_wp2
  go_ret
  exact ⟨by first | rfl | (simp; done) | (simp [*]; done), by repeat (first | exact Drawn0.refl _ | apply Drawn0.step)⟩
 rw [if_neg c4] at H
 have c4b0 : (a0 == 9) = false := beq_eq_false_iff_ne.mpr c4
 have c4b1 : (a0 != 9) = true := bne_iff_ne.mpr c4
 by_cases c5 : a0 = 11
 ·rw [if_pos c5] at H
  have c5b0 : (a0 == 11) = true := beq_iff_eq.mpr c5
  have c5b1 : (a0 != 11) = false := bne_eq_false_iff_eq.mpr c5
  clear c5
  obtain rfl := Option.some.inj H
  go_enter Try.func84, Try.ntmps84
  go_wp2
  go_ret
  exact ⟨by first | rfl | (simp; done) | (simp [*]; done), by repeat (first | exact Drawn0.refl _ | apply Drawn0.step)⟩
 rw [if_neg c5] at H
 have c5b0 : (a0 == 11) = false := beq_eq_false_iff_ne.mpr c5
 have c5b1 : (a0 != 11) = true := bne_iff_ne.mpr c5
 obtain rfl := Option.some.inj H
 go_enter Try.func84, Try.ntmps84
 go_wp2
 go_ret
 exact ⟨by first | rfl | (simp; done) | (simp [*]; done), by repeat (first | exact Drawn0.refl _ | apply Drawn0.step)⟩


/-! ### impl_within: function 104 -/
def impl_within.f (a0 : Int) (a1 : Int) (a2 : Int) : Option (Bool) := if a0 ≥ a1 then (some (decide (a0 ≤ a2))) else (some false)
set_option maxHeartbeats 8000000 in
set_option maxRecDepth 100000 in
theorem impl_within.calls (a0 : Int) (a1 : Int) (a2 : Int) (r : Bool) (w : World) (h : impl_within.f a0 a1 a2 = some r) :
  Calls Try.prog 104 #[.int .i64 a0, .int .i64 a1, .int .i64 a2] w fun e w' => e = .returned (.bool r) ∧ Drawn0 w w' := by
 have H : (if a0 ≥ a1 then (some (decide (a0 ≤ a2))) else (some false)) = some r := h
 clear h
 by_cases c4 : a0 ≥ a1
 ·rw [if_pos c4] at H
  have c4b0 : decide (a1 ≤ a0) = true := decide_eq_true c4
  clear c4
  obtain rfl := Option.some.inj H
  go_enter Try.func104, Try.ntmps104
  go_wp2
  go_ret
  exact ⟨by first | rfl | (simp; done) | (simp [*]; done), by repeat (first | exact Drawn0.refl _ | apply Drawn0.step)⟩
 rw [if_neg c4] at H
 have c4b0 : decide (a1 ≤ a0) = false := decide_eq_false c4
 clear c4
 obtain rfl := Option.some.inj H
 go_enter Try.func104, Try.ntmps104
 go_wp2
 go_ret
 exact ⟨by first | rfl | (simp; done) | (simp [*]; done), by repeat (first | exact Drawn0.refl _ | apply Drawn0.step)⟩


/-! ### spec_l1In: function 112 -/
def spec_l1In.f (a0 : Int) (a1 : Int) (a2 : Int) : Option (Bool) := if a0 ≥ a1 then (some (decide (a0 ≤ a2))) else (some false)
set_option maxHeartbeats 8000000 in
set_option maxRecDepth 100000 in
theorem spec_l1In.calls (a0 : Int) (a1 : Int) (a2 : Int) (r : Bool) (w : World) (h : spec_l1In.f a0 a1 a2 = some r) :
  Calls Try.prog 112 #[.int .i64 a0, .int .i64 a1, .int .i64 a2] w fun e w' => e = .returned (.bool r) ∧ Drawn0 w w' := by
 have H : (if a0 ≥ a1 then (some (decide (a0 ≤ a2))) else (some false)) = some r := h
 clear h
 by_cases c4 : a0 ≥ a1
 ·rw [if_pos c4] at H
  have c4b0 : decide (a1 ≤ a0) = true := decide_eq_true c4
  clear c4
  obtain rfl := Option.some.inj H
  go_enter Try.func112, Try.ntmps112
  go_wp2
  go_ret
  exact ⟨by first | rfl | (simp; done) | (simp [*]; done), by repeat (first | exact Drawn0.refl _ | apply Drawn0.step)⟩
 rw [if_neg c4] at H
 have c4b0 : decide (a1 ≤ a0) = false := decide_eq_false c4
 clear c4
 obtain rfl := Option.some.inj H
 go_enter Try.func112, Try.ntmps112
 go_wp2
 go_ret
 exact ⟨by first | rfl | (simp; done) | (simp [*]; done), by repeat (first | exact Drawn0.refl _ | apply Drawn0.step)⟩

end Go.Proofs.Ytipfkicndjddgaa.P
end
