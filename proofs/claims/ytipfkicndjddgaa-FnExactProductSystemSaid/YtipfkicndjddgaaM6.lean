-- Several texts in one (wip/tools/merge.py).
import Derived.Test.YtipfkicndjddgaaM1
import Derived.Test.YtipfkicndjddgaaM4
import Derived.Test.YtipfkicndjddgaaM5
import Derived.Test.YtipfkicndjddgaaM2
section
namespace Go.Proofs.Ytipfkicndjddgaa.P
open Go.RowKit Go.Proofs.YtipfkicndjddgaaW.PrintWords Go.Proofs.YtipfkicndjddgaaW.PrintLast Go.Proofs.YtipfkicndjddgaaW.PrintMore
attribute [local go_sem] max2_int min2_int max_two min_two max_three min_three max_four min_four   -- for this text's walks alone
set_option linter.unusedVariables false
set_option linter.unusedSimpArgs false

/-! ### laws_heldSystem: function 14 -/
def laws_heldSystem.f (k : Nat) (a0_0 : Int) (l0_1 : List Int) (l0_2 : List Int) (l0_3 : List Bool) (a1 : Int) : Option (Int) := (laws_heldIntS.f k l0_1 a1).bind fun t387 => (if t387 < 0 then (some (-1)) else ((laws_heldIntS.f k l0_2 t387).bind fun t388 => (if t388 < 0 then (some (-1)) else ((laws_heldBoolS.f k l0_3 t388).bind fun t389 => (if t389 < 0 then (some (-1)) else (some t389))))))
set_option maxHeartbeats 8000000 in
set_option maxRecDepth 100000 in
theorem laws_heldSystem.calls (k : Nat) (a0_0 : Int) (A0_1 : Option Addr) (c0_1 : Nat) (l0_1 : List Int) (A0_2 : Option Addr) (c0_2 : Nat) (l0_2 : List Int) (A0_3 : Option Addr) (c0_3 : Nat) (l0_3 : List Bool) (a1 : Int) (r : Int) (w : World) (hr0_1 : Kd.C (Kd.int .i64) w A0_1 l0_1.length l0_1) (hc0_1 : l0_1.length ≤ c0_1) (hr0_2 : Kd.C (Kd.int .i64) w A0_2 l0_2.length l0_2) (hc0_2 : l0_2.length ≤ c0_2) (hr0_3 : Kd.C Kd.bool w A0_3 l0_3.length l0_3) (hc0_3 : l0_3.length ≤ c0_3) (h : laws_heldSystem.f k a0_0 l0_1 l0_2 l0_3 a1 = some r) :
  Calls Try.prog 14 #[.agg #[.int .i64 a0_0, .slice A0_1 l0_1.length c0_1, .slice A0_2 l0_2.length c0_2, .slice A0_3 l0_3.length c0_3], .int .i64 a1] w fun e w' => e = .returned (.int .i64 r) ∧ Below w.heap.size w w' := by
 have hu27 := Try.underlying27
 have HR0_1 := sd_ hr0_1
 have HC0_1 := sd_ hc0_1
 clear hr0_1 hc0_1
 have HR0_2 := sd_ hr0_2
 have HC0_2 := sd_ hc0_2
 clear hr0_2 hc0_2
 have HR0_3 := sd_ hr0_3
 have HC0_3 := sd_ hc0_3
 clear hr0_3 hc0_3
 have HB := sd_ (Below.refl w.heap.size w)
 have H : ((laws_heldIntS.f k l0_1 a1).bind fun t387 => (if t387 < 0 then (some (-1)) else ((laws_heldIntS.f k l0_2 t387).bind fun t388 => (if t388 < 0 then (some (-1)) else ((laws_heldBoolS.f k l0_3 t388).bind fun t389 => (if t389 < 0 then (some (-1)) else (some t389))))))) = some r := h
 clear h
 replace H := Option.bind_eq_some_iff.mp H
 obtain ⟨t387, A30, H⟩ := H
 try dsimp only at H
 have A3 := sd_ A30
 clear A30
 have HP4 := sd_ H
 clear H
 go_enter Try.func14, Try.ntmps14
 go_upto_if 10 with (first | ((with_reducible refine gate_dst (N := 2) rfl ?_); refine bx_ (N := 2) (cs := #[.int .i64 a0_0, .slice A0_1 l0_1.length c0_1, .slice A0_2 l0_2.length c0_2, .slice A0_3 l0_3.length c0_3]) (t := 27) ?_; intro gb386 hg w5 hbox hb; have BK386 := sd_ (hbox); have GW386 := sd_ (gs_ hg (bw0_ HB.out)); have GE386 := sd_ (gs_ hg (bw0_ HB.out)); replace HB := sd_ (below_step (bw0_ HB.out) hb); clear hb hbox hg; obtain ⟨hcz6_0, hcz6_1, hcz6_2, hcz6_3, hfz6_0, hfz6_1, hfz6_2, hfz6_3⟩ := bf4_ BK386.out) | ((with_reducible refine gate_callee (f := 57) rfl ?_); refine goesL_ (some 8) rfl rfl Try.func57 (by kernel_rfl) rfl #[.slice A0_1 l0_1.length c0_1, .int .i64 a1] rfl la_ ?_; (with_reducible refine (laws_heldIntS.calls k _ _ l0_1 a1 t387 _ (kc_ HR0_1.out HB.out) HC0_1.out A3.out).mono ?_); rintro e w' ⟨rfl, ⟨nd, rfl⟩⟩; refine ⟨_, rfl, ?_⟩))
 have H := HP4.out
 clear HP4
 by_cases c7 : t387 < 0
 ·rw [if_pos c7] at H
  have c7b0 : decide (t387 < 0) = true := decide_eq_true c7
  clear c7
  (first | rw [c7b0] | (simp only [i64_w, i32_w]; rw [c7b0]) | skip)
  obtain rfl := Option.some.inj H
  go_wp2
  go_ret
  exact ⟨an_, bw1_ HB.out GE386.out⟩
 rw [if_neg c7] at H
 have c7b0 : decide (t387 < 0) = false := decide_eq_false c7
 clear c7
 (first | rw [c7b0] | (simp only [i64_w, i32_w]; rw [c7b0]) | skip)
 replace H := Option.bind_eq_some_iff.mp H
 obtain ⟨t388, A80, H⟩ := H
 try dsimp only at H
 have A8 := sd_ A80
 clear A80
 by_cases c9 : t388 < 0
 ·rw [if_pos c9] at H
  have c9b0 : decide (t388 < 0) = true := decide_eq_true c9
  clear c9
  obtain rfl := Option.some.inj H
  obtain ⟨hcz10_0, hcz10_1, hcz10_2, hcz10_3, hfz10_0, hfz10_1, hfz10_2, hfz10_3⟩ := bf4_ BK386.out
  go_wp2_with (first | ((with_reducible refine gate_callee (f := 57) rfl ?_); refine goesL_ (some 14) rfl rfl Try.func57 (by kernel_rfl) rfl #[.slice A0_2 l0_2.length c0_2, .int .i64 t387] rfl la_ ?_; (with_reducible refine (laws_heldIntS.calls k _ _ l0_2 t387 t388 _ (kc_ HR0_2.out HB.out) HC0_2.out A8.out).mono ?_); rintro e w' ⟨rfl, ⟨nd, rfl⟩⟩; refine ⟨_, rfl, ?_⟩))
  go_ret
  exact ⟨an_, bw1_ HB.out GE386.out⟩
 rw [if_neg c9] at H
 have c9b0 : decide (t388 < 0) = false := decide_eq_false c9
 clear c9
 replace H := Option.bind_eq_some_iff.mp H
 obtain ⟨t389, A110, H⟩ := H
 try dsimp only at H
 have A11 := sd_ A110
 clear A110
 by_cases c12 : t389 < 0
 ·rw [if_pos c12] at H
  have c12b0 : decide (t389 < 0) = true := decide_eq_true c12
  clear c12
  obtain rfl := Option.some.inj H
  obtain ⟨hcz13_0, hcz13_1, hcz13_2, hcz13_3, hfz13_0, hfz13_1, hfz13_2, hfz13_3⟩ := bf4_ BK386.out
  go_wp2_with (first | ((with_reducible refine gate_callee (f := 57) rfl ?_); refine goesL_ (some 14) rfl rfl Try.func57 (by kernel_rfl) rfl #[.slice A0_2 l0_2.length c0_2, .int .i64 t387] rfl la_ ?_; (with_reducible refine (laws_heldIntS.calls k _ _ l0_2 t387 t388 _ (kc_ HR0_2.out HB.out) HC0_2.out A8.out).mono ?_); rintro e w' ⟨rfl, ⟨nd, rfl⟩⟩; refine ⟨_, rfl, ?_⟩) | ((with_reducible refine gate_callee (f := 58) rfl ?_); refine goesL_ (some 20) rfl rfl Try.func58 (by kernel_rfl) rfl #[.slice A0_3 l0_3.length c0_3, .int .i64 t388] rfl la_ ?_; (with_reducible refine (laws_heldBoolS.calls k _ _ l0_3 t388 t389 _ ?side1 ?side2 A11.out).mono ?_); (case side1 => repeat (first | exact (Kd.C_below HR0_3.out (bw1_ HB.out GE386.out)) | (with_reducible refine Kd.C_alloc ?_ _) | (with_reducible refine Kd.C_drewN ?_ _) | (with_reducible refine Kd.C_drew ?_))); (case side2 => exact HC0_3.out); rintro e w' ⟨rfl, ⟨nd, rfl⟩⟩; refine ⟨_, rfl, ?_⟩))
  go_ret
  exact ⟨an_, bw1_ HB.out GE386.out⟩
 rw [if_neg c12] at H
 have c12b0 : decide (t389 < 0) = false := decide_eq_false c12
 clear c12
 obtain rfl := Option.some.inj H
 obtain ⟨hcz14_0, hcz14_1, hcz14_2, hcz14_3, hfz14_0, hfz14_1, hfz14_2, hfz14_3⟩ := bf4_ BK386.out
 go_wp2_with (first | ((with_reducible refine gate_callee (f := 57) rfl ?_); refine goesL_ (some 14) rfl rfl Try.func57 (by kernel_rfl) rfl #[.slice A0_2 l0_2.length c0_2, .int .i64 t387] rfl la_ ?_; (with_reducible refine (laws_heldIntS.calls k _ _ l0_2 t387 t388 _ (kc_ HR0_2.out HB.out) HC0_2.out A8.out).mono ?_); rintro e w' ⟨rfl, ⟨nd, rfl⟩⟩; refine ⟨_, rfl, ?_⟩) | ((with_reducible refine gate_callee (f := 58) rfl ?_); refine goesL_ (some 20) rfl rfl Try.func58 (by kernel_rfl) rfl #[.slice A0_3 l0_3.length c0_3, .int .i64 t388] rfl la_ ?_; (with_reducible refine (laws_heldBoolS.calls k _ _ l0_3 t388 t389 _ ?side1 ?side2 A11.out).mono ?_); (case side1 => repeat (first | exact (Kd.C_below HR0_3.out (bw1_ HB.out GE386.out)) | (with_reducible refine Kd.C_alloc ?_ _) | (with_reducible refine Kd.C_drewN ?_ _) | (with_reducible refine Kd.C_drew ?_))); (case side2 => exact HC0_3.out); rintro e w' ⟨rfl, ⟨nd, rfl⟩⟩; refine ⟨_, rfl, ?_⟩))
 go_ret
 exact ⟨an_, bw1_ HB.out GE386.out⟩


/-! ### impl_ProductSystem_4: function 52 -/
def impl_ProductSystem_4.f (a0 : Int) (a1 : Int) (a2_0 : Int) (l2_1 : List Int) (l2_2 : List Int) (l2_3 : List Bool) (l3_0 : List (S68)) (a4_0 : Int) (l4_1 : List Int) (l4_2 : List Int) (l4_3 : List Bool) : Option (Bool) := if 0 ≤ a0 then (if a0 < (l3_0.length : Int) then (if 0 ≤ a1 then (if a1 < (l3_0.length : Int) then ((impl_System_below.f a2_0 l2_1 l2_2 l2_3 ((rd_T68 l3_0 a0).f0) ((rd_T68 l3_0 a1).f0)).bind fun t329 => (if t329 = true then ((impl_System_below.f a4_0 l4_1 l4_2 l4_3 ((rd_T68 l3_0 a0).f1) ((rd_T68 l3_0 a1).f1)).bind fun t332 => (some t332)) else (some false))) else (none)) else (none)) else (none)) else (none)
set_option maxHeartbeats 8000000 in
set_option maxRecDepth 100000 in
theorem impl_ProductSystem_4.calls (a0 : Int) (a1 : Int) (g2 : Nat) (a2_0 : Int) (A2_1 : Option Addr) (c2_1 : Nat) (l2_1 : List Int) (A2_2 : Option Addr) (c2_2 : Nat) (l2_2 : List Int) (A2_3 : Option Addr) (c2_3 : Nat) (l2_3 : List Bool) (g3 : Nat) (A3_0 : Option Addr) (c3_0 : Nat) (l3_0 : List (S68)) (g4 : Nat) (a4_0 : Int) (A4_1 : Option Addr) (c4_1 : Nat) (l4_1 : List Int) (A4_2 : Option Addr) (c4_2 : Nat) (l4_2 : List Int) (A4_3 : Option Addr) (c4_3 : Nat) (l4_3 : List Bool) (r : Bool) (w : World) (hr2_1 : Kd.C (Kd.int .i64) w A2_1 l2_1.length l2_1) (hc2_1 : l2_1.length ≤ c2_1) (hr2_2 : Kd.C (Kd.int .i64) w A2_2 l2_2.length l2_2) (hc2_2 : l2_2.length ≤ c2_2) (hr2_3 : Kd.C Kd.bool w A2_3 l2_3.length l2_3) (hc2_3 : l2_3.length ≤ c2_3) (hb2 : w.heap[g2]? = some (.cells #[.int .i64 a2_0, .slice A2_1 l2_1.length c2_1, .slice A2_2 l2_2.length c2_2, .slice A2_3 l2_3.length c2_3] 27 (0, 0))) (hr3_0 : Kd.C k68 w A3_0 l3_0.length l3_0) (hc3_0 : l3_0.length ≤ c3_0) (hb3 : w.heap[g3]? = some (.cells #[.slice A3_0 l3_0.length c3_0] 65 (0, 0))) (hr4_1 : Kd.C (Kd.int .i64) w A4_1 l4_1.length l4_1) (hc4_1 : l4_1.length ≤ c4_1) (hr4_2 : Kd.C (Kd.int .i64) w A4_2 l4_2.length l4_2) (hc4_2 : l4_2.length ≤ c4_2) (hr4_3 : Kd.C Kd.bool w A4_3 l4_3.length l4_3) (hc4_3 : l4_3.length ≤ c4_3) (hb4 : w.heap[g4]? = some (.cells #[.int .i64 a4_0, .slice A4_1 l4_1.length c4_1, .slice A4_2 l4_2.length c4_2, .slice A4_3 l4_3.length c4_3] 27 (0, 0))) (h : impl_ProductSystem_4.f a0 a1 a2_0 l2_1 l2_2 l2_3 l3_0 a4_0 l4_1 l4_2 l4_3 = some r) :
  Calls Try.prog 52 #[.int .i64 a0, .int .i64 a1, .pointer (some ⟨g2, 0, none⟩), .pointer (some ⟨g3, 0, none⟩), .pointer (some ⟨g4, 0, none⟩)] w fun e w' => e = .returned (.bool r) ∧ Below w.heap.size w w' := by
 have hu27 := Try.underlying27
 have HR2_1 := sd_ hr2_1
 have HC2_1 := sd_ hc2_1
 clear hr2_1 hc2_1
 have HR2_2 := sd_ hr2_2
 have HC2_2 := sd_ hc2_2
 clear hr2_2 hc2_2
 have HR2_3 := sd_ hr2_3
 have HC2_3 := sd_ hc2_3
 clear hr2_3 hc2_3
 have HR3_0 := sd_ hr3_0
 have HC3_0 := sd_ hc3_0
 clear hr3_0 hc3_0
 have HR4_1 := sd_ hr4_1
 have HC4_1 := sd_ hc4_1
 clear hr4_1 hc4_1
 have HR4_2 := sd_ hr4_2
 have HC4_2 := sd_ hc4_2
 clear hr4_2 hc4_2
 have HR4_3 := sd_ hr4_3
 have HC4_3 := sd_ hc4_3
 clear hr4_3 hc4_3
 have BK2 := sd_ hb2
 clear hb2
 have BK3 := sd_ hb3
 clear hb3
 have BK4 := sd_ hb4
 clear hb4
 have HB := sd_ (Below.refl w.heap.size w)
 have H : (if 0 ≤ a0 then (if a0 < (l3_0.length : Int) then (if 0 ≤ a1 then (if a1 < (l3_0.length : Int) then ((impl_System_below.f a2_0 l2_1 l2_2 l2_3 ((rd_T68 l3_0 a0).f0) ((rd_T68 l3_0 a1).f0)).bind fun t329 => (if t329 = true then ((impl_System_below.f a4_0 l4_1 l4_2 l4_3 ((rd_T68 l3_0 a0).f1) ((rd_T68 l3_0 a1).f1)).bind fun t332 => (some t332)) else (some false))) else (none)) else (none)) else (none)) else (none)) = some r := h
 clear h
 by_cases c6 : 0 ≤ a0
 ·rw [if_pos c6] at H
  have c6b0 : decide (0 ≤ a0) = true := decide_eq_true c6
  clear c6
  by_cases c7 : a0 < (l3_0.length : Int)
  ·rw [if_pos c7] at H
   have c7b0 : decide (a0 < (l3_0.length : Int)) = true := decide_eq_true c7
   clear c7
   by_cases c8 : 0 ≤ a1
   ·rw [if_pos c8] at H
    have c8b0 : decide (0 ≤ a1) = true := decide_eq_true c8
    clear c8
    by_cases c9 : a1 < (l3_0.length : Int)
    ·rw [if_pos c9] at H
     have c9b0 : decide (a1 < (l3_0.length : Int)) = true := decide_eq_true c9
     clear c9
     replace H := Option.bind_eq_some_iff.mp H
     obtain ⟨t329, A100, H⟩ := H
     try dsimp only at H
     have A10 := sd_ A100
     clear A100
     by_cases c11 : t329 = true
     ·subst c11
      have H1 : ((impl_System_below.f a4_0 l4_1 l4_2 l4_3 ((rd_T68 l3_0 a0).f1) ((rd_T68 l3_0 a1).f1)).bind fun t332 => (some t332)) = some r := by rw [if_pos rfl] at H; exact H
      clear H
      have H := H1
      clear H1
      replace H := Option.bind_eq_some_iff.mp H
      obtain ⟨t332, A120, H⟩ := H
      try dsimp only at H
      have A12 := sd_ A120
      clear A120
      obtain rfl := Option.some.inj H
      go_enter Try.func52, Try.ntmps52
      try go_wp2
      have p327 : 0 ≤ (a0 : Int) := dt_
      have q327 : a0 < (l3_0.length : Int) := dt_
      obtain ⟨ad327, e327, hx327_0, hx327_1⟩ := at_T68 HR3_0.out a0 p327 q327
      cases e327
      replace p327 := eq_true p327
      replace q327 := eq_true q327
      have p328 : 0 ≤ (a1 : Int) := dt_
      have q328 : a1 < (l3_0.length : Int) := dt_
      obtain ⟨ad328, e328, hx328_0, hx328_1⟩ := at_T68 HR3_0.out a1 p328 q328
      obtain rfl : ad327 = ad328 := (by injection e328)
      replace p328 := eq_true p328
      replace q328 := eq_true q328
      have p330 : 0 ≤ (a0 : Int) := dt_
      have q330 : a0 < (l3_0.length : Int) := dt_
      obtain ⟨ad330, e330, hx330_0, hx330_1⟩ := at_T68 HR3_0.out a0 p330 q330
      obtain rfl : ad327 = ad330 := (by injection e330)
      replace p330 := eq_true p330
      replace q330 := eq_true q330
      have p331 : 0 ≤ (a1 : Int) := dt_
      have q331 : a1 < (l3_0.length : Int) := dt_
      obtain ⟨ad331, e331, hx331_0, hx331_1⟩ := at_T68 HR3_0.out a1 p331 q331
      obtain rfl : ad327 = ad331 := (by injection e331)
      replace p331 := eq_true p331
      replace q331 := eq_true q331
      refine qb_region (by kernel_rfl) (by kernel_rfl) ?_
      repeat ((first | (apply qb_skip; (focus rfl)) | (refine qb_callN 19 rfl ?_; apply qb_call 19 rfl Try.func53 (by kernel_rfl) rfl rfl; (focus rfl); (focus (exact fun wq9 hb9 => qb_b hb9 (impl_System_below.calls a2_0 _ _ l2_1 _ _ l2_2 _ _ l2_3 ((rd_T68 l3_0 a0).f0) ((rd_T68 l3_0 a1).f0) true _ (Kd.C_below HR2_1.out hb9) HC2_1.out (Kd.C_below HR2_2.out hb9) HC2_2.out (Kd.C_below HR2_3.out hb9) HC2_3.out A10.out))); (focus (rfl))) | (refine qb_callN 32 rfl ?_; apply qb_call 32 rfl Try.func53 (by kernel_rfl) rfl rfl; (focus rfl); (focus (exact fun wq9 hb9 => qb_b hb9 (impl_System_below.calls a4_0 _ _ l4_1 _ _ l4_2 _ _ l4_3 ((rd_T68 l3_0 a0).f1) ((rd_T68 l3_0 a1).f1) t332 _ (Kd.C_below HR4_1.out hb9) HC4_1.out (Kd.C_below HR4_2.out hb9) HC4_2.out (Kd.C_below HR4_3.out hb9) HC4_3.out A12.out))); (focus (rfl))) | (apply qb_val; (focus rfl); (focus (intro wq9 _; go_simp; with_reducible rfl))) | (apply qb_val; (focus rfl); (focus (intro wq9 hb9_; have hb9 : Below w.heap.size w wq9 := hb9_; have BK2 := sd_ (blk_below BK2.out hb9); have BK3 := sd_ (blk_below BK3.out hb9); have BK4 := sd_ (blk_below BK4.out hb9); have hc9_2_0 : wq9.cell? ⟨g2, 0, none⟩ = some (.int .i64 a2_0) := (blk_cell BK2.out 0).trans rfl; have hc9_2_1 : wq9.cell? ⟨g2, 1, none⟩ = some (.slice A2_1 l2_1.length c2_1) := (blk_cell BK2.out 1).trans rfl; have hc9_2_2 : wq9.cell? ⟨g2, 2, none⟩ = some (.slice A2_2 l2_2.length c2_2) := (blk_cell BK2.out 2).trans rfl; have hc9_2_3 : wq9.cell? ⟨g2, 3, none⟩ = some (.slice A2_3 l2_3.length c2_3) := (blk_cell BK2.out 3).trans rfl; have hc9_3_0 : wq9.cell? ⟨g3, 0, none⟩ = some (.slice (some ad327) l3_0.length c3_0) := (blk_cell BK3.out 0).trans rfl; have hc9_4_0 : wq9.cell? ⟨g4, 0, none⟩ = some (.int .i64 a4_0) := (blk_cell BK4.out 0).trans rfl; have hc9_4_1 : wq9.cell? ⟨g4, 1, none⟩ = some (.slice A4_1 l4_1.length c4_1) := (blk_cell BK4.out 1).trans rfl; have hc9_4_2 : wq9.cell? ⟨g4, 2, none⟩ = some (.slice A4_2 l4_2.length c4_2) := (blk_cell BK4.out 2).trans rfl; have hc9_4_3 : wq9.cell? ⟨g4, 3, none⟩ = some (.slice A4_3 l4_3.length c4_3) := (blk_cell BK4.out 3).trans rfl; have hx327_0 := (hb9.cell (World.block_lt_of_cell? _ _ hx327_0)).trans hx327_0; have hx327_1 := (hb9.cell (World.block_lt_of_cell? _ _ hx327_1)).trans hx327_1; have hx328_0 := (hb9.cell (World.block_lt_of_cell? _ _ hx328_0)).trans hx328_0; have hx328_1 := (hb9.cell (World.block_lt_of_cell? _ _ hx328_1)).trans hx328_1; have hx330_0 := (hb9.cell (World.block_lt_of_cell? _ _ hx330_0)).trans hx330_0; have hx330_1 := (hb9.cell (World.block_lt_of_cell? _ _ hx330_1)).trans hx330_1; have hx331_0 := (hb9.cell (World.block_lt_of_cell? _ _ hx331_0)).trans hx331_0; have hx331_1 := (hb9.cell (World.block_lt_of_cell? _ _ hx331_1)).trans hx331_1; go_simp; with_reducible rfl)))); (focus (simp only [Act.put, List.setIfInBounds_toArray, List.set_cons_zero, List.set_cons_succ, i64_w, i32_w]; rfl)))
      refine qb_nil ?_
      intro w15 hb
      replace BK2 := sd_ (blk_below BK2.out hb)
      replace BK3 := sd_ (blk_below BK3.out hb)
      replace BK4 := sd_ (blk_below BK4.out hb)
      replace HB := sd_ (below_step HB.out hb)
      clear hb
      (try clear HQ)
      try go_wp2
      go_ret
      exact ⟨an_, bw0_ HB.out⟩
     replace c11 := Bool.eq_false_iff.mpr c11
     subst c11
     have H1 : (some false) = some r := by rw [if_neg (show ¬ (false = true) by decide)] at H; exact H
     clear H
     have H := H1
     clear H1
     obtain rfl := Option.some.inj H
     go_enter Try.func52, Try.ntmps52
     try go_wp2
     have p327 : 0 ≤ (a0 : Int) := dt_
     have q327 : a0 < (l3_0.length : Int) := dt_
     obtain ⟨ad327, e327, hx327_0, hx327_1⟩ := at_T68 HR3_0.out a0 p327 q327
     cases e327
     replace p327 := eq_true p327
     replace q327 := eq_true q327
     have p328 : 0 ≤ (a1 : Int) := dt_
     have q328 : a1 < (l3_0.length : Int) := dt_
     obtain ⟨ad328, e328, hx328_0, hx328_1⟩ := at_T68 HR3_0.out a1 p328 q328
     obtain rfl : ad327 = ad328 := (by injection e328)
     replace p328 := eq_true p328
     replace q328 := eq_true q328
     refine qb_region (by kernel_rfl) (by kernel_rfl) ?_
     repeat ((first | (apply qb_skip; (focus rfl)) | (refine qb_callN 19 rfl ?_; apply qb_call 19 rfl Try.func53 (by kernel_rfl) rfl rfl; (focus rfl); (focus (exact fun wq9 hb9 => qb_b hb9 (impl_System_below.calls a2_0 _ _ l2_1 _ _ l2_2 _ _ l2_3 ((rd_T68 l3_0 a0).f0) ((rd_T68 l3_0 a1).f0) false _ (Kd.C_below HR2_1.out hb9) HC2_1.out (Kd.C_below HR2_2.out hb9) HC2_2.out (Kd.C_below HR2_3.out hb9) HC2_3.out A10.out))); (focus (rfl))) | (apply qb_val; (focus rfl); (focus (intro wq9 _; go_simp; with_reducible rfl))) | (apply qb_val; (focus rfl); (focus (intro wq9 hb9_; have hb9 : Below w.heap.size w wq9 := hb9_; have BK2 := sd_ (blk_below BK2.out hb9); have BK3 := sd_ (blk_below BK3.out hb9); have hc9_2_0 : wq9.cell? ⟨g2, 0, none⟩ = some (.int .i64 a2_0) := (blk_cell BK2.out 0).trans rfl; have hc9_2_1 : wq9.cell? ⟨g2, 1, none⟩ = some (.slice A2_1 l2_1.length c2_1) := (blk_cell BK2.out 1).trans rfl; have hc9_2_2 : wq9.cell? ⟨g2, 2, none⟩ = some (.slice A2_2 l2_2.length c2_2) := (blk_cell BK2.out 2).trans rfl; have hc9_2_3 : wq9.cell? ⟨g2, 3, none⟩ = some (.slice A2_3 l2_3.length c2_3) := (blk_cell BK2.out 3).trans rfl; have hc9_3_0 : wq9.cell? ⟨g3, 0, none⟩ = some (.slice (some ad327) l3_0.length c3_0) := (blk_cell BK3.out 0).trans rfl; have hx327_0 := (hb9.cell (World.block_lt_of_cell? _ _ hx327_0)).trans hx327_0; have hx327_1 := (hb9.cell (World.block_lt_of_cell? _ _ hx327_1)).trans hx327_1; have hx328_0 := (hb9.cell (World.block_lt_of_cell? _ _ hx328_0)).trans hx328_0; have hx328_1 := (hb9.cell (World.block_lt_of_cell? _ _ hx328_1)).trans hx328_1; go_simp; with_reducible rfl)))); (focus (simp only [Act.put, List.setIfInBounds_toArray, List.set_cons_zero, List.set_cons_succ, i64_w, i32_w]; rfl)))
     refine qb_nil ?_
     intro w17 hb
     replace BK2 := sd_ (blk_below BK2.out hb)
     replace BK3 := sd_ (blk_below BK3.out hb)
     replace BK4 := sd_ (blk_below BK4.out hb)
     replace HB := sd_ (below_step HB.out hb)
     clear hb
     (try clear HQ)
     try go_wp2
     go_ret
     exact ⟨an_, bw0_ HB.out⟩
    rw [if_neg c9] at H
    exact absurd H (by simp)
   rw [if_neg c8] at H
   exact absurd H (by simp)
  rw [if_neg c7] at H
  exact absurd H (by simp)
 rw [if_neg c6] at H
 exact absurd H (by simp)


/-! ### laws_eqBoolS: function 55 -/
def laws_eqBoolS.l0 : Nat → List Bool → List Bool → Int → Option (Bool)
 | 0, _, _, _ => none
 | k + 1, x0, x1, x5 => if x5 < (x0.length : Int) then (if 0 ≤ x5 then (if x5 < (x1.length : Int) then (if ((rdOf false x0 x5) != (rdOf false x1 x5)) = true then (some false) else (laws_eqBoolS.l0 k x0 x1 (wrap64 (x5 + 1)))) else (none)) else (none)) else (some true)
def laws_eqBoolS.f (k : Nat) (l0 : List Bool) (l1 : List Bool) : Option (Bool) := if (l0.length : Int) = (l1.length : Int) then (laws_eqBoolS.l0 k l0 l1 0) else (some false)
set_option maxHeartbeats 8000000 in
set_option maxRecDepth 100000 in
theorem laws_eqBoolS.calls (k : Nat) (A0 : Option Addr) (c0 : Nat) (l0 : List Bool) (A1 : Option Addr) (c1 : Nat) (l1 : List Bool) (r : Bool) (w : World) (hr0 : Kd.C Kd.bool w A0 l0.length l0) (hc0 : l0.length ≤ c0) (hr1 : Kd.C Kd.bool w A1 l1.length l1) (hc1 : l1.length ≤ c1) (h : laws_eqBoolS.f k l0 l1 = some r) :
  Calls Try.prog 55 #[.slice A0 l0.length c0, .slice A1 l1.length c1] w fun e w' => e = .returned (.bool r) ∧ Drawn0 w w' := by
 have HR0 := sd_ hr0
 have HC0 := sd_ hc0
 clear hr0 hc0
 have HR1 := sd_ hr1
 have HC1 := sd_ hc1
 clear hr1 hc1
 have H : (if (l0.length : Int) = (l1.length : Int) then (laws_eqBoolS.l0 k l0 l1 0) else (some false)) = some r := h
 clear h
 by_cases c3 : (l0.length : Int) = (l1.length : Int)
 ·rw [if_pos c3] at H
  have c3b0 : ((l0.length : Int) == (l1.length : Int)) = true := beq_iff_eq.mpr c3
  have c3b1 : ((l0.length : Int) != (l1.length : Int)) = false := bne_eq_false_iff_eq.mpr c3
  have c3b2 : (l0.length == l1.length) = true := by first | simpa using c3 | (simp at c3 ⊢; omega)
  clear c3
  have H' := sd_ H
  clear H
  go_enter Try.func55, Try.ntmps55
  go_wp2
  repeat (go_quiet (fail); try go_wp2)
  go_loopg [5] k (fun kq v5 w' => ∃ (x5_1 : Int), v5 = .int .i64 x5_1 ∧ Aside0 (laws_eqBoolS.l0 kq l0 l1 x5_1 = some r) ∧ Aside0 (kq ≤ k) ∧ Drawn0 w w')
  case atStart => exact ⟨(0), sm_, H', ⟨Nat.le_refl _⟩, by repeat (first | exact Drawn0.refl _ | apply Drawn0.step)⟩
  case round =>
   clear H'
   try clear c1
   try clear p2
   try clear c3
   try clear c3b0
   try clear c3b1
   try clear c3b2
   obtain ⟨x5_1, rfl, HA, HK1, ⟨m1, rfl⟩⟩ := hrel
   cases gk with
   | zero => exact absurd HA.out (by simp [laws_eqBoolS.l0])
   | succ k1 =>
    have H := HA.out
    clear HA
    simp only [laws_eqBoolS.l0] at H
    by_cases c4 : x5_1 < (l0.length : Int)
    ·rw [if_pos c4] at H
     have c4b0 : decide (x5_1 < (l0.length : Int)) = true := decide_eq_true c4
     clear c4
     by_cases c5 : 0 ≤ x5_1
     ·rw [if_pos c5] at H
      have c5b0 : decide (0 ≤ x5_1) = true := decide_eq_true c5
      clear c5
      by_cases c6 : x5_1 < (l1.length : Int)
      ·rw [if_pos c6] at H
       have c6b0 : decide (x5_1 < (l1.length : Int)) = true := decide_eq_true c6
       clear c6
       by_cases c7 : ((rdOf false l0 x5_1) != (rdOf false l1 x5_1)) = true
       ·rw [if_pos c7] at H
        have c7b0 : ((rdOf false l0 x5_1) != (rdOf false l1 x5_1)) = true := c7
        (try (have c7b1 : decide ((rdOf false l0 x5_1) = (rdOf false l1 x5_1)) = false := by simpa using c7))
        (try (have c7b2 : ((rdOf false l0 x5_1) == (rdOf false l1 x5_1)) = false := by simpa using c7))
        (try (have c7b3 : ¬ ((rdOf false l0 x5_1) = (rdOf false l1 x5_1)) := by simpa using c7))
        clear c7
        obtain rfl := Option.some.inj H
        have p368 : 0 ≤ (x5_1 : Int) := dt_
        have q368 : x5_1 < (l0.length : Int) := dt_
        obtain ⟨ad368, e368, hx368_0⟩ := Kd.at_bool HR0.out x5_1 p368 q368
        cases e368
        replace p368 := eq_true p368
        replace q368 := eq_true q368
        have p369 : 0 ≤ (x5_1 : Int) := dt_
        have q369 : x5_1 < (l1.length : Int) := dt_
        obtain ⟨ad369, e369, hx369_0⟩ := Kd.at_bool HR1.out x5_1 p369 q369
        cases e369
        replace p369 := eq_true p369
        replace q369 := eq_true q369
        go_wp2
        repeat (go_quiet (fail); try go_wp2)
        go_ret
        exact ⟨by first | rfl | (simp; done) | (simp [*]; done), by repeat (first | exact Drawn0.refl _ | apply Drawn0.step)⟩
       rw [if_neg c7] at H
       have c7b0 : ((rdOf false l0 x5_1) != (rdOf false l1 x5_1)) = false := by simpa using c7
       (try (have c7b1 : decide ((rdOf false l0 x5_1) = (rdOf false l1 x5_1)) = true := by simpa using c7))
       (try (have c7b2 : ((rdOf false l0 x5_1) == (rdOf false l1 x5_1)) = true := by simpa using c7))
       clear c7
       have H' := sd_ H
       clear H
       have p368 : 0 ≤ (x5_1 : Int) := dt_
       have q368 : x5_1 < (l0.length : Int) := dt_
       obtain ⟨ad368, e368, hx368_0⟩ := Kd.at_bool HR0.out x5_1 p368 q368
       cases e368
       replace p368 := eq_true p368
       replace q368 := eq_true q368
       have p369 : 0 ≤ (x5_1 : Int) := dt_
       have q369 : x5_1 < (l1.length : Int) := dt_
       obtain ⟨ad369, e369, hx369_0⟩ := Kd.at_bool HR1.out x5_1 p369 q369
       cases e369
       replace p369 := eq_true p369
       replace q369 := eq_true q369
       go_wp2
       repeat (go_quiet (fail); try go_wp2)
       go_roundg k1
       case measure => have := HK1.out; omega
       case rel => exact ⟨(wrap64 (x5_1 + 1)), sm_, H', ⟨by have := HK1.out; omega⟩, by repeat (first | exact Drawn0.refl _ | apply Drawn0.step)⟩
      rw [if_neg c6] at H
      exact absurd H (by simp)
     rw [if_neg c5] at H
     exact absurd H (by simp)
    rw [if_neg c4] at H
    have c4b0 : decide (x5_1 < (l0.length : Int)) = false := decide_eq_false c4
    clear c4
    obtain rfl := Option.some.inj H
    go_wp2
    repeat (go_quiet (fail); try go_wp2)
    go_ret
    exact ⟨by first | rfl | (simp; done) | (simp [*]; done), by repeat (first | exact Drawn0.refl _ | apply Drawn0.step)⟩
 rw [if_neg c3] at H
 have c3b0 : ((l0.length : Int) == (l1.length : Int)) = false := beq_eq_false_iff_ne.mpr c3
 have c3b1 : ((l0.length : Int) != (l1.length : Int)) = true := bne_iff_ne.mpr c3
 have c3b2 : (l0.length == l1.length) = false := by first | simpa using c3 | (simp at c3 ⊢; omega)
 obtain rfl := Option.some.inj H
 go_enter Try.func55, Try.ntmps55
 go_wp2
 repeat (go_quiet (fail); try go_wp2)
 go_ret
 exact ⟨by first | rfl | (simp; done) | (simp [*]; done), by repeat (first | exact Drawn0.refl _ | apply Drawn0.step)⟩


/-! ### laws_markBoolS: function 56 -/
def laws_markBoolS.l0 : Nat → List Bool → Int → Int → Option (Int × List Bool)
 | 0, _, _, _ => none
 | k + 1, x0, x1, x5 => if x5 < (x0.length : Int) then (if 0 ≤ x5 then (laws_markBoolS.l0 k (x0.set (x5 : Int).toNat ((Int.tmod x1 3) == 0)) (wrap64 (x1 + 1)) (wrap64 (x5 + 1))) else (none)) else (some (x1, x0))
def laws_markBoolS.f (k : Nat) (l0 : List Bool) (a1 : Int) : Option (Int × List Bool) := laws_markBoolS.l0 k l0 a1 0
set_option maxHeartbeats 8000000 in
set_option maxRecDepth 100000 in
theorem laws_markBoolS.calls (k : Nat) (P0_ : Nat → Prop) (u9000_ : Value) (l0 : List Bool) (a1 : Int) (r1 : Int) (r2 : List Bool) (w0 w : World) (hB : Below w0.heap.size w0 w) (ho0 : Kd.R Kd.bool 4 w w0.heap.size P0_ u9000_ l0) (h : laws_markBoolS.f k l0 a1 = some (r1, r2)) :
  Calls Try.prog 56 #[u9000_, .int .i64 a1] w fun e w' => e = .returned (.int .i64 r1) ∧ Kd.R Kd.bool 4 w' w0.heap.size (fun k_ => (P0_ k_ ∨ w.heap.size ≤ k_)) u9000_ r2 ∧ Below w0.heap.size w0 w' ∧ Kept w w' (fun k_ => P0_ k_) := by
 have HO0 := sd_ (show Kd.R Kd.bool 4 w w0.heap.size (fun k_ => (P0_ k_ ∨ w.heap.size ≤ k_)) u9000_ l0 from Kd.R_mono ho0 (fun k_ hk => (.inl hk)))
 have HK := sd_ (Kept.refl w (fun k_ => P0_ k_))
 have HW0 := sd_ hB.size
 have HB := sd_ hB
 clear hB
 have H : (laws_markBoolS.l0 k l0 a1 0) = some (r1, r2) := h
 clear h
 have H' := sd_ H
 clear H
 go_enter Try.func56, Try.ntmps56
 go_wp2
 go_loopg [1, 5] k (fun kq v1 v5 w' => ∃ (x0_1 : List Bool) (x1_1 : Int) (x5_1 : Int), v1 = .int .i64 x1_1 ∧ v5 = .int .i64 x5_1 ∧ Aside0 (laws_markBoolS.l0 kq x0_1 x1_1 x5_1 = some (r1, r2)) ∧ Aside0 (kq ≤ k) ∧ Aside0 (Kd.R Kd.bool 4 w' w0.heap.size (fun k_ => (P0_ k_ ∨ w.heap.size ≤ k_)) u9000_ x0_1) ∧ Aside0 (Kept w w' (fun k_ => P0_ k_)) ∧ Aside0 (Below w0.heap.size w0 w'))
 case atStart => exact ⟨(l0), (a1), (0), sm_, sm_, H', ⟨Nat.le_refl _⟩, ⟨by (with_reducible repeat (first | apply Kd.R_alloc | apply Kd.R_drewN | apply Kd.R_drew)); exact HO0.out⟩, ⟨by repeat (first | (with_reducible first | exact HK.out | apply Kept.alloc | apply Kept.drewN | apply Kept.drew) | exact HK.out)⟩, ⟨bw0_ HB.out⟩⟩
 case round =>
  clear H'
  try clear p2
  obtain ⟨x0_1, x1_1, x5_1, rfl, rfl, HA, HK1, HO_0, HK, HB⟩ := hrel
  cases gk with
  | zero => exact absurd HA.out (by simp [laws_markBoolS.l0])
  | succ k1 =>
   have H := HA.out
   clear HA
   simp only [laws_markBoolS.l0] at H
   by_cases c3 : x5_1 < (x0_1.length : Int)
   ·rw [if_pos c3] at H
    have c3b0 : decide (x5_1 < (x0_1.length : Int)) = true := decide_eq_true c3
    clear c3
    by_cases c4 : 0 ≤ x5_1
    ·rw [if_pos c4] at H
     have c4b0 : decide (0 ≤ x5_1) = true := decide_eq_true c4
     clear c4
     obtain ⟨y376, hy376⟩ : ∃ y_ : List Bool, y_ = (x0_1.set (x5_1 : Int).toNat ((Int.tmod x1_1 3) == 0)) := ⟨_, rfl⟩
     replace H : (laws_markBoolS.l0 k1 y376 (wrap64 (x1_1 + 1)) (wrap64 (x5_1 + 1))) = some (r1, r2) := by first | (rw [hy376]; with_reducible exact H) | (have H2_ := (Option.bind_some _ _).symm.trans H; rw [hy376]; with_reducible exact H2_) | (have H2_ := (Option.bind_some _ _).symm.trans H; with_reducible exact H2_) | with_reducible exact H | (rw [hy376]; exact H) | exact H
     have Ny376 := sd_ hy376
     clear hy376
     have H' := sd_ H
     clear H
     obtain ⟨Ao6, co6, eo6⟩ := Kd.R_slice HO_0.out
     subst eo6
     have p5 : 0 ≤ (x5_1 : Int) := dt_
     have q5 : (x5_1 : Int) < ((x0_1.length : Int) : Int) := dt_
     obtain ⟨go5, co5, eo5, gb5, gl5, cl5, HG5⟩ := Kd.R_form HO_0.out (by omega)
     (first | cases eo5 | (injection eo5 with ea_ en_ ec_; (first | subst ea_ | (injection ea_ with ea_; subst ea_)); subst ec_; clear en_))
     have GB5 := sd_ gb5
     have GG5 := sd_ HG5
     clear gb5 gl5 HG5
     have HMgo5 := sd_ (show (P0_ go5 ∨ w.heap.size ≤ go5) from (HO_0.out.1 _ rfl))
     obtain ⟨hx5_0, hf5_0⟩ := Kd.R_celln false HO_0.out (x5_1 : Int) p5 q5
     replace p5 := eq_true p5
     replace q5 := eq_true q5
     have HP7 := Kd.R_putg HO_0.out (x5_1 : Int) ((Int.tmod x1_1 3) == 0)
     go_wp2_with (first | ((with_reducible refine gate_store (t := 4) (p := 17) rfl ?_); refine store_event (t := 4) (p := 17) (v := ?vo_w8) (w1 := (wr.setCell ⟨go5, (x5_1 : Int).toNat, none⟩ (.bool ((Int.tmod x1_1 3) == 0)))) ?hg ?ho ?hn ?hr ?_; (case ho => rfl); (case hg => rfl); (case hn => rfl); (case hr => first | (go_simp; done) | (go_simp; rfl)); intro w8 hw; have hg : wr.grownBy w8 (some go5) := (by rw [hw]; exact HP7.2); have hp_ : Kd.R Kd.bool 4 w8 w0.heap.size (fun k_ => (P0_ k_ ∨ w.heap.size ≤ k_)) (.slice (some ⟨go5, 0, none⟩) x0_1.length co6) y376 := (by rw [hw, Ny376.out]; exact HP7.1); clear HP7; replace HB := sd_ ((by rw [hw]; exact below_set (HB.out) GB5.out : Below w0.heap.size w0 w8)); replace HK := sd_ (Kept.of_grown (S := (fun k_ => P0_ k_)) hg (by repeat (first | (with_reducible first | exact HK.out | apply Kept.alloc | apply Kept.drewN | apply Kept.drew) | exact HK.out)) (fun k_ e_ => (HO_0.out.1 k_ e_))); replace HO_0 := sd_ (hp_); clear hg hw hp_))
     go_roundg k1
     case measure => have := HK1.out; omega
     case rel => exact ⟨(y376), (wrap64 (x1_1 + 1)), (wrap64 (x5_1 + 1)), sm_, sm_, H', ⟨by have := HK1.out; omega⟩, ⟨by (with_reducible repeat (first | apply Kd.R_alloc | apply Kd.R_drewN | apply Kd.R_drew)); exact HO_0.out⟩, ⟨by repeat (first | (with_reducible first | exact HK.out | apply Kept.alloc | apply Kept.drewN | apply Kept.drew) | exact HK.out)⟩, ⟨bw0_ HB.out⟩⟩
    rw [if_neg c4] at H
    exact absurd H (by simp)
   rw [if_neg c3] at H
   have c3b0 : decide (x5_1 < (x0_1.length : Int)) = false := decide_eq_false c3
   clear c3
   simp only [Option.some.injEq, Prod.mk.injEq] at H
   obtain ⟨rfl, rfl⟩ := H
   obtain ⟨Ao9, co9, eo9⟩ := Kd.R_slice HO_0.out
   subst eo9
   go_wp2
   go_ret
   exact ⟨an_, by (with_reducible repeat (first | apply Kd.R_alloc | apply Kd.R_drewN | apply Kd.R_drew)); exact HO_0.out, bw0_ HB.out, by repeat (first | (with_reducible first | exact HK.out | apply Kept.alloc | apply Kept.drewN | apply Kept.drew) | exact HK.out)⟩


/-! ### impl_System_has: function 105 -/
def impl_System_has.f (a0_0 : Int) (l0_1 : List Int) (l0_2 : List Int) (l0_3 : List Bool) (a1 : Int) : Option (Bool) := (impl_within.f a1 0 (wrap64 (a0_0 - 1))).bind fun t236 => (some t236)
set_option maxHeartbeats 8000000 in
set_option maxRecDepth 100000 in
theorem impl_System_has.calls (a0_0 : Int) (A0_1 : Option Addr) (c0_1 : Nat) (l0_1 : List Int) (A0_2 : Option Addr) (c0_2 : Nat) (l0_2 : List Int) (A0_3 : Option Addr) (c0_3 : Nat) (l0_3 : List Bool) (a1 : Int) (r : Bool) (w : World) (hr0_1 : Kd.C (Kd.int .i64) w A0_1 l0_1.length l0_1) (hc0_1 : l0_1.length ≤ c0_1) (hr0_2 : Kd.C (Kd.int .i64) w A0_2 l0_2.length l0_2) (hc0_2 : l0_2.length ≤ c0_2) (hr0_3 : Kd.C Kd.bool w A0_3 l0_3.length l0_3) (hc0_3 : l0_3.length ≤ c0_3) (h : impl_System_has.f a0_0 l0_1 l0_2 l0_3 a1 = some r) :
  Calls Try.prog 105 #[.agg #[.int .i64 a0_0, .slice A0_1 l0_1.length c0_1, .slice A0_2 l0_2.length c0_2, .slice A0_3 l0_3.length c0_3], .int .i64 a1] w fun e w' => e = .returned (.bool r) ∧ Below w.heap.size w w' := by
 have hu27 := Try.underlying27
 have HR0_1 := sd_ hr0_1
 have HC0_1 := sd_ hc0_1
 clear hr0_1 hc0_1
 have HR0_2 := sd_ hr0_2
 have HC0_2 := sd_ hc0_2
 clear hr0_2 hc0_2
 have HR0_3 := sd_ hr0_3
 have HC0_3 := sd_ hc0_3
 clear hr0_3 hc0_3
 have HB := sd_ (Below.refl w.heap.size w)
 have H : ((impl_within.f a1 0 (wrap64 (a0_0 - 1))).bind fun t236 => (some t236)) = some r := h
 clear h
 replace H := Option.bind_eq_some_iff.mp H
 obtain ⟨t236, A30, H⟩ := H
 try dsimp only at H
 have A3 := sd_ A30
 clear A30
 obtain rfl := Option.some.inj H
 go_enter Try.func105, Try.ntmps105
 go_wp2_with (first | ((with_reducible refine gate_dst (N := 2) rfl ?_); refine bx_ (N := 2) (cs := #[.int .i64 a0_0, .slice A0_1 l0_1.length c0_1, .slice A0_2 l0_2.length c0_2, .slice A0_3 l0_3.length c0_3]) (t := 27) ?_; intro gb235 hg w4 hbox hb; have BK235 := sd_ (hbox); have GW235 := sd_ (gs_ hg (bw0_ HB.out)); have GE235 := sd_ (gs_ hg (bw0_ HB.out)); replace HB := sd_ (below_step (bw0_ HB.out) hb); clear hb hbox hg; obtain ⟨hcz5_0, hcz5_1, hcz5_2, hcz5_3, hfz5_0, hfz5_1, hfz5_2, hfz5_3⟩ := bf4_ BK235.out) | ((with_reducible refine gate_callee (f := 104) rfl ?_); refine goesL_ (some 9) rfl rfl Try.func104 (by kernel_rfl) rfl #[.int .i64 a1, .int .i64 0, .int .i64 (wrap64 (a0_0 - 1))] rfl la_ ?_; (with_reducible refine (impl_within.calls a1 0 (wrap64 (a0_0 - 1)) t236 _ A3.out).mono ?_); rintro e w' ⟨rfl, ⟨nd, rfl⟩⟩; refine ⟨_, rfl, ?_⟩))
 go_ret
 exact ⟨an_, bw1_ HB.out GE235.out⟩


/-! ### spec_l1In: function 112 -/
def spec_l1In.f (a0 : Int) (a1 : Int) (a2 : Int) : Option (Bool) := if a0 ≥ a1 then (some (decide (a0 ≤ a2))) else (some false)
set_option maxHeartbeats 8000000 in
set_option maxRecDepth 100000 in
theorem spec_l1In.calls (a0 : Int) (a1 : Int) (a2 : Int) (r : Bool) (w : World) (h : spec_l1In.f a0 a1 a2 = some r) :
  Calls Try.prog 112 #[.int .i64 a0, .int .i64 a1, .int .i64 a2] w fun e w' => e = .returned (.bool r) ∧ Drawn0 w w' := by
 have H : (if a0 ≥ a1 then (some (decide (a0 ≤ a2))) else (some false)) = some r := h
 clear h
 by_cases c4 : a0 ≥ a1
 ·rw [if_pos c4] at H
  have c4b0 : decide (a1 ≤ a0) = true := decide_eq_true c4
  clear c4
  obtain rfl := Option.some.inj H
  go_enter Try.func112, Try.ntmps112
  go_wp2
  go_ret
  exact ⟨by first | rfl | (simp; done) | (simp [*]; done), by repeat (first | exact Drawn0.refl _ | apply Drawn0.step)⟩
 rw [if_neg c4] at H
 have c4b0 : decide (a1 ≤ a0) = false := decide_eq_false c4
 clear c4
 obtain rfl := Option.some.inj H
 go_enter Try.func112, Try.ntmps112
 go_wp2
 go_ret
 exact ⟨by first | rfl | (simp; done) | (simp [*]; done), by repeat (first | exact Drawn0.refl _ | apply Drawn0.step)⟩

end Go.Proofs.Ytipfkicndjddgaa.P
end
