-- Printed by this session's own program (wip/tools/mkprint.py) out of the translation. Not trusted: Lean checks it.
import Derived.Test.YtipfkicndjddgaaP0
import Derived.Test.YtipfkicndjddgaaM2
/-! short words -/
namespace Go.Proofs.Ytipfkicndjddgaa.P
open Go.RowKit Go.Proofs.YtipfkicndjddgaaW.PrintWords Go.Proofs.YtipfkicndjddgaaW.PrintLast Go.Proofs.YtipfkicndjddgaaW.PrintMore
attribute [local go_sem] max2_int min2_int max_two min_two max_three min_three max_four min_four   -- for this text's walks alone
set_option linter.unusedVariables false
set_option linter.unusedSimpArgs false

/-! ### laws_eqTermS: function 65 -/
/-! ### laws_eqTerm: function 20 -/
mutual
def laws_eqTermS.l0 : Nat → List (S40) → List (S40) → Int → Option (Bool)
 | 0, _, _, _ => none
 | k + 1, x0, x1, x5 => if x5 < (x0.length : Int) then (if 0 ≤ x5 then (if x5 < (x1.length : Int) then ((laws_eqTerm.f k ((rd_T40 x0 x5).f0) ((rd_T40 x0 x5).f1) ((rd_T40 x0 x5).f2) ((rd_T40 x0 x5).f3) ((rd_T40 x1 x5).f0) ((rd_T40 x1 x5).f1) ((rd_T40 x1 x5).f2) ((rd_T40 x1 x5).f3)).bind fun t137 => (if t137 = true then (laws_eqTermS.l0 k x0 x1 (wrap64 (x5 + 1))) else (some false))) else (none)) else (none)) else (some true)
def laws_eqTermS.f : Nat → List (S40) → List (S40) → Option (Bool)
 | 0, _, _ => none
 | k + 1, l0, l1 => if (l0.length : Int) = (l1.length : Int) then (laws_eqTermS.l0 k l0 l1 0) else (some false)
def laws_eqTerm.f : Nat → Int → Int → List Int → List (S40) → Int → Int → List Int → List (S40) → Option (Bool)
 | 0, _, _, _, _, _, _, _, _ => none
 | k + 1, a0_0, a0_1, l0_2, l0_3, a1_0, a1_1, l1_2, l1_3 => if a0_0 = a1_0 then (if a0_1 = a1_1 then ((laws_eqIntS.f k l0_2 l1_2).bind fun t140 => (if t140 = true then ((laws_eqTermS.f k l0_3 l1_3).bind fun t141 => (if t141 = true then (some true) else (some false))) else (some false))) else (some false)) else (some false)
end
def laws_eqTermS.T6 : Bool × List (List Nat × List Nat) := (true, [([], []), ([], []), ([0, 1], [0, 1]), ([2], [2]), ([], []), ([], []), ([4, 5], [4, 5]), ([6], [6]), ([3, 7], [3, 7]), ([8], [8])])
def laws_eqTermS.B6 : List Nat := [0, 0, 3, 7, 0, 0, 48, 112, 255, 511]
theorem laws_eqTermS.tab6 : rtab .any (opsOf Try.f65 6) = laws_eqTermS.T6 := by kernel_rfl
theorem laws_eqTermS.bits6 : waitsOk laws_eqTermS.T6.2 laws_eqTermS.B6 = true := by kernel_rfl
set_option maxHeartbeats 8000000 in
set_option maxRecDepth 100000 in
theorem laws_eqTermS.step (k : Nat) (ih : ∀ k_, k_ < k → (∀ (A0 : Option Addr) (c0 : Nat) (l0 : List (S40)) (A1 : Option Addr) (c1 : Nat) (l1 : List (S40)) (r : Bool) (w : World) (hr0 : Kd.C k40 w A0 l0.length l0) (hc0 : l0.length ≤ c0) (hr1 : Kd.C k40 w A1 l1.length l1) (hc1 : l1.length ≤ c1) (h : laws_eqTermS.f k_ l0 l1 = some r), Calls Try.prog 65 #[.slice A0 l0.length c0, .slice A1 l1.length c1] w fun e w' => e = .returned (.bool r) ∧ Below w.heap.size w w')) (ihm : ∀ k_, k_ < k → (∀ (a0_0 : Int) (a0_1 : Int) (A0_2 : Option Addr) (c0_2 : Nat) (l0_2 : List Int) (A0_3 : Option Addr) (c0_3 : Nat) (l0_3 : List (S40)) (a1_0 : Int) (a1_1 : Int) (A1_2 : Option Addr) (c1_2 : Nat) (l1_2 : List Int) (A1_3 : Option Addr) (c1_3 : Nat) (l1_3 : List (S40)) (r : Bool) (w : World) (hr0_2 : Kd.C (Kd.int .i64) w A0_2 l0_2.length l0_2) (hc0_2 : l0_2.length ≤ c0_2) (hr0_3 : Kd.C k40 w A0_3 l0_3.length l0_3) (hc0_3 : l0_3.length ≤ c0_3) (hr1_2 : Kd.C (Kd.int .i64) w A1_2 l1_2.length l1_2) (hc1_2 : l1_2.length ≤ c1_2) (hr1_3 : Kd.C k40 w A1_3 l1_3.length l1_3) (hc1_3 : l1_3.length ≤ c1_3) (h : laws_eqTerm.f k_ a0_0 a0_1 l0_2 l0_3 a1_0 a1_1 l1_2 l1_3 = some r), Calls Try.prog 20 #[.agg #[.int .i64 a0_0, .int .i64 a0_1, .slice A0_2 l0_2.length c0_2, .slice A0_3 l0_3.length c0_3], .agg #[.int .i64 a1_0, .int .i64 a1_1, .slice A1_2 l1_2.length c1_2, .slice A1_3 l1_3.length c1_3]] w fun e w' => e = .returned (.bool r) ∧ Below w.heap.size w w')) : ∀ (A0 : Option Addr) (c0 : Nat) (l0 : List (S40)) (A1 : Option Addr) (c1 : Nat) (l1 : List (S40)) (r : Bool) (w : World) (hr0 : Kd.C k40 w A0 l0.length l0) (hc0 : l0.length ≤ c0) (hr1 : Kd.C k40 w A1 l1.length l1) (hc1 : l1.length ≤ c1) (h : laws_eqTermS.f k l0 l1 = some r),
  Calls Try.prog 65 #[.slice A0 l0.length c0, .slice A1 l1.length c1] w fun e w' => e = .returned (.bool r) ∧ Below w.heap.size w w' := by
 intro A0 c0 l0 A1 c1 l1 r w hr0 hc0 hr1 hc1 h
 cases k with
 | zero => exact absurd h (by simp [laws_eqTermS.f])
 | succ k =>
 simp only [laws_eqTermS.f] at h
 have hu40 := Try.underlying40
 have HR0 := sd_ hr0
 have HC0 := sd_ hc0
 clear hr0 hc0
 have HR1 := sd_ hr1
 have HC1 := sd_ hc1
 clear hr1 hc1
 have HB := sd_ (Below.refl w.heap.size w)
 have H : (if (l0.length : Int) = (l1.length : Int) then (laws_eqTermS.l0 k l0 l1 0) else (some false)) = some r := h
 clear h
 by_cases c3 : (l0.length : Int) = (l1.length : Int)
 ·rw [if_pos c3] at H
  have c3b0 : ((l0.length : Int) == (l1.length : Int)) = true := beq_iff_eq.mpr c3
  have c3b1 : ((l0.length : Int) != (l1.length : Int)) = false := bne_eq_false_iff_eq.mpr c3
  have c3b2 : (l0.length == l1.length) = true := by first | simpa using c3 | (simp at c3 ⊢; omega)
  clear c3
  have H' := sd_ H
  clear H
  go_enter Try.func65, Try.ntmps65
  go_wp2
  go_loopg [5] k (fun kq v5 w' => ∃ (x5_1 : Int), v5 = .int .i64 x5_1 ∧ Aside0 (laws_eqTermS.l0 kq l0 l1 x5_1 = some r) ∧ Aside0 (kq ≤ k) ∧ Aside0 (Below w.heap.size w w'))
  case atStart => exact ⟨(0), sm_, H', ⟨Nat.le_refl _⟩, ⟨bw0_ HB.out⟩⟩
  case round =>
   clear H'
   try clear c1
   try clear p2
   try clear c3
   try clear c3b0
   try clear c3b1
   try clear c3b2
   obtain ⟨x5_1, rfl, HA, HK1, HB⟩ := hrel
   cases gk with
   | zero => exact absurd HA.out (by simp [laws_eqTermS.l0])
   | succ k1 =>
    have H := HA.out
    clear HA
    simp only [laws_eqTermS.l0] at H
    by_cases c4 : x5_1 < (l0.length : Int)
    ·rw [if_pos c4] at H
     have c4b0 : decide (x5_1 < (l0.length : Int)) = true := decide_eq_true c4
     clear c4
     by_cases c5 : 0 ≤ x5_1
     ·rw [if_pos c5] at H
      have c5b0 : decide (0 ≤ x5_1) = true := decide_eq_true c5
      clear c5
      by_cases c6 : x5_1 < (l1.length : Int)
      ·rw [if_pos c6] at H
       have c6b0 : decide (x5_1 < (l1.length : Int)) = true := decide_eq_true c6
       clear c6
       replace H := Option.bind_eq_some_iff.mp H
       obtain ⟨t137, A70, H⟩ := H
       try dsimp only at H
       have A7 := sd_ A70
       clear A70
       by_cases c8 : t137 = true
       ·subst c8
        have H1 : (laws_eqTermS.l0 k1 l0 l1 (wrap64 (x5_1 + 1))) = some r := by rw [if_pos rfl] at H; exact H
        clear H
        have H := H1
        clear H1
        have H' := sd_ H
        clear H
        try go_wp2
        have n0_ := sd_ (below_drew1 HB.out)
        clear HB
        have HB := n0_
        clear n0_
        have p135 : 0 ≤ (x5_1 : Int) := dt_
        have q135 : x5_1 < (l0.length : Int) := dt_
        obtain ⟨ad135, A135_2, c135_2, A135_3, c135_3, e135, hx135_0, hx135_1, hx135_2, hx135_3, hl135_2, hi135_2, hl135_3, hi135_3⟩ := at_T40 HR0.out x5_1 p135 q135
        have hw135_3 := hx135_3
        have hw135_2 := hx135_2
        have hw135_1 := hx135_1
        have hw135_0 := hx135_0
        cases e135
        replace hx135_0 := (HB.out.cell (World.block_lt_of_cell? w _ hx135_0)).trans hx135_0
        replace hx135_1 := (HB.out.cell (World.block_lt_of_cell? w _ hx135_1)).trans hx135_1
        replace hx135_2 := (HB.out.cell (World.block_lt_of_cell? w _ hx135_2)).trans hx135_2
        replace hx135_3 := (HB.out.cell (World.block_lt_of_cell? w _ hx135_3)).trans hx135_3
        have HR135_2 := sd_ hi135_2
        have HC135_2 := sd_ hl135_2
        clear hi135_2 hl135_2
        have HR135_3 := sd_ hi135_3
        have HC135_3 := sd_ hl135_3
        clear hi135_3 hl135_3
        replace p135 := eq_true p135
        replace q135 := eq_true q135
        have p136 : 0 ≤ (x5_1 : Int) := dt_
        have q136 : x5_1 < (l1.length : Int) := dt_
        obtain ⟨ad136, A136_2, c136_2, A136_3, c136_3, e136, hx136_0, hx136_1, hx136_2, hx136_3, hl136_2, hi136_2, hl136_3, hi136_3⟩ := at_T40 HR1.out x5_1 p136 q136
        have hw136_3 := hx136_3
        have hw136_2 := hx136_2
        have hw136_1 := hx136_1
        have hw136_0 := hx136_0
        cases e136
        replace hx136_0 := (HB.out.cell (World.block_lt_of_cell? w _ hx136_0)).trans hx136_0
        replace hx136_1 := (HB.out.cell (World.block_lt_of_cell? w _ hx136_1)).trans hx136_1
        replace hx136_2 := (HB.out.cell (World.block_lt_of_cell? w _ hx136_2)).trans hx136_2
        replace hx136_3 := (HB.out.cell (World.block_lt_of_cell? w _ hx136_3)).trans hx136_3
        have HR136_2 := sd_ hi136_2
        have HC136_2 := sd_ hl136_2
        clear hi136_2 hl136_2
        have HR136_3 := sd_ hi136_3
        have HC136_3 := sd_ hl136_3
        clear hi136_3 hl136_3
        replace p136 := eq_true p136
        replace q136 := eq_true q136
        refine start_ (n := 10) (S := fun w' => w'.cell? (ad135.add ((x5_1).toNat * 4)) = some (.int .i64 ((rd_T40 l0 x5_1).f0)) ∧ w'.cell? ⟨(ad135.add ((x5_1).toNat * 4)).block, (ad135.add ((x5_1).toNat * 4)).off + 1, none⟩ = some (.int .i64 ((rd_T40 l0 x5_1).f1)) ∧ w'.cell? ⟨(ad135.add ((x5_1).toNat * 4)).block, (ad135.add ((x5_1).toNat * 4)).off + 2, none⟩ = some (.slice A135_2 ((rd_T40 l0 x5_1).f2).length c135_2) ∧ w'.cell? ⟨(ad135.add ((x5_1).toNat * 4)).block, (ad135.add ((x5_1).toNat * 4)).off + 3, none⟩ = some (.slice A135_3 ((rd_T40 l0 x5_1).f3).length c135_3) ∧ w'.cell? (ad136.add ((x5_1).toNat * 4)) = some (.int .i64 ((rd_T40 l1 x5_1).f0)) ∧ w'.cell? ⟨(ad136.add ((x5_1).toNat * 4)).block, (ad136.add ((x5_1).toNat * 4)).off + 1, none⟩ = some (.int .i64 ((rd_T40 l1 x5_1).f1)) ∧ w'.cell? ⟨(ad136.add ((x5_1).toNat * 4)).block, (ad136.add ((x5_1).toNat * 4)).off + 2, none⟩ = some (.slice A136_2 ((rd_T40 l1 x5_1).f2).length c136_2) ∧ w'.cell? ⟨(ad136.add ((x5_1).toNat * 4)).block, (ad136.add ((x5_1).toNat * 4)).off + 3, none⟩ = some (.slice A136_3 ((rd_T40 l1 x5_1).f3).length c136_3)) (ds := []) #[false, false, false, false, false, false, false, false, false, false] (by kernel_rfl) rfl rfl ⟨((HB.out.cell (World.block_lt_of_cell? w _ hw135_0)).trans hw135_0), ((HB.out.cell (World.block_lt_of_cell? w _ hw135_1)).trans hw135_1), ((HB.out.cell (World.block_lt_of_cell? w _ hw135_2)).trans hw135_2), ((HB.out.cell (World.block_lt_of_cell? w _ hw135_3)).trans hw135_3), ((HB.out.cell (World.block_lt_of_cell? w _ hw136_0)).trans hw136_0), ((HB.out.cell (World.block_lt_of_cell? w _ hw136_1)).trans hw136_1), ((HB.out.cell (World.block_lt_of_cell? w _ hw136_2)).trans hw136_2), ((HB.out.cell (World.block_lt_of_cell? w _ hw136_3)).trans hw136_3)⟩ (fun hHeld => ?_); refine with_tabW laws_eqTermS.tab6 laws_eqTermS.bits6 (fun HT_ HW_ => ?_)
        generalize wr.drew = w9 at HB HR135_2 HR135_3 HR136_2 HR136_3 hx135_0 hx135_1 hx135_2 hx135_3 hx136_0 hx136_1 hx136_2 hx136_3 hHeld ⊢
        refine pure_ (i := 0) (N := some 17) (v := ?_) (a' := ?_) #[true, false, false, false, false, false, false, false, false, false] rfl rfl (any_of HT_.out (by kernel_rfl)) (fun _ _ _ h => h) (Or.inl ⟨by rfl, ?_⟩) ?_ ?_
        rotate_left
        ·intro w'
         go_simp
         with_reducible rfl
        rotate_left
        ·simp only [Act.put, List.setIfInBounds_toArray, List.set_cons_zero, List.set_cons_succ, i64_w, i32_w]
         rfl
        refine pure_ (i := 1) (N := some 18) (v := ?_) (a' := ?_) #[true, true, false, false, false, false, false, false, false, false] rfl rfl (any_of HT_.out (by kernel_rfl)) (fun _ _ _ h => h) (Or.inl ⟨by rfl, ?_⟩) ?_ ?_
        rotate_left
        ·intro w'
         go_simp
         with_reducible rfl
        rotate_left
        ·simp only [Act.put, List.setIfInBounds_toArray, List.set_cons_zero, List.set_cons_succ, i64_w, i32_w]
         rfl
        refine pure_ (i := 2) (N := some 19) (v := ?_) (a' := ?_) #[true, true, true, false, false, false, false, false, false, false] rfl rfl (any_of HT_.out (by kernel_rfl)) (fun _ _ _ h => h) (Or.inl ⟨by rfl, ?_⟩) ?_ ?_
        rotate_left
        ·intro w'
         go_simp
         with_reducible rfl
        rotate_left
        ·simp only [Act.put, List.setIfInBounds_toArray, List.set_cons_zero, List.set_cons_succ, i64_w, i32_w]
         rfl
        refine pure_ (i := 4) (N := some 21) (v := ?_) (a' := ?_) #[true, true, true, false, true, false, false, false, false, false] rfl rfl (any_of HT_.out (by kernel_rfl)) (fun _ _ _ h => h) (Or.inl ⟨by rfl, ?_⟩) ?_ ?_
        rotate_left
        ·intro w'
         go_simp
         with_reducible rfl
        rotate_left
        ·simp only [Act.put, List.setIfInBounds_toArray, List.set_cons_zero, List.set_cons_succ, i64_w, i32_w]
         rfl
        refine pure_ (i := 5) (N := some 22) (v := ?_) (a' := ?_) #[true, true, true, false, true, true, false, false, false, false] rfl rfl (any_of HT_.out (by kernel_rfl)) (fun _ _ _ h => h) (Or.inl ⟨by rfl, ?_⟩) ?_ ?_
        rotate_left
        ·intro w'
         go_simp
         with_reducible rfl
        rotate_left
        ·simp only [Act.put, List.setIfInBounds_toArray, List.set_cons_zero, List.set_cons_succ, i64_w, i32_w]
         rfl
        refine pure_ (i := 6) (N := some 23) (v := ?_) (a' := ?_) #[true, true, true, false, true, true, true, false, false, false] rfl rfl (any_of HT_.out (by kernel_rfl)) (fun _ _ _ h => h) (Or.inl ⟨by rfl, ?_⟩) ?_ ?_
        rotate_left
        ·intro w'
         go_simp
         with_reducible rfl
        rotate_left
        ·simp only [Act.put, List.setIfInBounds_toArray, List.set_cons_zero, List.set_cons_succ, i64_w, i32_w]
         rfl
        refine take_ (i := 3) (N := some 20) (v := ?_) (a' := ?_) #[true, true, true, true, true, true, true, false, false, false] rfl rfl (take_ofW HT_.out HW_.out (by kernel_rfl)) (fun _ _ _ h => h) (Or.inl ⟨by rfl, ?_⟩) hHeld ?_ ?_
        rotate_left
        ·rintro w' ⟨s0, s1, s2, s3, s4, s5, s6, s7⟩
         go_simp
         with_reducible rfl
        rotate_left
        ·simp only [Act.put, List.setIfInBounds_toArray, List.set_cons_zero, List.set_cons_succ, i64_w, i32_w]
         rfl
        refine take_ (i := 7) (N := some 24) (v := ?_) (a' := ?_) #[true, true, true, true, true, true, true, true, false, false] rfl rfl (take_ofW HT_.out HW_.out (by kernel_rfl)) (fun _ _ _ h => h) (Or.inl ⟨by rfl, ?_⟩) hHeld ?_ ?_
        rotate_left
        ·rintro w' ⟨s0, s1, s2, s3, s4, s5, s6, s7⟩
         go_simp
         with_reducible rfl
        rotate_left
        ·simp only [Act.put, List.setIfInBounds_toArray, List.set_cons_zero, List.set_cons_succ, i64_w, i32_w]
         rfl
        refine one_ (i := 8) (N := some 25) #[true, true, true, true, true, true, true, true, true, false] rfl rfl (one_of HT_.out (by kernel_rfl)) (by decide) (fun K hK => ?_)
        refine goes_ Try.func20 (by kernel_rfl) rfl #[.agg #[.int .i64 ((rd_T40 l0 x5_1).f0), .int .i64 ((rd_T40 l0 x5_1).f1), .slice A135_2 ((rd_T40 l0 x5_1).f2).length c135_2, .slice A135_3 ((rd_T40 l0 x5_1).f3).length c135_3], .agg #[.int .i64 ((rd_T40 l1 x5_1).f0), .int .i64 ((rd_T40 l1 x5_1).f1), .slice A136_2 ((rd_T40 l1 x5_1).f2).length c136_2, .slice A136_3 ((rd_T40 l1 x5_1).f3).length c136_3]] (by rfl) rfl rfl la_ ?_
        with_reducible refine (ihm k1 (by have := HK1.out; omega) ((rd_T40 l0 x5_1).f0) ((rd_T40 l0 x5_1).f1) _ _ ((rd_T40 l0 x5_1).f2) _ _ ((rd_T40 l0 x5_1).f3) ((rd_T40 l1 x5_1).f0) ((rd_T40 l1 x5_1).f1) _ _ ((rd_T40 l1 x5_1).f2) _ _ ((rd_T40 l1 x5_1).f3) true _ ?side1 ?side2 ?side3 ?side4 ?side5 ?side6 ?side7 ?side8 A7.out).mono ?_
        (case side1 => exact kc_ HR135_2.out HB.out)
        (case side2 => exact HC135_2.out)
        (case side3 => exact kc_ HR135_3.out HB.out)
        (case side4 => exact HC135_3.out)
        (case side5 => exact kc_ HR136_2.out HB.out)
        (case side6 => exact HC136_2.out)
        (case side7 => exact kc_ HR136_3.out HB.out)
        (case side8 => exact HC136_3.out)
        rintro e w10 ⟨rfl, hb⟩
        refine ⟨_, rfl, ?_⟩
        have n0_ := sd_ (below_step (bw0_ HB.out) hb)
        clear HB
        have HB := n0_
        clear n0_
        (try clear hb)
        (try clear hb2)
        (try clear hk)
        (try clear hi)
        refine hK.out _ _ ⟨((HB.out.cell (World.block_lt_of_cell? w _ hw135_0)).trans hw135_0), ((HB.out.cell (World.block_lt_of_cell? w _ hw135_1)).trans hw135_1), ((HB.out.cell (World.block_lt_of_cell? w _ hw135_2)).trans hw135_2), ((HB.out.cell (World.block_lt_of_cell? w _ hw135_3)).trans hw135_3), ((HB.out.cell (World.block_lt_of_cell? w _ hw136_0)).trans hw136_0), ((HB.out.cell (World.block_lt_of_cell? w _ hw136_1)).trans hw136_1), ((HB.out.cell (World.block_lt_of_cell? w _ hw136_2)).trans hw136_2), ((HB.out.cell (World.block_lt_of_cell? w _ hw136_3)).trans hw136_3)⟩ (fun hHeld => ?_)
        clear hK K
        refine norm_ (a' := ?_) ?_ ?_
        rotate_left
        ·show Act.put _ (some 25) _ = _
         simp only [Act.put, List.setIfInBounds_toArray, List.set_cons_zero, List.set_cons_succ, i64_w, i32_w]
         rfl
        refine pure_ (i := 9) (N := some 26) (v := ?_) (a' := ?_) #[true, true, true, true, true, true, true, true, true, true] rfl rfl (any_of HT_.out (by kernel_rfl)) (fun _ _ _ h => h) (Or.inl ⟨by rfl, ?_⟩) ?_ ?_
        rotate_left
        ·intro w'
         go_simp
         with_reducible rfl
        rotate_left
        ·simp only [Act.put, List.setIfInBounds_toArray, List.set_cons_zero, List.set_cons_succ, i64_w, i32_w]
         rfl
        refine done_ (done_of HT_.out (by kernel_rfl)) ?_
        try go_wp2
        go_roundg k1
        case measure => have := HK1.out; omega
        case rel => exact ⟨(wrap64 (x5_1 + 1)), sm_, H', ⟨by have := HK1.out; omega⟩, ⟨bw0_ HB.out⟩⟩
       replace c8 := Bool.eq_false_iff.mpr c8
       subst c8
       have H1 : (some false) = some r := by rw [if_neg (show ¬ (false = true) by decide)] at H; exact H
       clear H
       have H := H1
       clear H1
       obtain rfl := Option.some.inj H
       try go_wp2
       have n0_ := sd_ (below_drew1 HB.out)
       clear HB
       have HB := n0_
       clear n0_
       have p135 : 0 ≤ (x5_1 : Int) := dt_
       have q135 : x5_1 < (l0.length : Int) := dt_
       obtain ⟨ad135, A135_2, c135_2, A135_3, c135_3, e135, hx135_0, hx135_1, hx135_2, hx135_3, hl135_2, hi135_2, hl135_3, hi135_3⟩ := at_T40 HR0.out x5_1 p135 q135
       have hw135_3 := hx135_3
       have hw135_2 := hx135_2
       have hw135_1 := hx135_1
       have hw135_0 := hx135_0
       cases e135
       replace hx135_0 := (HB.out.cell (World.block_lt_of_cell? w _ hx135_0)).trans hx135_0
       replace hx135_1 := (HB.out.cell (World.block_lt_of_cell? w _ hx135_1)).trans hx135_1
       replace hx135_2 := (HB.out.cell (World.block_lt_of_cell? w _ hx135_2)).trans hx135_2
       replace hx135_3 := (HB.out.cell (World.block_lt_of_cell? w _ hx135_3)).trans hx135_3
       have HR135_2 := sd_ hi135_2
       have HC135_2 := sd_ hl135_2
       clear hi135_2 hl135_2
       have HR135_3 := sd_ hi135_3
       have HC135_3 := sd_ hl135_3
       clear hi135_3 hl135_3
       replace p135 := eq_true p135
       replace q135 := eq_true q135
       have p136 : 0 ≤ (x5_1 : Int) := dt_
       have q136 : x5_1 < (l1.length : Int) := dt_
       obtain ⟨ad136, A136_2, c136_2, A136_3, c136_3, e136, hx136_0, hx136_1, hx136_2, hx136_3, hl136_2, hi136_2, hl136_3, hi136_3⟩ := at_T40 HR1.out x5_1 p136 q136
       have hw136_3 := hx136_3
       have hw136_2 := hx136_2
       have hw136_1 := hx136_1
       have hw136_0 := hx136_0
       cases e136
       replace hx136_0 := (HB.out.cell (World.block_lt_of_cell? w _ hx136_0)).trans hx136_0
       replace hx136_1 := (HB.out.cell (World.block_lt_of_cell? w _ hx136_1)).trans hx136_1
       replace hx136_2 := (HB.out.cell (World.block_lt_of_cell? w _ hx136_2)).trans hx136_2
       replace hx136_3 := (HB.out.cell (World.block_lt_of_cell? w _ hx136_3)).trans hx136_3
       have HR136_2 := sd_ hi136_2
       have HC136_2 := sd_ hl136_2
       clear hi136_2 hl136_2
       have HR136_3 := sd_ hi136_3
       have HC136_3 := sd_ hl136_3
       clear hi136_3 hl136_3
       replace p136 := eq_true p136
       replace q136 := eq_true q136
       refine start_ (n := 10) (S := fun w' => w'.cell? (ad135.add ((x5_1).toNat * 4)) = some (.int .i64 ((rd_T40 l0 x5_1).f0)) ∧ w'.cell? ⟨(ad135.add ((x5_1).toNat * 4)).block, (ad135.add ((x5_1).toNat * 4)).off + 1, none⟩ = some (.int .i64 ((rd_T40 l0 x5_1).f1)) ∧ w'.cell? ⟨(ad135.add ((x5_1).toNat * 4)).block, (ad135.add ((x5_1).toNat * 4)).off + 2, none⟩ = some (.slice A135_2 ((rd_T40 l0 x5_1).f2).length c135_2) ∧ w'.cell? ⟨(ad135.add ((x5_1).toNat * 4)).block, (ad135.add ((x5_1).toNat * 4)).off + 3, none⟩ = some (.slice A135_3 ((rd_T40 l0 x5_1).f3).length c135_3) ∧ w'.cell? (ad136.add ((x5_1).toNat * 4)) = some (.int .i64 ((rd_T40 l1 x5_1).f0)) ∧ w'.cell? ⟨(ad136.add ((x5_1).toNat * 4)).block, (ad136.add ((x5_1).toNat * 4)).off + 1, none⟩ = some (.int .i64 ((rd_T40 l1 x5_1).f1)) ∧ w'.cell? ⟨(ad136.add ((x5_1).toNat * 4)).block, (ad136.add ((x5_1).toNat * 4)).off + 2, none⟩ = some (.slice A136_2 ((rd_T40 l1 x5_1).f2).length c136_2) ∧ w'.cell? ⟨(ad136.add ((x5_1).toNat * 4)).block, (ad136.add ((x5_1).toNat * 4)).off + 3, none⟩ = some (.slice A136_3 ((rd_T40 l1 x5_1).f3).length c136_3)) (ds := []) #[false, false, false, false, false, false, false, false, false, false] (by kernel_rfl) rfl rfl ⟨((HB.out.cell (World.block_lt_of_cell? w _ hw135_0)).trans hw135_0), ((HB.out.cell (World.block_lt_of_cell? w _ hw135_1)).trans hw135_1), ((HB.out.cell (World.block_lt_of_cell? w _ hw135_2)).trans hw135_2), ((HB.out.cell (World.block_lt_of_cell? w _ hw135_3)).trans hw135_3), ((HB.out.cell (World.block_lt_of_cell? w _ hw136_0)).trans hw136_0), ((HB.out.cell (World.block_lt_of_cell? w _ hw136_1)).trans hw136_1), ((HB.out.cell (World.block_lt_of_cell? w _ hw136_2)).trans hw136_2), ((HB.out.cell (World.block_lt_of_cell? w _ hw136_3)).trans hw136_3)⟩ (fun hHeld => ?_); refine with_tabW laws_eqTermS.tab6 laws_eqTermS.bits6 (fun HT_ HW_ => ?_)
       generalize wr.drew = w11 at HB HR135_2 HR135_3 HR136_2 HR136_3 hx135_0 hx135_1 hx135_2 hx135_3 hx136_0 hx136_1 hx136_2 hx136_3 hHeld ⊢
       refine pure_ (i := 0) (N := some 17) (v := ?_) (a' := ?_) #[true, false, false, false, false, false, false, false, false, false] rfl rfl (any_of HT_.out (by kernel_rfl)) (fun _ _ _ h => h) (Or.inl ⟨by rfl, ?_⟩) ?_ ?_
       rotate_left
       ·intro w'
        go_simp
        with_reducible rfl
       rotate_left
       ·simp only [Act.put, List.setIfInBounds_toArray, List.set_cons_zero, List.set_cons_succ, i64_w, i32_w]
        rfl
       refine pure_ (i := 1) (N := some 18) (v := ?_) (a' := ?_) #[true, true, false, false, false, false, false, false, false, false] rfl rfl (any_of HT_.out (by kernel_rfl)) (fun _ _ _ h => h) (Or.inl ⟨by rfl, ?_⟩) ?_ ?_
       rotate_left
       ·intro w'
        go_simp
        with_reducible rfl
       rotate_left
       ·simp only [Act.put, List.setIfInBounds_toArray, List.set_cons_zero, List.set_cons_succ, i64_w, i32_w]
        rfl
       refine pure_ (i := 2) (N := some 19) (v := ?_) (a' := ?_) #[true, true, true, false, false, false, false, false, false, false] rfl rfl (any_of HT_.out (by kernel_rfl)) (fun _ _ _ h => h) (Or.inl ⟨by rfl, ?_⟩) ?_ ?_
       rotate_left
       ·intro w'
        go_simp
        with_reducible rfl
       rotate_left
       ·simp only [Act.put, List.setIfInBounds_toArray, List.set_cons_zero, List.set_cons_succ, i64_w, i32_w]
        rfl
       refine pure_ (i := 4) (N := some 21) (v := ?_) (a' := ?_) #[true, true, true, false, true, false, false, false, false, false] rfl rfl (any_of HT_.out (by kernel_rfl)) (fun _ _ _ h => h) (Or.inl ⟨by rfl, ?_⟩) ?_ ?_
       rotate_left
       ·intro w'
        go_simp
        with_reducible rfl
       rotate_left
       ·simp only [Act.put, List.setIfInBounds_toArray, List.set_cons_zero, List.set_cons_succ, i64_w, i32_w]
        rfl
       refine pure_ (i := 5) (N := some 22) (v := ?_) (a' := ?_) #[true, true, true, false, true, true, false, false, false, false] rfl rfl (any_of HT_.out (by kernel_rfl)) (fun _ _ _ h => h) (Or.inl ⟨by rfl, ?_⟩) ?_ ?_
       rotate_left
       ·intro w'
        go_simp
        with_reducible rfl
       rotate_left
       ·simp only [Act.put, List.setIfInBounds_toArray, List.set_cons_zero, List.set_cons_succ, i64_w, i32_w]
        rfl
       refine pure_ (i := 6) (N := some 23) (v := ?_) (a' := ?_) #[true, true, true, false, true, true, true, false, false, false] rfl rfl (any_of HT_.out (by kernel_rfl)) (fun _ _ _ h => h) (Or.inl ⟨by rfl, ?_⟩) ?_ ?_
       rotate_left
       ·intro w'
        go_simp
        with_reducible rfl
       rotate_left
       ·simp only [Act.put, List.setIfInBounds_toArray, List.set_cons_zero, List.set_cons_succ, i64_w, i32_w]
        rfl
       refine take_ (i := 3) (N := some 20) (v := ?_) (a' := ?_) #[true, true, true, true, true, true, true, false, false, false] rfl rfl (take_ofW HT_.out HW_.out (by kernel_rfl)) (fun _ _ _ h => h) (Or.inl ⟨by rfl, ?_⟩) hHeld ?_ ?_
       rotate_left
       ·rintro w' ⟨s0, s1, s2, s3, s4, s5, s6, s7⟩
        go_simp
        with_reducible rfl
       rotate_left
       ·simp only [Act.put, List.setIfInBounds_toArray, List.set_cons_zero, List.set_cons_succ, i64_w, i32_w]
        rfl
       refine take_ (i := 7) (N := some 24) (v := ?_) (a' := ?_) #[true, true, true, true, true, true, true, true, false, false] rfl rfl (take_ofW HT_.out HW_.out (by kernel_rfl)) (fun _ _ _ h => h) (Or.inl ⟨by rfl, ?_⟩) hHeld ?_ ?_
       rotate_left
       ·rintro w' ⟨s0, s1, s2, s3, s4, s5, s6, s7⟩
        go_simp
        with_reducible rfl
       rotate_left
       ·simp only [Act.put, List.setIfInBounds_toArray, List.set_cons_zero, List.set_cons_succ, i64_w, i32_w]
        rfl
       refine one_ (i := 8) (N := some 25) #[true, true, true, true, true, true, true, true, true, false] rfl rfl (one_of HT_.out (by kernel_rfl)) (by decide) (fun K hK => ?_)
       refine goes_ Try.func20 (by kernel_rfl) rfl #[.agg #[.int .i64 ((rd_T40 l0 x5_1).f0), .int .i64 ((rd_T40 l0 x5_1).f1), .slice A135_2 ((rd_T40 l0 x5_1).f2).length c135_2, .slice A135_3 ((rd_T40 l0 x5_1).f3).length c135_3], .agg #[.int .i64 ((rd_T40 l1 x5_1).f0), .int .i64 ((rd_T40 l1 x5_1).f1), .slice A136_2 ((rd_T40 l1 x5_1).f2).length c136_2, .slice A136_3 ((rd_T40 l1 x5_1).f3).length c136_3]] (by rfl) rfl rfl la_ ?_
       with_reducible refine (ihm k1 (by have := HK1.out; omega) ((rd_T40 l0 x5_1).f0) ((rd_T40 l0 x5_1).f1) _ _ ((rd_T40 l0 x5_1).f2) _ _ ((rd_T40 l0 x5_1).f3) ((rd_T40 l1 x5_1).f0) ((rd_T40 l1 x5_1).f1) _ _ ((rd_T40 l1 x5_1).f2) _ _ ((rd_T40 l1 x5_1).f3) false _ ?side1 ?side2 ?side3 ?side4 ?side5 ?side6 ?side7 ?side8 A7.out).mono ?_
       (case side1 => exact kc_ HR135_2.out HB.out)
       (case side2 => exact HC135_2.out)
       (case side3 => exact kc_ HR135_3.out HB.out)
       (case side4 => exact HC135_3.out)
       (case side5 => exact kc_ HR136_2.out HB.out)
       (case side6 => exact HC136_2.out)
       (case side7 => exact kc_ HR136_3.out HB.out)
       (case side8 => exact HC136_3.out)
       rintro e w12 ⟨rfl, hb⟩
       refine ⟨_, rfl, ?_⟩
       have n0_ := sd_ (below_step (bw0_ HB.out) hb)
       clear HB
       have HB := n0_
       clear n0_
       (try clear hb)
       (try clear hb2)
       (try clear hk)
       (try clear hi)
       refine hK.out _ _ ⟨((HB.out.cell (World.block_lt_of_cell? w _ hw135_0)).trans hw135_0), ((HB.out.cell (World.block_lt_of_cell? w _ hw135_1)).trans hw135_1), ((HB.out.cell (World.block_lt_of_cell? w _ hw135_2)).trans hw135_2), ((HB.out.cell (World.block_lt_of_cell? w _ hw135_3)).trans hw135_3), ((HB.out.cell (World.block_lt_of_cell? w _ hw136_0)).trans hw136_0), ((HB.out.cell (World.block_lt_of_cell? w _ hw136_1)).trans hw136_1), ((HB.out.cell (World.block_lt_of_cell? w _ hw136_2)).trans hw136_2), ((HB.out.cell (World.block_lt_of_cell? w _ hw136_3)).trans hw136_3)⟩ (fun hHeld => ?_)
       clear hK K
       refine norm_ (a' := ?_) ?_ ?_
       rotate_left
       ·show Act.put _ (some 25) _ = _
        simp only [Act.put, List.setIfInBounds_toArray, List.set_cons_zero, List.set_cons_succ, i64_w, i32_w]
        rfl
       refine pure_ (i := 9) (N := some 26) (v := ?_) (a' := ?_) #[true, true, true, true, true, true, true, true, true, true] rfl rfl (any_of HT_.out (by kernel_rfl)) (fun _ _ _ h => h) (Or.inl ⟨by rfl, ?_⟩) ?_ ?_
       rotate_left
       ·intro w'
        go_simp
        with_reducible rfl
       rotate_left
       ·simp only [Act.put, List.setIfInBounds_toArray, List.set_cons_zero, List.set_cons_succ, i64_w, i32_w]
        rfl
       refine done_ (done_of HT_.out (by kernel_rfl)) ?_
       try go_wp2
       go_ret
       exact ⟨an_, bw0_ HB.out⟩
      rw [if_neg c6] at H
      exact absurd H (by simp)
     rw [if_neg c5] at H
     exact absurd H (by simp)
    rw [if_neg c4] at H
    have c4b0 : decide (x5_1 < (l0.length : Int)) = false := decide_eq_false c4
    clear c4
    obtain rfl := Option.some.inj H
    go_wp2
    go_ret
    exact ⟨an_, bw0_ HB.out⟩
 rw [if_neg c3] at H
 have c3b0 : ((l0.length : Int) == (l1.length : Int)) = false := beq_eq_false_iff_ne.mpr c3
 have c3b1 : ((l0.length : Int) != (l1.length : Int)) = true := bne_iff_ne.mpr c3
 have c3b2 : (l0.length == l1.length) = false := by first | simpa using c3 | (simp at c3 ⊢; omega)
 obtain rfl := Option.some.inj H
 go_enter Try.func65, Try.ntmps65
 go_wp2
 go_ret
 exact ⟨an_, bw0_ HB.out⟩


set_option maxHeartbeats 8000000 in
set_option maxRecDepth 100000 in
theorem laws_eqTerm.step (k : Nat) (ih : ∀ k_, k_ < k → (∀ (a0_0 : Int) (a0_1 : Int) (A0_2 : Option Addr) (c0_2 : Nat) (l0_2 : List Int) (A0_3 : Option Addr) (c0_3 : Nat) (l0_3 : List (S40)) (a1_0 : Int) (a1_1 : Int) (A1_2 : Option Addr) (c1_2 : Nat) (l1_2 : List Int) (A1_3 : Option Addr) (c1_3 : Nat) (l1_3 : List (S40)) (r : Bool) (w : World) (hr0_2 : Kd.C (Kd.int .i64) w A0_2 l0_2.length l0_2) (hc0_2 : l0_2.length ≤ c0_2) (hr0_3 : Kd.C k40 w A0_3 l0_3.length l0_3) (hc0_3 : l0_3.length ≤ c0_3) (hr1_2 : Kd.C (Kd.int .i64) w A1_2 l1_2.length l1_2) (hc1_2 : l1_2.length ≤ c1_2) (hr1_3 : Kd.C k40 w A1_3 l1_3.length l1_3) (hc1_3 : l1_3.length ≤ c1_3) (h : laws_eqTerm.f k_ a0_0 a0_1 l0_2 l0_3 a1_0 a1_1 l1_2 l1_3 = some r), Calls Try.prog 20 #[.agg #[.int .i64 a0_0, .int .i64 a0_1, .slice A0_2 l0_2.length c0_2, .slice A0_3 l0_3.length c0_3], .agg #[.int .i64 a1_0, .int .i64 a1_1, .slice A1_2 l1_2.length c1_2, .slice A1_3 l1_3.length c1_3]] w fun e w' => e = .returned (.bool r) ∧ Below w.heap.size w w')) (ihm : ∀ k_, k_ < k → (∀ (A0 : Option Addr) (c0 : Nat) (l0 : List (S40)) (A1 : Option Addr) (c1 : Nat) (l1 : List (S40)) (r : Bool) (w : World) (hr0 : Kd.C k40 w A0 l0.length l0) (hc0 : l0.length ≤ c0) (hr1 : Kd.C k40 w A1 l1.length l1) (hc1 : l1.length ≤ c1) (h : laws_eqTermS.f k_ l0 l1 = some r), Calls Try.prog 65 #[.slice A0 l0.length c0, .slice A1 l1.length c1] w fun e w' => e = .returned (.bool r) ∧ Below w.heap.size w w')) : ∀ (a0_0 : Int) (a0_1 : Int) (A0_2 : Option Addr) (c0_2 : Nat) (l0_2 : List Int) (A0_3 : Option Addr) (c0_3 : Nat) (l0_3 : List (S40)) (a1_0 : Int) (a1_1 : Int) (A1_2 : Option Addr) (c1_2 : Nat) (l1_2 : List Int) (A1_3 : Option Addr) (c1_3 : Nat) (l1_3 : List (S40)) (r : Bool) (w : World) (hr0_2 : Kd.C (Kd.int .i64) w A0_2 l0_2.length l0_2) (hc0_2 : l0_2.length ≤ c0_2) (hr0_3 : Kd.C k40 w A0_3 l0_3.length l0_3) (hc0_3 : l0_3.length ≤ c0_3) (hr1_2 : Kd.C (Kd.int .i64) w A1_2 l1_2.length l1_2) (hc1_2 : l1_2.length ≤ c1_2) (hr1_3 : Kd.C k40 w A1_3 l1_3.length l1_3) (hc1_3 : l1_3.length ≤ c1_3) (h : laws_eqTerm.f k a0_0 a0_1 l0_2 l0_3 a1_0 a1_1 l1_2 l1_3 = some r),
  Calls Try.prog 20 #[.agg #[.int .i64 a0_0, .int .i64 a0_1, .slice A0_2 l0_2.length c0_2, .slice A0_3 l0_3.length c0_3], .agg #[.int .i64 a1_0, .int .i64 a1_1, .slice A1_2 l1_2.length c1_2, .slice A1_3 l1_3.length c1_3]] w fun e w' => e = .returned (.bool r) ∧ Below w.heap.size w w' := by
 intro a0_0 a0_1 A0_2 c0_2 l0_2 A0_3 c0_3 l0_3 a1_0 a1_1 A1_2 c1_2 l1_2 A1_3 c1_3 l1_3 r w hr0_2 hc0_2 hr0_3 hc0_3 hr1_2 hc1_2 hr1_3 hc1_3 h
 cases k with
 | zero => exact absurd h (by simp [laws_eqTerm.f])
 | succ k =>
 simp only [laws_eqTerm.f] at h
 have hu40 := Try.underlying40
 have HR0_2 := sd_ hr0_2
 have HC0_2 := sd_ hc0_2
 clear hr0_2 hc0_2
 have HR0_3 := sd_ hr0_3
 have HC0_3 := sd_ hc0_3
 clear hr0_3 hc0_3
 have HR1_2 := sd_ hr1_2
 have HC1_2 := sd_ hc1_2
 clear hr1_2 hc1_2
 have HR1_3 := sd_ hr1_3
 have HC1_3 := sd_ hc1_3
 clear hr1_3 hc1_3
 have HB := sd_ (Below.refl w.heap.size w)
 have H : (if a0_0 = a1_0 then (if a0_1 = a1_1 then ((laws_eqIntS.f k l0_2 l1_2).bind fun t140 => (if t140 = true then ((laws_eqTermS.f k l0_3 l1_3).bind fun t141 => (if t141 = true then (some true) else (some false))) else (some false))) else (some false)) else (some false)) = some r := h
 clear h
 have HP3 := sd_ H
 clear H
 go_enter Try.func20, Try.ntmps20
 go_upto_if 9 with (first | ((with_reducible refine gate_dst (N := 2) rfl ?_); refine bx_ (N := 2) (cs := #[.int .i64 a0_0, .int .i64 a0_1, .slice A0_2 l0_2.length c0_2, .slice A0_3 l0_3.length c0_3]) (t := 40) ?_; intro gb138 hg w4 hbox hb; have BK138 := sd_ (hbox); have GW138 := sd_ (gs_ hg (bw0_ HB.out)); have GE138 := sd_ (gs_ hg (bw0_ HB.out)); replace HB := sd_ (below_step (bw0_ HB.out) hb); clear hb hbox hg) | ((with_reducible refine gate_dst (N := 3) rfl ?_); refine bx_ (N := 3) (cs := #[.int .i64 a1_0, .int .i64 a1_1, .slice A1_2 l1_2.length c1_2, .slice A1_3 l1_3.length c1_3]) (t := 40) ?_; intro gb139 hg w5 hbox hb; have BK139 := sd_ (hbox); have GW139 := sd_ (gs_ hg (bw1_ HB.out GE138.out)); have GE139 := sd_ (gs_ hg (bw1_ HB.out GE138.out)); replace HB := sd_ (below_step (bw1_ HB.out GE138.out) hb); have NB138_139 := sd_ (nl_ hg (bl_ BK138.out)); have NB139_138 := sd_ (ng_ hg (bl_ BK138.out)); replace BK138 := sd_ (bb_ BK138.out hb); clear hb hbox hg; have hnb6 := NB138_139.out; have hnc6 := NB139_138.out; obtain ⟨hcz7_0, hcz7_1, hcz7_2, hcz7_3, hfz7_0, hfz7_1, hfz7_2, hfz7_3⟩ := bf4_ BK138.out; obtain ⟨hcz8_0, hcz8_1, hcz8_2, hcz8_3, hfz8_0, hfz8_1, hfz8_2, hfz8_3⟩ := bf4_ BK139.out))
 have H := HP3.out
 clear HP3
 by_cases c9 : a0_0 = a1_0
 ·rw [if_pos c9] at H
  have c9b0 : (a0_0 == a1_0) = true := beq_iff_eq.mpr c9
  have c9b1 : (a0_0 != a1_0) = false := bne_eq_false_iff_eq.mpr c9
  clear c9
  (first | rw [c9b0] | (simp only [i64_w, i32_w]; rw [c9b0]) | skip)
  by_cases c10 : a0_1 = a1_1
  ·rw [if_pos c10] at H
   have c10b0 : (a0_1 == a1_1) = true := beq_iff_eq.mpr c10
   have c10b1 : (a0_1 != a1_1) = false := bne_eq_false_iff_eq.mpr c10
   clear c10
   replace H := Option.bind_eq_some_iff.mp H
   obtain ⟨t140, A110, H⟩ := H
   try dsimp only at H
   have A11 := sd_ A110
   clear A110
   by_cases c12 : t140 = true
   ·subst c12
    have H1 : ((laws_eqTermS.f k l0_3 l1_3).bind fun t141 => (if t141 = true then (some true) else (some false))) = some r := by rw [if_pos rfl] at H; exact H
    clear H
    have H := H1
    clear H1
    replace H := Option.bind_eq_some_iff.mp H
    obtain ⟨t141, A130, H⟩ := H
    try dsimp only at H
    have A13 := sd_ A130
    clear A130
    have HP14 := sd_ H
    clear H
    have hnb15 := NB138_139.out
    have hnc15 := NB139_138.out
    obtain ⟨hcz16_0, hcz16_1, hcz16_2, hcz16_3, hfz16_0, hfz16_1, hfz16_2, hfz16_3⟩ := bf4_ BK138.out
    obtain ⟨hcz17_0, hcz17_1, hcz17_2, hcz17_3, hfz17_0, hfz17_1, hfz17_2, hfz17_3⟩ := bf4_ BK139.out
    go_upto_if 26 with (first | ((with_reducible refine gate_callee (f := 21) rfl ?_); refine goesL_ (some 19) rfl rfl Try.func21 (by kernel_rfl) rfl #[.slice A0_2 l0_2.length c0_2, .slice A1_2 l1_2.length c1_2] rfl la_ ?_; (with_reducible refine (laws_eqIntS.calls k _ _ l0_2 _ _ l1_2 true _ (kc_ HR0_2.out HB.out) HC0_2.out (kc_ HR1_2.out HB.out) HC1_2.out A11.out).mono ?_); rintro e w' ⟨rfl, ⟨nd, rfl⟩⟩; refine ⟨_, rfl, ?_⟩) | ((with_reducible refine gate_callee (f := 65) rfl ?_); refine goesL_ (some 25) rfl rfl Try.func65 (by kernel_rfl) rfl #[.slice A0_3 l0_3.length c0_3, .slice A1_3 l1_3.length c1_3] rfl la_ ?_; (with_reducible refine (ihm k (by omega) _ _ l0_3 _ _ l1_3 t141 _ ?side1 ?side2 ?side3 ?side4 A13.out).mono ?_); (case side1 => repeat (first | exact (Kd.C_below HR0_3.out (bw2_ HB.out GE138.out GE139.out)) | (with_reducible refine Kd.C_alloc ?_ _) | (with_reducible refine Kd.C_drewN ?_ _) | (with_reducible refine Kd.C_drew ?_))); (case side2 => exact HC0_3.out); (case side3 => repeat (first | exact (Kd.C_below HR1_3.out (bw2_ HB.out GE138.out GE139.out)) | (with_reducible refine Kd.C_alloc ?_ _) | (with_reducible refine Kd.C_drewN ?_ _) | (with_reducible refine Kd.C_drew ?_))); (case side4 => exact HC1_3.out); rintro e w18 ⟨rfl, hb⟩; refine ⟨_, rfl, ?_⟩; replace BK138 := sd_ (bb_ BK138.out hb); replace BK139 := sd_ (bb_ BK139.out hb); replace HB := sd_ (below_step (bw2_ HB.out GE138.out GE139.out) hb)))
    have H := HP14.out
    clear HP14
    by_cases c19 : t141 = true
    ·subst c19
     have H1 : (some true) = some r := by rw [if_pos rfl] at H; exact H
     clear H
     have H := H1
     clear H1
     obtain rfl := Option.some.inj H
     go_wp2
     go_ret
     exact ⟨an_, bw2_ HB.out GE138.out GE139.out⟩
    replace c19 := Bool.eq_false_iff.mpr c19
    subst c19
    have H1 : (some false) = some r := by rw [if_neg (show ¬ (false = true) by decide)] at H; exact H
    clear H
    have H := H1
    clear H1
    obtain rfl := Option.some.inj H
    go_wp2
    go_ret
    exact ⟨an_, bw2_ HB.out GE138.out GE139.out⟩
   replace c12 := Bool.eq_false_iff.mpr c12
   subst c12
   have H1 : (some false) = some r := by rw [if_neg (show ¬ (false = true) by decide)] at H; exact H
   clear H
   have H := H1
   clear H1
   obtain rfl := Option.some.inj H
   have hnb20 := NB138_139.out
   have hnc20 := NB139_138.out
   obtain ⟨hcz21_0, hcz21_1, hcz21_2, hcz21_3, hfz21_0, hfz21_1, hfz21_2, hfz21_3⟩ := bf4_ BK138.out
   obtain ⟨hcz22_0, hcz22_1, hcz22_2, hcz22_3, hfz22_0, hfz22_1, hfz22_2, hfz22_3⟩ := bf4_ BK139.out
   go_wp2_with (first | ((with_reducible refine gate_callee (f := 21) rfl ?_); refine goesL_ (some 19) rfl rfl Try.func21 (by kernel_rfl) rfl #[.slice A0_2 l0_2.length c0_2, .slice A1_2 l1_2.length c1_2] rfl la_ ?_; (with_reducible refine (laws_eqIntS.calls k _ _ l0_2 _ _ l1_2 false _ (kc_ HR0_2.out HB.out) HC0_2.out (kc_ HR1_2.out HB.out) HC1_2.out A11.out).mono ?_); rintro e w' ⟨rfl, ⟨nd, rfl⟩⟩; refine ⟨_, rfl, ?_⟩))
   go_ret
   exact ⟨an_, bw2_ HB.out GE138.out GE139.out⟩
  rw [if_neg c10] at H
  have c10b0 : (a0_1 == a1_1) = false := beq_eq_false_iff_ne.mpr c10
  have c10b1 : (a0_1 != a1_1) = true := bne_iff_ne.mpr c10
  obtain rfl := Option.some.inj H
  have hnb23 := NB138_139.out
  have hnc23 := NB139_138.out
  obtain ⟨hcz24_0, hcz24_1, hcz24_2, hcz24_3, hfz24_0, hfz24_1, hfz24_2, hfz24_3⟩ := bf4_ BK138.out
  obtain ⟨hcz25_0, hcz25_1, hcz25_2, hcz25_3, hfz25_0, hfz25_1, hfz25_2, hfz25_3⟩ := bf4_ BK139.out
  go_wp2
  go_ret
  exact ⟨an_, bw2_ HB.out GE138.out GE139.out⟩
 rw [if_neg c9] at H
 have c9b0 : (a0_0 == a1_0) = false := beq_eq_false_iff_ne.mpr c9
 have c9b1 : (a0_0 != a1_0) = true := bne_iff_ne.mpr c9
 (first | rw [c9b0] | (simp only [i64_w, i32_w]; rw [c9b0]) | skip)
 obtain rfl := Option.some.inj H
 go_wp2
 go_ret
 exact ⟨an_, bw2_ HB.out GE138.out GE139.out⟩

theorem laws_eqTerm.both (k : Nat) : (∀ (a0_0 : Int) (a0_1 : Int) (A0_2 : Option Addr) (c0_2 : Nat) (l0_2 : List Int) (A0_3 : Option Addr) (c0_3 : Nat) (l0_3 : List (S40)) (a1_0 : Int) (a1_1 : Int) (A1_2 : Option Addr) (c1_2 : Nat) (l1_2 : List Int) (A1_3 : Option Addr) (c1_3 : Nat) (l1_3 : List (S40)) (r : Bool) (w : World) (hr0_2 : Kd.C (Kd.int .i64) w A0_2 l0_2.length l0_2) (hc0_2 : l0_2.length ≤ c0_2) (hr0_3 : Kd.C k40 w A0_3 l0_3.length l0_3) (hc0_3 : l0_3.length ≤ c0_3) (hr1_2 : Kd.C (Kd.int .i64) w A1_2 l1_2.length l1_2) (hc1_2 : l1_2.length ≤ c1_2) (hr1_3 : Kd.C k40 w A1_3 l1_3.length l1_3) (hc1_3 : l1_3.length ≤ c1_3) (h : laws_eqTerm.f k a0_0 a0_1 l0_2 l0_3 a1_0 a1_1 l1_2 l1_3 = some r), Calls Try.prog 20 #[.agg #[.int .i64 a0_0, .int .i64 a0_1, .slice A0_2 l0_2.length c0_2, .slice A0_3 l0_3.length c0_3], .agg #[.int .i64 a1_0, .int .i64 a1_1, .slice A1_2 l1_2.length c1_2, .slice A1_3 l1_3.length c1_3]] w fun e w' => e = .returned (.bool r) ∧ Below w.heap.size w w') ∧ (∀ (A0 : Option Addr) (c0 : Nat) (l0 : List (S40)) (A1 : Option Addr) (c1 : Nat) (l1 : List (S40)) (r : Bool) (w : World) (hr0 : Kd.C k40 w A0 l0.length l0) (hc0 : l0.length ≤ c0) (hr1 : Kd.C k40 w A1 l1.length l1) (hc1 : l1.length ≤ c1) (h : laws_eqTermS.f k l0 l1 = some r), Calls Try.prog 65 #[.slice A0 l0.length c0, .slice A1 l1.length c1] w fun e w' => e = .returned (.bool r) ∧ Below w.heap.size w w') := by
 induction k using Nat.strongRecOn with
 | _ k ih => exact ⟨laws_eqTerm.step k (fun j hj => (ih j hj).1) (fun j hj => (ih j hj).2), laws_eqTermS.step k (fun j hj => (ih j hj).2) (fun j hj => (ih j hj).1)⟩
theorem laws_eqTerm.calls (k : Nat) : ∀ (a0_0 : Int) (a0_1 : Int) (A0_2 : Option Addr) (c0_2 : Nat) (l0_2 : List Int) (A0_3 : Option Addr) (c0_3 : Nat) (l0_3 : List (S40)) (a1_0 : Int) (a1_1 : Int) (A1_2 : Option Addr) (c1_2 : Nat) (l1_2 : List Int) (A1_3 : Option Addr) (c1_3 : Nat) (l1_3 : List (S40)) (r : Bool) (w : World) (hr0_2 : Kd.C (Kd.int .i64) w A0_2 l0_2.length l0_2) (hc0_2 : l0_2.length ≤ c0_2) (hr0_3 : Kd.C k40 w A0_3 l0_3.length l0_3) (hc0_3 : l0_3.length ≤ c0_3) (hr1_2 : Kd.C (Kd.int .i64) w A1_2 l1_2.length l1_2) (hc1_2 : l1_2.length ≤ c1_2) (hr1_3 : Kd.C k40 w A1_3 l1_3.length l1_3) (hc1_3 : l1_3.length ≤ c1_3) (h : laws_eqTerm.f k a0_0 a0_1 l0_2 l0_3 a1_0 a1_1 l1_2 l1_3 = some r), Calls Try.prog 20 #[.agg #[.int .i64 a0_0, .int .i64 a0_1, .slice A0_2 l0_2.length c0_2, .slice A0_3 l0_3.length c0_3], .agg #[.int .i64 a1_0, .int .i64 a1_1, .slice A1_2 l1_2.length c1_2, .slice A1_3 l1_3.length c1_3]] w fun e w' => e = .returned (.bool r) ∧ Below w.heap.size w w' := (laws_eqTerm.both k).1
theorem laws_eqTermS.calls (k : Nat) : ∀ (A0 : Option Addr) (c0 : Nat) (l0 : List (S40)) (A1 : Option Addr) (c1 : Nat) (l1 : List (S40)) (r : Bool) (w : World) (hr0 : Kd.C k40 w A0 l0.length l0) (hc0 : l0.length ≤ c0) (hr1 : Kd.C k40 w A1 l1.length l1) (hc1 : l1.length ≤ c1) (h : laws_eqTermS.f k l0 l1 = some r), Calls Try.prog 65 #[.slice A0 l0.length c0, .slice A1 l1.length c1] w fun e w' => e = .returned (.bool r) ∧ Below w.heap.size w w' := (laws_eqTerm.both k).2
end Go.Proofs.Ytipfkicndjddgaa.P
