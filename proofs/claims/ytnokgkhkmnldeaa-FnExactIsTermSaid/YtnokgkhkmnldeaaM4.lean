-- Several texts in one (wip/tools/merge.py).
import Derived.Test.YtnokgkhkmnldeaaM1
section
namespace Go.Proofs.Ytnokgkhkmnldeaa.P
open Go.RowKit Go.Proofs.YtnokgkhkmnldeaaW.PrintWords Go.Proofs.YtnokgkhkmnldeaaW.PrintLast Go.Proofs.YtnokgkhkmnldeaaW.PrintMore
attribute [local go_sem] max2_int min2_int max_two min_two max_three min_three max_four min_four   -- for this text's walks alone
set_option linter.unusedVariables false
set_option linter.unusedSimpArgs false

/-! ### laws_eqTermS: function 73 -/
/-! ### laws_eqTerm: function 35 -/
mutual
def laws_eqTermS.l0 : Nat → List (S48) → List (S48) → Int → Option (Bool)
 | 0, _, _, _ => none
 | k + 1, x0, x1, x5 => if x5 < (x0.length : Int) then (if 0 ≤ x5 then (if x5 < (x1.length : Int) then ((laws_eqTerm.f k ((rd_T48 x0 x5).f0) ((rd_T48 x0 x5).f1) ((rd_T48 x0 x5).f2) ((rd_T48 x0 x5).f3) ((rd_T48 x1 x5).f0) ((rd_T48 x1 x5).f1) ((rd_T48 x1 x5).f2) ((rd_T48 x1 x5).f3)).bind fun t622 => (if t622 = true then (laws_eqTermS.l0 k x0 x1 (wrap64 (x5 + 1))) else (some false))) else (none)) else (none)) else (some true)
def laws_eqTermS.f : Nat → List (S48) → List (S48) → Option (Bool)
 | 0, _, _ => none
 | k + 1, l0, l1 => if (l0.length : Int) = (l1.length : Int) then (laws_eqTermS.l0 k l0 l1 0) else (some false)
def laws_eqTerm.f : Nat → Int → Int → List Int → List (S48) → Int → Int → List Int → List (S48) → Option (Bool)
 | 0, _, _, _, _, _, _, _, _ => none
 | k + 1, a0_0, a0_1, l0_2, l0_3, a1_0, a1_1, l1_2, l1_3 => if a0_0 = a1_0 then (if a0_1 = a1_1 then ((laws_eqIntS.f k l0_2 l1_2).bind fun t625 => (if t625 = true then ((laws_eqTermS.f k l0_3 l1_3).bind fun t626 => (if t626 = true then (some true) else (some false))) else (some false))) else (some false)) else (some false)
end
def laws_eqTermS.T6 : Bool × List (List Nat × List Nat) := (true, [([], []), ([], []), ([0, 1], [0, 1]), ([2], [2]), ([], []), ([], []), ([4, 5], [4, 5]), ([6], [6]), ([3, 7], [3, 7]), ([8], [8])])
def laws_eqTermS.B6 : List Nat := [0, 0, 3, 7, 0, 0, 48, 112, 255, 511]
theorem laws_eqTermS.tab6 : rtab .any (opsOf Try.f73 6) = laws_eqTermS.T6 := by kernel_rfl
theorem laws_eqTermS.bits6 : waitsOk laws_eqTermS.T6.2 laws_eqTermS.B6 = true := by kernel_rfl
set_option maxHeartbeats 8000000 in
set_option maxRecDepth 100000 in
theorem laws_eqTermS.step (k : Nat) (ih : ∀ k_, k_ < k → (∀ (A0 : Option Addr) (c0 : Nat) (l0 : List (S48)) (A1 : Option Addr) (c1 : Nat) (l1 : List (S48)) (r : Bool) (w : World) (hr0 : Kd.C k48 w A0 l0.length l0) (hc0 : l0.length ≤ c0) (hr1 : Kd.C k48 w A1 l1.length l1) (hc1 : l1.length ≤ c1) (h : laws_eqTermS.f k_ l0 l1 = some r), Calls Try.prog 73 #[.slice A0 l0.length c0, .slice A1 l1.length c1] w fun e w' => e = .returned (.bool r) ∧ Below w.heap.size w w')) (ihm : ∀ k_, k_ < k → (∀ (a0_0 : Int) (a0_1 : Int) (A0_2 : Option Addr) (c0_2 : Nat) (l0_2 : List Int) (A0_3 : Option Addr) (c0_3 : Nat) (l0_3 : List (S48)) (a1_0 : Int) (a1_1 : Int) (A1_2 : Option Addr) (c1_2 : Nat) (l1_2 : List Int) (A1_3 : Option Addr) (c1_3 : Nat) (l1_3 : List (S48)) (r : Bool) (w : World) (hr0_2 : Kd.C (Kd.int .i64) w A0_2 l0_2.length l0_2) (hc0_2 : l0_2.length ≤ c0_2) (hr0_3 : Kd.C k48 w A0_3 l0_3.length l0_3) (hc0_3 : l0_3.length ≤ c0_3) (hr1_2 : Kd.C (Kd.int .i64) w A1_2 l1_2.length l1_2) (hc1_2 : l1_2.length ≤ c1_2) (hr1_3 : Kd.C k48 w A1_3 l1_3.length l1_3) (hc1_3 : l1_3.length ≤ c1_3) (h : laws_eqTerm.f k_ a0_0 a0_1 l0_2 l0_3 a1_0 a1_1 l1_2 l1_3 = some r), Calls Try.prog 35 #[.agg #[.int .i64 a0_0, .int .i64 a0_1, .slice A0_2 l0_2.length c0_2, .slice A0_3 l0_3.length c0_3], .agg #[.int .i64 a1_0, .int .i64 a1_1, .slice A1_2 l1_2.length c1_2, .slice A1_3 l1_3.length c1_3]] w fun e w' => e = .returned (.bool r) ∧ Below w.heap.size w w')) : ∀ (A0 : Option Addr) (c0 : Nat) (l0 : List (S48)) (A1 : Option Addr) (c1 : Nat) (l1 : List (S48)) (r : Bool) (w : World) (hr0 : Kd.C k48 w A0 l0.length l0) (hc0 : l0.length ≤ c0) (hr1 : Kd.C k48 w A1 l1.length l1) (hc1 : l1.length ≤ c1) (h : laws_eqTermS.f k l0 l1 = some r),
  Calls Try.prog 73 #[.slice A0 l0.length c0, .slice A1 l1.length c1] w fun e w' => e = .returned (.bool r) ∧ Below w.heap.size w w' := by
 intro A0 c0 l0 A1 c1 l1 r w hr0 hc0 hr1 hc1 h
 cases k with
 | zero => exact absurd h (by simp [laws_eqTermS.f])
 | succ k =>
 simp only [laws_eqTermS.f] at h
 have hu48 := Try.underlying48
 have HR0 := sd_ hr0
 have HC0 := sd_ hc0
 clear hr0 hc0
 have HR1 := sd_ hr1
 have HC1 := sd_ hc1
 clear hr1 hc1
 have HB := sd_ (Below.refl w.heap.size w)
 have H : (if (l0.length : Int) = (l1.length : Int) then (laws_eqTermS.l0 k l0 l1 0) else (some false)) = some r := h
 clear h
 by_cases c3 : (l0.length : Int) = (l1.length : Int)
 ·rw [if_pos c3] at H
  have c3b0 : ((l0.length : Int) == (l1.length : Int)) = true := beq_iff_eq.mpr c3
  have c3b1 : ((l0.length : Int) != (l1.length : Int)) = false := bne_eq_false_iff_eq.mpr c3
  have c3b2 : (l0.length == l1.length) = true := by first | simpa using c3 | (simp at c3 ⊢; omega)
  clear c3
  have H' := sd_ H
  clear H
  go_enter Try.func73, Try.ntmps73
  go_wp2
  go_loopg [5] k (fun kq v5 w' => ∃ (x5_1 : Int), v5 = .int .i64 x5_1 ∧ Aside0 (laws_eqTermS.l0 kq l0 l1 x5_1 = some r) ∧ Aside0 (kq ≤ k) ∧ Aside0 (Below w.heap.size w w'))
  case atStart => exact ⟨(0), (by first | rfl | (simp; done) | (simp [*]; done)), H', ⟨Nat.le_refl _⟩, ⟨bw0_ HB.out⟩⟩
  case round =>
   clear H'
   try clear c1
   try clear p2
   try clear c3
   try clear c3b0
   try clear c3b1
   try clear c3b2
   obtain ⟨x5_1, rfl, HA, HK1, HB⟩ := hrel
   cases gk with
   | zero => exact absurd HA.out (by simp [laws_eqTermS.l0])
   | succ k1 =>
    have H := HA.out
    clear HA
    simp only [laws_eqTermS.l0] at H
    by_cases c4 : x5_1 < (l0.length : Int)
    ·rw [if_pos c4] at H
     have c4b0 : decide (x5_1 < (l0.length : Int)) = true := decide_eq_true c4
     clear c4
     by_cases c5 : 0 ≤ x5_1
     ·rw [if_pos c5] at H
      have c5b0 : decide (0 ≤ x5_1) = true := decide_eq_true c5
      clear c5
      by_cases c6 : x5_1 < (l1.length : Int)
      ·rw [if_pos c6] at H
       have c6b0 : decide (x5_1 < (l1.length : Int)) = true := decide_eq_true c6
       clear c6
       replace H := Option.bind_eq_some_iff.mp H
       obtain ⟨t622, A70, H⟩ := H
       try dsimp only at H
       have A7 := sd_ A70
       clear A70
       by_cases c8 : t622 = true
       ·subst c8
        have H1 : (laws_eqTermS.l0 k1 l0 l1 (wrap64 (x5_1 + 1))) = some r := by rw [if_pos rfl] at H; exact H
        clear H
        have H := H1
        clear H1
        have H' := sd_ H
        clear H
        try go_wp2
        have n0_ := sd_ (below_drew1 HB.out)
        clear HB
        have HB := n0_
        clear n0_
        have p620 : 0 ≤ (x5_1 : Int) := of_decide_eq_true (by first | (with_reducible assumption) | assumption)
        have q620 : x5_1 < (l0.length : Int) := of_decide_eq_true (by first | (with_reducible assumption) | assumption)
        obtain ⟨ad620, A620_2, c620_2, A620_3, c620_3, e620, hx620_0, hx620_1, hx620_2, hx620_3, hl620_2, hi620_2, hl620_3, hi620_3⟩ := at_T48 HR0.out x5_1 p620 q620
        have hw620_3 := hx620_3
        have hw620_2 := hx620_2
        have hw620_1 := hx620_1
        have hw620_0 := hx620_0
        cases e620
        replace hx620_0 := (HB.out.cell (World.block_lt_of_cell? w _ hx620_0)).trans hx620_0
        replace hx620_1 := (HB.out.cell (World.block_lt_of_cell? w _ hx620_1)).trans hx620_1
        replace hx620_2 := (HB.out.cell (World.block_lt_of_cell? w _ hx620_2)).trans hx620_2
        replace hx620_3 := (HB.out.cell (World.block_lt_of_cell? w _ hx620_3)).trans hx620_3
        have HR620_2 := sd_ hi620_2
        have HC620_2 := sd_ hl620_2
        clear hi620_2 hl620_2
        have HR620_3 := sd_ hi620_3
        have HC620_3 := sd_ hl620_3
        clear hi620_3 hl620_3
        replace p620 := eq_true p620
        replace q620 := eq_true q620
        have p621 : 0 ≤ (x5_1 : Int) := of_decide_eq_true (by first | (with_reducible assumption) | assumption)
        have q621 : x5_1 < (l1.length : Int) := of_decide_eq_true (by first | (with_reducible assumption) | assumption)
        obtain ⟨ad621, A621_2, c621_2, A621_3, c621_3, e621, hx621_0, hx621_1, hx621_2, hx621_3, hl621_2, hi621_2, hl621_3, hi621_3⟩ := at_T48 HR1.out x5_1 p621 q621
        have hw621_3 := hx621_3
        have hw621_2 := hx621_2
        have hw621_1 := hx621_1
        have hw621_0 := hx621_0
        cases e621
        replace hx621_0 := (HB.out.cell (World.block_lt_of_cell? w _ hx621_0)).trans hx621_0
        replace hx621_1 := (HB.out.cell (World.block_lt_of_cell? w _ hx621_1)).trans hx621_1
        replace hx621_2 := (HB.out.cell (World.block_lt_of_cell? w _ hx621_2)).trans hx621_2
        replace hx621_3 := (HB.out.cell (World.block_lt_of_cell? w _ hx621_3)).trans hx621_3
        have HR621_2 := sd_ hi621_2
        have HC621_2 := sd_ hl621_2
        clear hi621_2 hl621_2
        have HR621_3 := sd_ hi621_3
        have HC621_3 := sd_ hl621_3
        clear hi621_3 hl621_3
        replace p621 := eq_true p621
        replace q621 := eq_true q621
        refine start_ (n := 10) (S := fun w' => w'.cell? (ad620.add ((x5_1).toNat * 4)) = some (.int .i64 ((rd_T48 l0 x5_1).f0)) ∧ w'.cell? ⟨(ad620.add ((x5_1).toNat * 4)).block, (ad620.add ((x5_1).toNat * 4)).off + 1, none⟩ = some (.int .i64 ((rd_T48 l0 x5_1).f1)) ∧ w'.cell? ⟨(ad620.add ((x5_1).toNat * 4)).block, (ad620.add ((x5_1).toNat * 4)).off + 2, none⟩ = some (.slice A620_2 ((rd_T48 l0 x5_1).f2).length c620_2) ∧ w'.cell? ⟨(ad620.add ((x5_1).toNat * 4)).block, (ad620.add ((x5_1).toNat * 4)).off + 3, none⟩ = some (.slice A620_3 ((rd_T48 l0 x5_1).f3).length c620_3) ∧ w'.cell? (ad621.add ((x5_1).toNat * 4)) = some (.int .i64 ((rd_T48 l1 x5_1).f0)) ∧ w'.cell? ⟨(ad621.add ((x5_1).toNat * 4)).block, (ad621.add ((x5_1).toNat * 4)).off + 1, none⟩ = some (.int .i64 ((rd_T48 l1 x5_1).f1)) ∧ w'.cell? ⟨(ad621.add ((x5_1).toNat * 4)).block, (ad621.add ((x5_1).toNat * 4)).off + 2, none⟩ = some (.slice A621_2 ((rd_T48 l1 x5_1).f2).length c621_2) ∧ w'.cell? ⟨(ad621.add ((x5_1).toNat * 4)).block, (ad621.add ((x5_1).toNat * 4)).off + 3, none⟩ = some (.slice A621_3 ((rd_T48 l1 x5_1).f3).length c621_3)) (ds := []) #[false, false, false, false, false, false, false, false, false, false] (by kernel_rfl) rfl rfl ⟨((HB.out.cell (World.block_lt_of_cell? w _ hw620_0)).trans hw620_0), ((HB.out.cell (World.block_lt_of_cell? w _ hw620_1)).trans hw620_1), ((HB.out.cell (World.block_lt_of_cell? w _ hw620_2)).trans hw620_2), ((HB.out.cell (World.block_lt_of_cell? w _ hw620_3)).trans hw620_3), ((HB.out.cell (World.block_lt_of_cell? w _ hw621_0)).trans hw621_0), ((HB.out.cell (World.block_lt_of_cell? w _ hw621_1)).trans hw621_1), ((HB.out.cell (World.block_lt_of_cell? w _ hw621_2)).trans hw621_2), ((HB.out.cell (World.block_lt_of_cell? w _ hw621_3)).trans hw621_3)⟩ (fun hHeld => ?_); refine with_tabW laws_eqTermS.tab6 laws_eqTermS.bits6 (fun HT_ HW_ => ?_)
        generalize wr.drew = w9 at HB HR620_2 HR620_3 HR621_2 HR621_3 hx620_0 hx620_1 hx620_2 hx620_3 hx621_0 hx621_1 hx621_2 hx621_3 hHeld ⊢
        refine pure_ (i := 0) (N := some 17) (v := ?_) (a' := ?_) #[true, false, false, false, false, false, false, false, false, false] rfl rfl (any_of HT_.out (by kernel_rfl)) (fun _ _ _ h => h) (Or.inl ⟨by rfl, ?_⟩) ?_ ?_
        rotate_left
        ·intro w'
         go_simp
         with_reducible rfl
        rotate_left
        ·simp only [Act.put, List.setIfInBounds_toArray, List.set_cons_zero, List.set_cons_succ, i64_w, i32_w]
         rfl
        refine pure_ (i := 1) (N := some 18) (v := ?_) (a' := ?_) #[true, true, false, false, false, false, false, false, false, false] rfl rfl (any_of HT_.out (by kernel_rfl)) (fun _ _ _ h => h) (Or.inl ⟨by rfl, ?_⟩) ?_ ?_
        rotate_left
        ·intro w'
         go_simp
         with_reducible rfl
        rotate_left
        ·simp only [Act.put, List.setIfInBounds_toArray, List.set_cons_zero, List.set_cons_succ, i64_w, i32_w]
         rfl
        refine pure_ (i := 2) (N := some 19) (v := ?_) (a' := ?_) #[true, true, true, false, false, false, false, false, false, false] rfl rfl (any_of HT_.out (by kernel_rfl)) (fun _ _ _ h => h) (Or.inl ⟨by rfl, ?_⟩) ?_ ?_
        rotate_left
        ·intro w'
         go_simp
         with_reducible rfl
        rotate_left
        ·simp only [Act.put, List.setIfInBounds_toArray, List.set_cons_zero, List.set_cons_succ, i64_w, i32_w]
         rfl
        refine pure_ (i := 4) (N := some 21) (v := ?_) (a' := ?_) #[true, true, true, false, true, false, false, false, false, false] rfl rfl (any_of HT_.out (by kernel_rfl)) (fun _ _ _ h => h) (Or.inl ⟨by rfl, ?_⟩) ?_ ?_
        rotate_left
        ·intro w'
         go_simp
         with_reducible rfl
        rotate_left
        ·simp only [Act.put, List.setIfInBounds_toArray, List.set_cons_zero, List.set_cons_succ, i64_w, i32_w]
         rfl
        refine pure_ (i := 5) (N := some 22) (v := ?_) (a' := ?_) #[true, true, true, false, true, true, false, false, false, false] rfl rfl (any_of HT_.out (by kernel_rfl)) (fun _ _ _ h => h) (Or.inl ⟨by rfl, ?_⟩) ?_ ?_
        rotate_left
        ·intro w'
         go_simp
         with_reducible rfl
        rotate_left
        ·simp only [Act.put, List.setIfInBounds_toArray, List.set_cons_zero, List.set_cons_succ, i64_w, i32_w]
         rfl
        refine pure_ (i := 6) (N := some 23) (v := ?_) (a' := ?_) #[true, true, true, false, true, true, true, false, false, false] rfl rfl (any_of HT_.out (by kernel_rfl)) (fun _ _ _ h => h) (Or.inl ⟨by rfl, ?_⟩) ?_ ?_
        rotate_left
        ·intro w'
         go_simp
         with_reducible rfl
        rotate_left
        ·simp only [Act.put, List.setIfInBounds_toArray, List.set_cons_zero, List.set_cons_succ, i64_w, i32_w]
         rfl
        refine take_ (i := 3) (N := some 20) (v := ?_) (a' := ?_) #[true, true, true, true, true, true, true, false, false, false] rfl rfl (take_ofW HT_.out HW_.out (by kernel_rfl)) (fun _ _ _ h => h) (Or.inl ⟨by rfl, ?_⟩) hHeld ?_ ?_
        rotate_left
        ·rintro w' ⟨s0, s1, s2, s3, s4, s5, s6, s7⟩
         go_simp
         with_reducible rfl
        rotate_left
        ·simp only [Act.put, List.setIfInBounds_toArray, List.set_cons_zero, List.set_cons_succ, i64_w, i32_w]
         rfl
        refine take_ (i := 7) (N := some 24) (v := ?_) (a' := ?_) #[true, true, true, true, true, true, true, true, false, false] rfl rfl (take_ofW HT_.out HW_.out (by kernel_rfl)) (fun _ _ _ h => h) (Or.inl ⟨by rfl, ?_⟩) hHeld ?_ ?_
        rotate_left
        ·rintro w' ⟨s0, s1, s2, s3, s4, s5, s6, s7⟩
         go_simp
         with_reducible rfl
        rotate_left
        ·simp only [Act.put, List.setIfInBounds_toArray, List.set_cons_zero, List.set_cons_succ, i64_w, i32_w]
         rfl
        refine one_ (i := 8) (N := some 25) #[true, true, true, true, true, true, true, true, true, false] rfl rfl (one_of HT_.out (by kernel_rfl)) (by decide) (fun K hK => ?_)
        refine goes_ Try.func35 (by kernel_rfl) rfl #[.agg #[.int .i64 ((rd_T48 l0 x5_1).f0), .int .i64 ((rd_T48 l0 x5_1).f1), .slice A620_2 ((rd_T48 l0 x5_1).f2).length c620_2, .slice A620_3 ((rd_T48 l0 x5_1).f3).length c620_3], .agg #[.int .i64 ((rd_T48 l1 x5_1).f0), .int .i64 ((rd_T48 l1 x5_1).f1), .slice A621_2 ((rd_T48 l1 x5_1).f2).length c621_2, .slice A621_3 ((rd_T48 l1 x5_1).f3).length c621_3]] (by rfl) rfl rfl (by (try simp only [List.map_toArray, List.map_cons, List.map_nil]); first | done | rfl | (simp only [List.length_drop, List.length_take]; rfl)) ?_
        with_reducible refine (ihm k1 (by have := HK1.out; omega) ((rd_T48 l0 x5_1).f0) ((rd_T48 l0 x5_1).f1) _ _ ((rd_T48 l0 x5_1).f2) _ _ ((rd_T48 l0 x5_1).f3) ((rd_T48 l1 x5_1).f0) ((rd_T48 l1 x5_1).f1) _ _ ((rd_T48 l1 x5_1).f2) _ _ ((rd_T48 l1 x5_1).f3) true _ ?side1 ?side2 ?side3 ?side4 ?side5 ?side6 ?side7 ?side8 A7.out).mono ?_
        (case side1 => exact kc_ HR620_2.out HB.out)
        (case side2 => exact HC620_2.out)
        (case side3 => exact kc_ HR620_3.out HB.out)
        (case side4 => exact HC620_3.out)
        (case side5 => exact kc_ HR621_2.out HB.out)
        (case side6 => exact HC621_2.out)
        (case side7 => exact kc_ HR621_3.out HB.out)
        (case side8 => exact HC621_3.out)
        rintro e w10 ⟨rfl, hb⟩
        refine ⟨_, rfl, ?_⟩
        have n0_ := sd_ (below_step (bw0_ HB.out) hb)
        clear HB
        have HB := n0_
        clear n0_
        (try clear hb)
        (try clear hb2)
        (try clear hk)
        (try clear hi)
        refine hK.out _ _ ⟨((HB.out.cell (World.block_lt_of_cell? w _ hw620_0)).trans hw620_0), ((HB.out.cell (World.block_lt_of_cell? w _ hw620_1)).trans hw620_1), ((HB.out.cell (World.block_lt_of_cell? w _ hw620_2)).trans hw620_2), ((HB.out.cell (World.block_lt_of_cell? w _ hw620_3)).trans hw620_3), ((HB.out.cell (World.block_lt_of_cell? w _ hw621_0)).trans hw621_0), ((HB.out.cell (World.block_lt_of_cell? w _ hw621_1)).trans hw621_1), ((HB.out.cell (World.block_lt_of_cell? w _ hw621_2)).trans hw621_2), ((HB.out.cell (World.block_lt_of_cell? w _ hw621_3)).trans hw621_3)⟩ (fun hHeld => ?_)
        clear hK K
        refine norm_ (a' := ?_) ?_ ?_
        rotate_left
        ·show Act.put _ (some 25) _ = _
         simp only [Act.put, List.setIfInBounds_toArray, List.set_cons_zero, List.set_cons_succ, i64_w, i32_w]
         rfl
        refine pure_ (i := 9) (N := some 26) (v := ?_) (a' := ?_) #[true, true, true, true, true, true, true, true, true, true] rfl rfl (any_of HT_.out (by kernel_rfl)) (fun _ _ _ h => h) (Or.inl ⟨by rfl, ?_⟩) ?_ ?_
        rotate_left
        ·intro w'
         go_simp
         with_reducible rfl
        rotate_left
        ·simp only [Act.put, List.setIfInBounds_toArray, List.set_cons_zero, List.set_cons_succ, i64_w, i32_w]
         rfl
        refine done_ (done_of HT_.out (by kernel_rfl)) ?_
        try go_wp2
        go_roundg k1
        case measure => have := HK1.out; omega
        case rel => exact ⟨(wrap64 (x5_1 + 1)), (by first | rfl | (simp; done) | (simp [*]; done)), H', ⟨by have := HK1.out; omega⟩, ⟨bw0_ HB.out⟩⟩
       ·replace c8 := Bool.eq_false_iff.mpr c8
        subst c8
        have H1 : (some false) = some r := by rw [if_neg (show ¬ (false = true) by decide)] at H; exact H
        clear H
        have H := H1
        clear H1
        obtain rfl := Option.some.inj H
        try go_wp2
        have n0_ := sd_ (below_drew1 HB.out)
        clear HB
        have HB := n0_
        clear n0_
        have p620 : 0 ≤ (x5_1 : Int) := of_decide_eq_true (by first | (with_reducible assumption) | assumption)
        have q620 : x5_1 < (l0.length : Int) := of_decide_eq_true (by first | (with_reducible assumption) | assumption)
        obtain ⟨ad620, A620_2, c620_2, A620_3, c620_3, e620, hx620_0, hx620_1, hx620_2, hx620_3, hl620_2, hi620_2, hl620_3, hi620_3⟩ := at_T48 HR0.out x5_1 p620 q620
        have hw620_3 := hx620_3
        have hw620_2 := hx620_2
        have hw620_1 := hx620_1
        have hw620_0 := hx620_0
        cases e620
        replace hx620_0 := (HB.out.cell (World.block_lt_of_cell? w _ hx620_0)).trans hx620_0
        replace hx620_1 := (HB.out.cell (World.block_lt_of_cell? w _ hx620_1)).trans hx620_1
        replace hx620_2 := (HB.out.cell (World.block_lt_of_cell? w _ hx620_2)).trans hx620_2
        replace hx620_3 := (HB.out.cell (World.block_lt_of_cell? w _ hx620_3)).trans hx620_3
        have HR620_2 := sd_ hi620_2
        have HC620_2 := sd_ hl620_2
        clear hi620_2 hl620_2
        have HR620_3 := sd_ hi620_3
        have HC620_3 := sd_ hl620_3
        clear hi620_3 hl620_3
        replace p620 := eq_true p620
        replace q620 := eq_true q620
        have p621 : 0 ≤ (x5_1 : Int) := of_decide_eq_true (by first | (with_reducible assumption) | assumption)
        have q621 : x5_1 < (l1.length : Int) := of_decide_eq_true (by first | (with_reducible assumption) | assumption)
        obtain ⟨ad621, A621_2, c621_2, A621_3, c621_3, e621, hx621_0, hx621_1, hx621_2, hx621_3, hl621_2, hi621_2, hl621_3, hi621_3⟩ := at_T48 HR1.out x5_1 p621 q621
        have hw621_3 := hx621_3
        have hw621_2 := hx621_2
        have hw621_1 := hx621_1
        have hw621_0 := hx621_0
        cases e621
        replace hx621_0 := (HB.out.cell (World.block_lt_of_cell? w _ hx621_0)).trans hx621_0
        replace hx621_1 := (HB.out.cell (World.block_lt_of_cell? w _ hx621_1)).trans hx621_1
        replace hx621_2 := (HB.out.cell (World.block_lt_of_cell? w _ hx621_2)).trans hx621_2
        replace hx621_3 := (HB.out.cell (World.block_lt_of_cell? w _ hx621_3)).trans hx621_3
        have HR621_2 := sd_ hi621_2
        have HC621_2 := sd_ hl621_2
        clear hi621_2 hl621_2
        have HR621_3 := sd_ hi621_3
        have HC621_3 := sd_ hl621_3
        clear hi621_3 hl621_3
        replace p621 := eq_true p621
        replace q621 := eq_true q621
        refine start_ (n := 10) (S := fun w' => w'.cell? (ad620.add ((x5_1).toNat * 4)) = some (.int .i64 ((rd_T48 l0 x5_1).f0)) ∧ w'.cell? ⟨(ad620.add ((x5_1).toNat * 4)).block, (ad620.add ((x5_1).toNat * 4)).off + 1, none⟩ = some (.int .i64 ((rd_T48 l0 x5_1).f1)) ∧ w'.cell? ⟨(ad620.add ((x5_1).toNat * 4)).block, (ad620.add ((x5_1).toNat * 4)).off + 2, none⟩ = some (.slice A620_2 ((rd_T48 l0 x5_1).f2).length c620_2) ∧ w'.cell? ⟨(ad620.add ((x5_1).toNat * 4)).block, (ad620.add ((x5_1).toNat * 4)).off + 3, none⟩ = some (.slice A620_3 ((rd_T48 l0 x5_1).f3).length c620_3) ∧ w'.cell? (ad621.add ((x5_1).toNat * 4)) = some (.int .i64 ((rd_T48 l1 x5_1).f0)) ∧ w'.cell? ⟨(ad621.add ((x5_1).toNat * 4)).block, (ad621.add ((x5_1).toNat * 4)).off + 1, none⟩ = some (.int .i64 ((rd_T48 l1 x5_1).f1)) ∧ w'.cell? ⟨(ad621.add ((x5_1).toNat * 4)).block, (ad621.add ((x5_1).toNat * 4)).off + 2, none⟩ = some (.slice A621_2 ((rd_T48 l1 x5_1).f2).length c621_2) ∧ w'.cell? ⟨(ad621.add ((x5_1).toNat * 4)).block, (ad621.add ((x5_1).toNat * 4)).off + 3, none⟩ = some (.slice A621_3 ((rd_T48 l1 x5_1).f3).length c621_3)) (ds := []) #[false, false, false, false, false, false, false, false, false, false] (by kernel_rfl) rfl rfl ⟨((HB.out.cell (World.block_lt_of_cell? w _ hw620_0)).trans hw620_0), ((HB.out.cell (World.block_lt_of_cell? w _ hw620_1)).trans hw620_1), ((HB.out.cell (World.block_lt_of_cell? w _ hw620_2)).trans hw620_2), ((HB.out.cell (World.block_lt_of_cell? w _ hw620_3)).trans hw620_3), ((HB.out.cell (World.block_lt_of_cell? w _ hw621_0)).trans hw621_0), ((HB.out.cell (World.block_lt_of_cell? w _ hw621_1)).trans hw621_1), ((HB.out.cell (World.block_lt_of_cell? w _ hw621_2)).trans hw621_2), ((HB.out.cell (World.block_lt_of_cell? w _ hw621_3)).trans hw621_3)⟩ (fun hHeld => ?_); refine with_tabW laws_eqTermS.tab6 laws_eqTermS.bits6 (fun HT_ HW_ => ?_)
        generalize wr.drew = w11 at HB HR620_2 HR620_3 HR621_2 HR621_3 hx620_0 hx620_1 hx620_2 hx620_3 hx621_0 hx621_1 hx621_2 hx621_3 hHeld ⊢
        refine pure_ (i := 0) (N := some 17) (v := ?_) (a' := ?_) #[true, false, false, false, false, false, false, false, false, false] rfl rfl (any_of HT_.out (by kernel_rfl)) (fun _ _ _ h => h) (Or.inl ⟨by rfl, ?_⟩) ?_ ?_
        rotate_left
        ·intro w'
         go_simp
         with_reducible rfl
        rotate_left
        ·simp only [Act.put, List.setIfInBounds_toArray, List.set_cons_zero, List.set_cons_succ, i64_w, i32_w]
         rfl
        refine pure_ (i := 1) (N := some 18) (v := ?_) (a' := ?_) #[true, true, false, false, false, false, false, false, false, false] rfl rfl (any_of HT_.out (by kernel_rfl)) (fun _ _ _ h => h) (Or.inl ⟨by rfl, ?_⟩) ?_ ?_
        rotate_left
        ·intro w'
         go_simp
         with_reducible rfl
        rotate_left
        ·simp only [Act.put, List.setIfInBounds_toArray, List.set_cons_zero, List.set_cons_succ, i64_w, i32_w]
         rfl
        refine pure_ (i := 2) (N := some 19) (v := ?_) (a' := ?_) #[true, true, true, false, false, false, false, false, false, false] rfl rfl (any_of HT_.out (by kernel_rfl)) (fun _ _ _ h => h) (Or.inl ⟨by rfl, ?_⟩) ?_ ?_
        rotate_left
        ·intro w'
         go_simp
         with_reducible rfl
        rotate_left
        ·simp only [Act.put, List.setIfInBounds_toArray, List.set_cons_zero, List.set_cons_succ, i64_w, i32_w]
         rfl
        refine pure_ (i := 4) (N := some 21) (v := ?_) (a' := ?_) #[true, true, true, false, true, false, false, false, false, false] rfl rfl (any_of HT_.out (by kernel_rfl)) (fun _ _ _ h => h) (Or.inl ⟨by rfl, ?_⟩) ?_ ?_
        rotate_left
        ·intro w'
         go_simp
         with_reducible rfl
        rotate_left
        ·simp only [Act.put, List.setIfInBounds_toArray, List.set_cons_zero, List.set_cons_succ, i64_w, i32_w]
         rfl
        refine pure_ (i := 5) (N := some 22) (v := ?_) (a' := ?_) #[true, true, true, false, true, true, false, false, false, false] rfl rfl (any_of HT_.out (by kernel_rfl)) (fun _ _ _ h => h) (Or.inl ⟨by rfl, ?_⟩) ?_ ?_
        rotate_left
        ·intro w'
         go_simp
         with_reducible rfl
        rotate_left
        ·simp only [Act.put, List.setIfInBounds_toArray, List.set_cons_zero, List.set_cons_succ, i64_w, i32_w]
         rfl
        refine pure_ (i := 6) (N := some 23) (v := ?_) (a' := ?_) #[true, true, true, false, true, true, true, false, false, false] rfl rfl (any_of HT_.out (by kernel_rfl)) (fun _ _ _ h => h) (Or.inl ⟨by rfl, ?_⟩) ?_ ?_
        rotate_left
        ·intro w'
         go_simp
         with_reducible rfl
        rotate_left
        ·simp only [Act.put, List.setIfInBounds_toArray, List.set_cons_zero, List.set_cons_succ, i64_w, i32_w]
         rfl
        refine take_ (i := 3) (N := some 20) (v := ?_) (a' := ?_) #[true, true, true, true, true, true, true, false, false, false] rfl rfl (take_ofW HT_.out HW_.out (by kernel_rfl)) (fun _ _ _ h => h) (Or.inl ⟨by rfl, ?_⟩) hHeld ?_ ?_
        rotate_left
        ·rintro w' ⟨s0, s1, s2, s3, s4, s5, s6, s7⟩
         go_simp
         with_reducible rfl
        rotate_left
        ·simp only [Act.put, List.setIfInBounds_toArray, List.set_cons_zero, List.set_cons_succ, i64_w, i32_w]
         rfl
        refine take_ (i := 7) (N := some 24) (v := ?_) (a' := ?_) #[true, true, true, true, true, true, true, true, false, false] rfl rfl (take_ofW HT_.out HW_.out (by kernel_rfl)) (fun _ _ _ h => h) (Or.inl ⟨by rfl, ?_⟩) hHeld ?_ ?_
        rotate_left
        ·rintro w' ⟨s0, s1, s2, s3, s4, s5, s6, s7⟩
         go_simp
         with_reducible rfl
        rotate_left
        ·simp only [Act.put, List.setIfInBounds_toArray, List.set_cons_zero, List.set_cons_succ, i64_w, i32_w]
         rfl
        refine one_ (i := 8) (N := some 25) #[true, true, true, true, true, true, true, true, true, false] rfl rfl (one_of HT_.out (by kernel_rfl)) (by decide) (fun K hK => ?_)
        refine goes_ Try.func35 (by kernel_rfl) rfl #[.agg #[.int .i64 ((rd_T48 l0 x5_1).f0), .int .i64 ((rd_T48 l0 x5_1).f1), .slice A620_2 ((rd_T48 l0 x5_1).f2).length c620_2, .slice A620_3 ((rd_T48 l0 x5_1).f3).length c620_3], .agg #[.int .i64 ((rd_T48 l1 x5_1).f0), .int .i64 ((rd_T48 l1 x5_1).f1), .slice A621_2 ((rd_T48 l1 x5_1).f2).length c621_2, .slice A621_3 ((rd_T48 l1 x5_1).f3).length c621_3]] (by rfl) rfl rfl (by (try simp only [List.map_toArray, List.map_cons, List.map_nil]); first | done | rfl | (simp only [List.length_drop, List.length_take]; rfl)) ?_
        with_reducible refine (ihm k1 (by have := HK1.out; omega) ((rd_T48 l0 x5_1).f0) ((rd_T48 l0 x5_1).f1) _ _ ((rd_T48 l0 x5_1).f2) _ _ ((rd_T48 l0 x5_1).f3) ((rd_T48 l1 x5_1).f0) ((rd_T48 l1 x5_1).f1) _ _ ((rd_T48 l1 x5_1).f2) _ _ ((rd_T48 l1 x5_1).f3) false _ ?side1 ?side2 ?side3 ?side4 ?side5 ?side6 ?side7 ?side8 A7.out).mono ?_
        (case side1 => exact kc_ HR620_2.out HB.out)
        (case side2 => exact HC620_2.out)
        (case side3 => exact kc_ HR620_3.out HB.out)
        (case side4 => exact HC620_3.out)
        (case side5 => exact kc_ HR621_2.out HB.out)
        (case side6 => exact HC621_2.out)
        (case side7 => exact kc_ HR621_3.out HB.out)
        (case side8 => exact HC621_3.out)
        rintro e w12 ⟨rfl, hb⟩
        refine ⟨_, rfl, ?_⟩
        have n0_ := sd_ (below_step (bw0_ HB.out) hb)
        clear HB
        have HB := n0_
        clear n0_
        (try clear hb)
        (try clear hb2)
        (try clear hk)
        (try clear hi)
        refine hK.out _ _ ⟨((HB.out.cell (World.block_lt_of_cell? w _ hw620_0)).trans hw620_0), ((HB.out.cell (World.block_lt_of_cell? w _ hw620_1)).trans hw620_1), ((HB.out.cell (World.block_lt_of_cell? w _ hw620_2)).trans hw620_2), ((HB.out.cell (World.block_lt_of_cell? w _ hw620_3)).trans hw620_3), ((HB.out.cell (World.block_lt_of_cell? w _ hw621_0)).trans hw621_0), ((HB.out.cell (World.block_lt_of_cell? w _ hw621_1)).trans hw621_1), ((HB.out.cell (World.block_lt_of_cell? w _ hw621_2)).trans hw621_2), ((HB.out.cell (World.block_lt_of_cell? w _ hw621_3)).trans hw621_3)⟩ (fun hHeld => ?_)
        clear hK K
        refine norm_ (a' := ?_) ?_ ?_
        rotate_left
        ·show Act.put _ (some 25) _ = _
         simp only [Act.put, List.setIfInBounds_toArray, List.set_cons_zero, List.set_cons_succ, i64_w, i32_w]
         rfl
        refine pure_ (i := 9) (N := some 26) (v := ?_) (a' := ?_) #[true, true, true, true, true, true, true, true, true, true] rfl rfl (any_of HT_.out (by kernel_rfl)) (fun _ _ _ h => h) (Or.inl ⟨by rfl, ?_⟩) ?_ ?_
        rotate_left
        ·intro w'
         go_simp
         with_reducible rfl
        rotate_left
        ·simp only [Act.put, List.setIfInBounds_toArray, List.set_cons_zero, List.set_cons_succ, i64_w, i32_w]
         rfl
        refine done_ (done_of HT_.out (by kernel_rfl)) ?_
        try go_wp2
        go_ret
        exact ⟨an_, bw0_ HB.out⟩
      ·rw [if_neg c6] at H
       exact absurd H (by simp)
     ·rw [if_neg c5] at H
      exact absurd H (by simp)
    ·rw [if_neg c4] at H
     have c4b0 : decide (x5_1 < (l0.length : Int)) = false := decide_eq_false c4
     clear c4
     obtain rfl := Option.some.inj H
     go_wp2
     go_ret
     exact ⟨an_, bw0_ HB.out⟩
 ·rw [if_neg c3] at H
  have c3b0 : ((l0.length : Int) == (l1.length : Int)) = false := beq_eq_false_iff_ne.mpr c3
  have c3b1 : ((l0.length : Int) != (l1.length : Int)) = true := bne_iff_ne.mpr c3
  have c3b2 : (l0.length == l1.length) = false := by first | simpa using c3 | (simp at c3 ⊢; omega)
  obtain rfl := Option.some.inj H
  go_enter Try.func73, Try.ntmps73
  go_wp2
  go_ret
  exact ⟨an_, bw0_ HB.out⟩


set_option maxHeartbeats 8000000 in
set_option maxRecDepth 100000 in
theorem laws_eqTerm.step (k : Nat) (ih : ∀ k_, k_ < k → (∀ (a0_0 : Int) (a0_1 : Int) (A0_2 : Option Addr) (c0_2 : Nat) (l0_2 : List Int) (A0_3 : Option Addr) (c0_3 : Nat) (l0_3 : List (S48)) (a1_0 : Int) (a1_1 : Int) (A1_2 : Option Addr) (c1_2 : Nat) (l1_2 : List Int) (A1_3 : Option Addr) (c1_3 : Nat) (l1_3 : List (S48)) (r : Bool) (w : World) (hr0_2 : Kd.C (Kd.int .i64) w A0_2 l0_2.length l0_2) (hc0_2 : l0_2.length ≤ c0_2) (hr0_3 : Kd.C k48 w A0_3 l0_3.length l0_3) (hc0_3 : l0_3.length ≤ c0_3) (hr1_2 : Kd.C (Kd.int .i64) w A1_2 l1_2.length l1_2) (hc1_2 : l1_2.length ≤ c1_2) (hr1_3 : Kd.C k48 w A1_3 l1_3.length l1_3) (hc1_3 : l1_3.length ≤ c1_3) (h : laws_eqTerm.f k_ a0_0 a0_1 l0_2 l0_3 a1_0 a1_1 l1_2 l1_3 = some r), Calls Try.prog 35 #[.agg #[.int .i64 a0_0, .int .i64 a0_1, .slice A0_2 l0_2.length c0_2, .slice A0_3 l0_3.length c0_3], .agg #[.int .i64 a1_0, .int .i64 a1_1, .slice A1_2 l1_2.length c1_2, .slice A1_3 l1_3.length c1_3]] w fun e w' => e = .returned (.bool r) ∧ Below w.heap.size w w')) (ihm : ∀ k_, k_ < k → (∀ (A0 : Option Addr) (c0 : Nat) (l0 : List (S48)) (A1 : Option Addr) (c1 : Nat) (l1 : List (S48)) (r : Bool) (w : World) (hr0 : Kd.C k48 w A0 l0.length l0) (hc0 : l0.length ≤ c0) (hr1 : Kd.C k48 w A1 l1.length l1) (hc1 : l1.length ≤ c1) (h : laws_eqTermS.f k_ l0 l1 = some r), Calls Try.prog 73 #[.slice A0 l0.length c0, .slice A1 l1.length c1] w fun e w' => e = .returned (.bool r) ∧ Below w.heap.size w w')) : ∀ (a0_0 : Int) (a0_1 : Int) (A0_2 : Option Addr) (c0_2 : Nat) (l0_2 : List Int) (A0_3 : Option Addr) (c0_3 : Nat) (l0_3 : List (S48)) (a1_0 : Int) (a1_1 : Int) (A1_2 : Option Addr) (c1_2 : Nat) (l1_2 : List Int) (A1_3 : Option Addr) (c1_3 : Nat) (l1_3 : List (S48)) (r : Bool) (w : World) (hr0_2 : Kd.C (Kd.int .i64) w A0_2 l0_2.length l0_2) (hc0_2 : l0_2.length ≤ c0_2) (hr0_3 : Kd.C k48 w A0_3 l0_3.length l0_3) (hc0_3 : l0_3.length ≤ c0_3) (hr1_2 : Kd.C (Kd.int .i64) w A1_2 l1_2.length l1_2) (hc1_2 : l1_2.length ≤ c1_2) (hr1_3 : Kd.C k48 w A1_3 l1_3.length l1_3) (hc1_3 : l1_3.length ≤ c1_3) (h : laws_eqTerm.f k a0_0 a0_1 l0_2 l0_3 a1_0 a1_1 l1_2 l1_3 = some r),
  Calls Try.prog 35 #[.agg #[.int .i64 a0_0, .int .i64 a0_1, .slice A0_2 l0_2.length c0_2, .slice A0_3 l0_3.length c0_3], .agg #[.int .i64 a1_0, .int .i64 a1_1, .slice A1_2 l1_2.length c1_2, .slice A1_3 l1_3.length c1_3]] w fun e w' => e = .returned (.bool r) ∧ Below w.heap.size w w' := by
 intro a0_0 a0_1 A0_2 c0_2 l0_2 A0_3 c0_3 l0_3 a1_0 a1_1 A1_2 c1_2 l1_2 A1_3 c1_3 l1_3 r w hr0_2 hc0_2 hr0_3 hc0_3 hr1_2 hc1_2 hr1_3 hc1_3 h
 cases k with
 | zero => exact absurd h (by simp [laws_eqTerm.f])
 | succ k =>
 simp only [laws_eqTerm.f] at h
 have hu48 := Try.underlying48
 have HR0_2 := sd_ hr0_2
 have HC0_2 := sd_ hc0_2
 clear hr0_2 hc0_2
 have HR0_3 := sd_ hr0_3
 have HC0_3 := sd_ hc0_3
 clear hr0_3 hc0_3
 have HR1_2 := sd_ hr1_2
 have HC1_2 := sd_ hc1_2
 clear hr1_2 hc1_2
 have HR1_3 := sd_ hr1_3
 have HC1_3 := sd_ hc1_3
 clear hr1_3 hc1_3
 have HB := sd_ (Below.refl w.heap.size w)
 have H : (if a0_0 = a1_0 then (if a0_1 = a1_1 then ((laws_eqIntS.f k l0_2 l1_2).bind fun t625 => (if t625 = true then ((laws_eqTermS.f k l0_3 l1_3).bind fun t626 => (if t626 = true then (some true) else (some false))) else (some false))) else (some false)) else (some false)) = some r := h
 clear h
 have HP3 := sd_ H
 clear H
 go_enter Try.func35, Try.ntmps35
 go_upto_if 9 with (first | ((with_reducible refine gate_dst (N := 2) rfl ?_); refine box_event ?hg (N := 2) ?hd (cs := #[.int .i64 a0_0, .int .i64 a0_1, .slice A0_2 l0_2.length c0_2, .slice A0_3 l0_3.length c0_3]) (t := 48) ?hr ?_; (case hd => rfl); (case hg => rfl); (case hr => first | (go_simp; done) | (go_simp; rfl)); intro gb623 hg w4 hbox hb; have BK623 := sd_ (hbox); have GW623 := sd_ ((by rw [hg]; exact (below_size (bw0_ HB.out)) : w.heap.size ≤ gb623)); have GE623 := sd_ ((by rw [hg]; exact (below_size (bw0_ HB.out)) : w.heap.size ≤ gb623)); replace HB := sd_ (below_step (bw0_ HB.out) hb); clear hb hbox hg) | ((with_reducible refine gate_dst (N := 3) rfl ?_); refine box_event ?hg (N := 3) ?hd (cs := #[.int .i64 a1_0, .int .i64 a1_1, .slice A1_2 l1_2.length c1_2, .slice A1_3 l1_3.length c1_3]) (t := 48) ?hr ?_; (case hd => rfl); (case hg => rfl); (case hr => first | (go_simp; done) | (go_simp; rfl)); intro gb624 hg w5 hbox hb; have BK624 := sd_ (hbox); have GW624 := sd_ ((by rw [hg]; exact (below_size (bw1_ HB.out GE623.out)) : w.heap.size ≤ gb624)); have GE624 := sd_ ((by rw [hg]; exact (below_size (bw1_ HB.out GE623.out)) : w.heap.size ≤ gb624)); replace HB := sd_ (below_step (bw1_ HB.out GE623.out) hb); have NB623_624 := sd_ ((by rw [hg]; exact Nat.ne_of_lt (bl_ BK623.out) : gb623 ≠ gb624)); have NB624_623 := sd_ ((by rw [hg]; exact Nat.ne_of_gt (bl_ BK623.out) : gb624 ≠ gb623)); replace BK623 := sd_ (bb_ BK623.out hb); clear hb hbox hg; have hnb6 := NB623_624.out; have hnc6 := NB624_623.out; have hcz7_0 : w5.cell? ⟨gb623, 0, none⟩ = some (.int .i64 a0_0) := (blk_cell BK623.out 0).trans rfl; have hcz7_1 : w5.cell? ⟨gb623, 1, none⟩ = some (.int .i64 a0_1) := (blk_cell BK623.out 1).trans rfl; have hcz7_2 : w5.cell? ⟨gb623, 2, none⟩ = some (.slice A0_2 l0_2.length c0_2) := (blk_cell BK623.out 2).trans rfl; have hcz7_3 : w5.cell? ⟨gb623, 3, none⟩ = some (.slice A0_3 l0_3.length c0_3) := (blk_cell BK623.out 3).trans rfl; have hfz7_0 := blk_frozen BK623.out 0; have hfz7_1 := blk_frozen BK623.out 1; have hfz7_2 := blk_frozen BK623.out 2; have hfz7_3 := blk_frozen BK623.out 3; have hcz8_0 : w5.cell? ⟨gb624, 0, none⟩ = some (.int .i64 a1_0) := (blk_cell BK624.out 0).trans rfl; have hcz8_1 : w5.cell? ⟨gb624, 1, none⟩ = some (.int .i64 a1_1) := (blk_cell BK624.out 1).trans rfl; have hcz8_2 : w5.cell? ⟨gb624, 2, none⟩ = some (.slice A1_2 l1_2.length c1_2) := (blk_cell BK624.out 2).trans rfl; have hcz8_3 : w5.cell? ⟨gb624, 3, none⟩ = some (.slice A1_3 l1_3.length c1_3) := (blk_cell BK624.out 3).trans rfl; have hfz8_0 := blk_frozen BK624.out 0; have hfz8_1 := blk_frozen BK624.out 1; have hfz8_2 := blk_frozen BK624.out 2; have hfz8_3 := blk_frozen BK624.out 3))
 have H := HP3.out
 clear HP3
 by_cases c9 : a0_0 = a1_0
 ·rw [if_pos c9] at H
  have c9b0 : (a0_0 == a1_0) = true := beq_iff_eq.mpr c9
  have c9b1 : (a0_0 != a1_0) = false := bne_eq_false_iff_eq.mpr c9
  clear c9
  (first | rw [c9b0] | (simp only [i64_w, i32_w]; rw [c9b0]) | skip)
  by_cases c10 : a0_1 = a1_1
  ·rw [if_pos c10] at H
   have c10b0 : (a0_1 == a1_1) = true := beq_iff_eq.mpr c10
   have c10b1 : (a0_1 != a1_1) = false := bne_eq_false_iff_eq.mpr c10
   clear c10
   replace H := Option.bind_eq_some_iff.mp H
   obtain ⟨t625, A110, H⟩ := H
   try dsimp only at H
   have A11 := sd_ A110
   clear A110
   by_cases c12 : t625 = true
   ·subst c12
    have H1 : ((laws_eqTermS.f k l0_3 l1_3).bind fun t626 => (if t626 = true then (some true) else (some false))) = some r := by rw [if_pos rfl] at H; exact H
    clear H
    have H := H1
    clear H1
    replace H := Option.bind_eq_some_iff.mp H
    obtain ⟨t626, A130, H⟩ := H
    try dsimp only at H
    have A13 := sd_ A130
    clear A130
    have HP14 := sd_ H
    clear H
    have hnb15 := NB623_624.out
    have hnc15 := NB624_623.out
    have hcz16_0 : w5.cell? ⟨gb623, 0, none⟩ = some (.int .i64 a0_0) := (blk_cell BK623.out 0).trans rfl
    have hcz16_1 : w5.cell? ⟨gb623, 1, none⟩ = some (.int .i64 a0_1) := (blk_cell BK623.out 1).trans rfl
    have hcz16_2 : w5.cell? ⟨gb623, 2, none⟩ = some (.slice A0_2 l0_2.length c0_2) := (blk_cell BK623.out 2).trans rfl
    have hcz16_3 : w5.cell? ⟨gb623, 3, none⟩ = some (.slice A0_3 l0_3.length c0_3) := (blk_cell BK623.out 3).trans rfl
    have hfz16_0 := blk_frozen BK623.out 0
    have hfz16_1 := blk_frozen BK623.out 1
    have hfz16_2 := blk_frozen BK623.out 2
    have hfz16_3 := blk_frozen BK623.out 3
    have hcz17_0 : w5.cell? ⟨gb624, 0, none⟩ = some (.int .i64 a1_0) := (blk_cell BK624.out 0).trans rfl
    have hcz17_1 : w5.cell? ⟨gb624, 1, none⟩ = some (.int .i64 a1_1) := (blk_cell BK624.out 1).trans rfl
    have hcz17_2 : w5.cell? ⟨gb624, 2, none⟩ = some (.slice A1_2 l1_2.length c1_2) := (blk_cell BK624.out 2).trans rfl
    have hcz17_3 : w5.cell? ⟨gb624, 3, none⟩ = some (.slice A1_3 l1_3.length c1_3) := (blk_cell BK624.out 3).trans rfl
    have hfz17_0 := blk_frozen BK624.out 0
    have hfz17_1 := blk_frozen BK624.out 1
    have hfz17_2 := blk_frozen BK624.out 2
    have hfz17_3 := blk_frozen BK624.out 3
    go_upto_if 26 with (first | ((with_reducible refine gate_callee (f := 17) rfl ?_); refine goesL_ (some 19) rfl rfl Try.func17 (by kernel_rfl) rfl #[.slice A0_2 l0_2.length c0_2, .slice A1_2 l1_2.length c1_2] rfl (by (try simp only [List.map_toArray, List.map_cons, List.map_nil]); first | done | rfl | (simp only [List.length_drop, List.length_take]; rfl)) ?_; (with_reducible refine (laws_eqIntS.calls k _ _ l0_2 _ _ l1_2 true _ ?side1 ?side2 ?side3 ?side4 A11.out).mono ?_); (case side1 => exact kc_ HR0_2.out HB.out); (case side2 => exact HC0_2.out); (case side3 => exact kc_ HR1_2.out HB.out); (case side4 => exact HC1_2.out); rintro e w' ⟨rfl, ⟨nd, rfl⟩⟩; refine ⟨_, rfl, ?_⟩) | ((with_reducible refine gate_callee (f := 73) rfl ?_); refine goesL_ (some 25) rfl rfl Try.func73 (by kernel_rfl) rfl #[.slice A0_3 l0_3.length c0_3, .slice A1_3 l1_3.length c1_3] rfl (by (try simp only [List.map_toArray, List.map_cons, List.map_nil]); first | done | rfl | (simp only [List.length_drop, List.length_take]; rfl)) ?_; (with_reducible refine (ihm k (by omega) _ _ l0_3 _ _ l1_3 t626 _ ?side1 ?side2 ?side3 ?side4 A13.out).mono ?_); (case side1 => repeat (first | exact (Kd.C_below HR0_3.out (bw2_ HB.out GE623.out GE624.out)) | (with_reducible refine Kd.C_alloc ?_ _) | (with_reducible refine Kd.C_drewN ?_ _) | (with_reducible refine Kd.C_drew ?_))); (case side2 => exact HC0_3.out); (case side3 => repeat (first | exact (Kd.C_below HR1_3.out (bw2_ HB.out GE623.out GE624.out)) | (with_reducible refine Kd.C_alloc ?_ _) | (with_reducible refine Kd.C_drewN ?_ _) | (with_reducible refine Kd.C_drew ?_))); (case side4 => exact HC1_3.out); rintro e w18 ⟨rfl, hb⟩; refine ⟨_, rfl, ?_⟩; replace BK623 := sd_ (bb_ BK623.out hb); replace BK624 := sd_ (bb_ BK624.out hb); replace HB := sd_ (below_step (bw2_ HB.out GE623.out GE624.out) hb); (try clear hb); (try clear hb2); (try clear hk); (try clear hi)))
    have H := HP14.out
    clear HP14
    by_cases c19 : t626 = true
    ·subst c19
     have H1 : (some true) = some r := by rw [if_pos rfl] at H; exact H
     clear H
     have H := H1
     clear H1
     obtain rfl := Option.some.inj H
     go_wp2
     go_ret
     exact ⟨an_, bw2_ HB.out GE623.out GE624.out⟩
    ·replace c19 := Bool.eq_false_iff.mpr c19
     subst c19
     have H1 : (some false) = some r := by rw [if_neg (show ¬ (false = true) by decide)] at H; exact H
     clear H
     have H := H1
     clear H1
     obtain rfl := Option.some.inj H
     go_wp2
     go_ret
     exact ⟨an_, bw2_ HB.out GE623.out GE624.out⟩
   ·replace c12 := Bool.eq_false_iff.mpr c12
    subst c12
    have H1 : (some false) = some r := by rw [if_neg (show ¬ (false = true) by decide)] at H; exact H
    clear H
    have H := H1
    clear H1
    obtain rfl := Option.some.inj H
    have hnb20 := NB623_624.out
    have hnc20 := NB624_623.out
    have hcz21_0 : w5.cell? ⟨gb623, 0, none⟩ = some (.int .i64 a0_0) := (blk_cell BK623.out 0).trans rfl
    have hcz21_1 : w5.cell? ⟨gb623, 1, none⟩ = some (.int .i64 a0_1) := (blk_cell BK623.out 1).trans rfl
    have hcz21_2 : w5.cell? ⟨gb623, 2, none⟩ = some (.slice A0_2 l0_2.length c0_2) := (blk_cell BK623.out 2).trans rfl
    have hcz21_3 : w5.cell? ⟨gb623, 3, none⟩ = some (.slice A0_3 l0_3.length c0_3) := (blk_cell BK623.out 3).trans rfl
    have hfz21_0 := blk_frozen BK623.out 0
    have hfz21_1 := blk_frozen BK623.out 1
    have hfz21_2 := blk_frozen BK623.out 2
    have hfz21_3 := blk_frozen BK623.out 3
    have hcz22_0 : w5.cell? ⟨gb624, 0, none⟩ = some (.int .i64 a1_0) := (blk_cell BK624.out 0).trans rfl
    have hcz22_1 : w5.cell? ⟨gb624, 1, none⟩ = some (.int .i64 a1_1) := (blk_cell BK624.out 1).trans rfl
    have hcz22_2 : w5.cell? ⟨gb624, 2, none⟩ = some (.slice A1_2 l1_2.length c1_2) := (blk_cell BK624.out 2).trans rfl
    have hcz22_3 : w5.cell? ⟨gb624, 3, none⟩ = some (.slice A1_3 l1_3.length c1_3) := (blk_cell BK624.out 3).trans rfl
    have hfz22_0 := blk_frozen BK624.out 0
    have hfz22_1 := blk_frozen BK624.out 1
    have hfz22_2 := blk_frozen BK624.out 2
    have hfz22_3 := blk_frozen BK624.out 3
    go_wp2_with (first | ((with_reducible refine gate_callee (f := 17) rfl ?_); refine goesL_ (some 19) rfl rfl Try.func17 (by kernel_rfl) rfl #[.slice A0_2 l0_2.length c0_2, .slice A1_2 l1_2.length c1_2] rfl (by (try simp only [List.map_toArray, List.map_cons, List.map_nil]); first | done | rfl | (simp only [List.length_drop, List.length_take]; rfl)) ?_; (with_reducible refine (laws_eqIntS.calls k _ _ l0_2 _ _ l1_2 false _ ?side1 ?side2 ?side3 ?side4 A11.out).mono ?_); (case side1 => exact kc_ HR0_2.out HB.out); (case side2 => exact HC0_2.out); (case side3 => exact kc_ HR1_2.out HB.out); (case side4 => exact HC1_2.out); rintro e w' ⟨rfl, ⟨nd, rfl⟩⟩; refine ⟨_, rfl, ?_⟩))
    go_ret
    exact ⟨an_, bw2_ HB.out GE623.out GE624.out⟩
  ·rw [if_neg c10] at H
   have c10b0 : (a0_1 == a1_1) = false := beq_eq_false_iff_ne.mpr c10
   have c10b1 : (a0_1 != a1_1) = true := bne_iff_ne.mpr c10
   obtain rfl := Option.some.inj H
   have hnb23 := NB623_624.out
   have hnc23 := NB624_623.out
   have hcz24_0 : w5.cell? ⟨gb623, 0, none⟩ = some (.int .i64 a0_0) := (blk_cell BK623.out 0).trans rfl
   have hcz24_1 : w5.cell? ⟨gb623, 1, none⟩ = some (.int .i64 a0_1) := (blk_cell BK623.out 1).trans rfl
   have hcz24_2 : w5.cell? ⟨gb623, 2, none⟩ = some (.slice A0_2 l0_2.length c0_2) := (blk_cell BK623.out 2).trans rfl
   have hcz24_3 : w5.cell? ⟨gb623, 3, none⟩ = some (.slice A0_3 l0_3.length c0_3) := (blk_cell BK623.out 3).trans rfl
   have hfz24_0 := blk_frozen BK623.out 0
   have hfz24_1 := blk_frozen BK623.out 1
   have hfz24_2 := blk_frozen BK623.out 2
   have hfz24_3 := blk_frozen BK623.out 3
   have hcz25_0 : w5.cell? ⟨gb624, 0, none⟩ = some (.int .i64 a1_0) := (blk_cell BK624.out 0).trans rfl
   have hcz25_1 : w5.cell? ⟨gb624, 1, none⟩ = some (.int .i64 a1_1) := (blk_cell BK624.out 1).trans rfl
   have hcz25_2 : w5.cell? ⟨gb624, 2, none⟩ = some (.slice A1_2 l1_2.length c1_2) := (blk_cell BK624.out 2).trans rfl
   have hcz25_3 : w5.cell? ⟨gb624, 3, none⟩ = some (.slice A1_3 l1_3.length c1_3) := (blk_cell BK624.out 3).trans rfl
   have hfz25_0 := blk_frozen BK624.out 0
   have hfz25_1 := blk_frozen BK624.out 1
   have hfz25_2 := blk_frozen BK624.out 2
   have hfz25_3 := blk_frozen BK624.out 3
   go_wp2
   go_ret
   exact ⟨an_, bw2_ HB.out GE623.out GE624.out⟩
 ·rw [if_neg c9] at H
  have c9b0 : (a0_0 == a1_0) = false := beq_eq_false_iff_ne.mpr c9
  have c9b1 : (a0_0 != a1_0) = true := bne_iff_ne.mpr c9
  (first | rw [c9b0] | (simp only [i64_w, i32_w]; rw [c9b0]) | skip)
  obtain rfl := Option.some.inj H
  go_wp2
  go_ret
  exact ⟨an_, bw2_ HB.out GE623.out GE624.out⟩

theorem laws_eqTerm.both (k : Nat) : (∀ (a0_0 : Int) (a0_1 : Int) (A0_2 : Option Addr) (c0_2 : Nat) (l0_2 : List Int) (A0_3 : Option Addr) (c0_3 : Nat) (l0_3 : List (S48)) (a1_0 : Int) (a1_1 : Int) (A1_2 : Option Addr) (c1_2 : Nat) (l1_2 : List Int) (A1_3 : Option Addr) (c1_3 : Nat) (l1_3 : List (S48)) (r : Bool) (w : World) (hr0_2 : Kd.C (Kd.int .i64) w A0_2 l0_2.length l0_2) (hc0_2 : l0_2.length ≤ c0_2) (hr0_3 : Kd.C k48 w A0_3 l0_3.length l0_3) (hc0_3 : l0_3.length ≤ c0_3) (hr1_2 : Kd.C (Kd.int .i64) w A1_2 l1_2.length l1_2) (hc1_2 : l1_2.length ≤ c1_2) (hr1_3 : Kd.C k48 w A1_3 l1_3.length l1_3) (hc1_3 : l1_3.length ≤ c1_3) (h : laws_eqTerm.f k a0_0 a0_1 l0_2 l0_3 a1_0 a1_1 l1_2 l1_3 = some r), Calls Try.prog 35 #[.agg #[.int .i64 a0_0, .int .i64 a0_1, .slice A0_2 l0_2.length c0_2, .slice A0_3 l0_3.length c0_3], .agg #[.int .i64 a1_0, .int .i64 a1_1, .slice A1_2 l1_2.length c1_2, .slice A1_3 l1_3.length c1_3]] w fun e w' => e = .returned (.bool r) ∧ Below w.heap.size w w') ∧ (∀ (A0 : Option Addr) (c0 : Nat) (l0 : List (S48)) (A1 : Option Addr) (c1 : Nat) (l1 : List (S48)) (r : Bool) (w : World) (hr0 : Kd.C k48 w A0 l0.length l0) (hc0 : l0.length ≤ c0) (hr1 : Kd.C k48 w A1 l1.length l1) (hc1 : l1.length ≤ c1) (h : laws_eqTermS.f k l0 l1 = some r), Calls Try.prog 73 #[.slice A0 l0.length c0, .slice A1 l1.length c1] w fun e w' => e = .returned (.bool r) ∧ Below w.heap.size w w') := by
 induction k using Nat.strongRecOn with
 | _ k ih => exact ⟨laws_eqTerm.step k (fun j hj => (ih j hj).1) (fun j hj => (ih j hj).2), laws_eqTermS.step k (fun j hj => (ih j hj).2) (fun j hj => (ih j hj).1)⟩
theorem laws_eqTerm.calls (k : Nat) : ∀ (a0_0 : Int) (a0_1 : Int) (A0_2 : Option Addr) (c0_2 : Nat) (l0_2 : List Int) (A0_3 : Option Addr) (c0_3 : Nat) (l0_3 : List (S48)) (a1_0 : Int) (a1_1 : Int) (A1_2 : Option Addr) (c1_2 : Nat) (l1_2 : List Int) (A1_3 : Option Addr) (c1_3 : Nat) (l1_3 : List (S48)) (r : Bool) (w : World) (hr0_2 : Kd.C (Kd.int .i64) w A0_2 l0_2.length l0_2) (hc0_2 : l0_2.length ≤ c0_2) (hr0_3 : Kd.C k48 w A0_3 l0_3.length l0_3) (hc0_3 : l0_3.length ≤ c0_3) (hr1_2 : Kd.C (Kd.int .i64) w A1_2 l1_2.length l1_2) (hc1_2 : l1_2.length ≤ c1_2) (hr1_3 : Kd.C k48 w A1_3 l1_3.length l1_3) (hc1_3 : l1_3.length ≤ c1_3) (h : laws_eqTerm.f k a0_0 a0_1 l0_2 l0_3 a1_0 a1_1 l1_2 l1_3 = some r), Calls Try.prog 35 #[.agg #[.int .i64 a0_0, .int .i64 a0_1, .slice A0_2 l0_2.length c0_2, .slice A0_3 l0_3.length c0_3], .agg #[.int .i64 a1_0, .int .i64 a1_1, .slice A1_2 l1_2.length c1_2, .slice A1_3 l1_3.length c1_3]] w fun e w' => e = .returned (.bool r) ∧ Below w.heap.size w w' := (laws_eqTerm.both k).1
theorem laws_eqTermS.calls (k : Nat) : ∀ (A0 : Option Addr) (c0 : Nat) (l0 : List (S48)) (A1 : Option Addr) (c1 : Nat) (l1 : List (S48)) (r : Bool) (w : World) (hr0 : Kd.C k48 w A0 l0.length l0) (hc0 : l0.length ≤ c0) (hr1 : Kd.C k48 w A1 l1.length l1) (hc1 : l1.length ≤ c1) (h : laws_eqTermS.f k l0 l1 = some r), Calls Try.prog 73 #[.slice A0 l0.length c0, .slice A1 l1.length c1] w fun e w' => e = .returned (.bool r) ∧ Below w.heap.size w w' := (laws_eqTerm.both k).2

/-! ### laws_eqBoolS: function 65 -/
def laws_eqBoolS.l0 : Nat → List Bool → List Bool → Int → Option (Bool)
 | 0, _, _, _ => none
 | k + 1, x0, x1, x5 => if x5 < (x0.length : Int) then (if 0 ≤ x5 then (if x5 < (x1.length : Int) then (if ((rdOf false x0 x5) != (rdOf false x1 x5)) = true then (some false) else (laws_eqBoolS.l0 k x0 x1 (wrap64 (x5 + 1)))) else (none)) else (none)) else (some true)
def laws_eqBoolS.f (k : Nat) (l0 : List Bool) (l1 : List Bool) : Option (Bool) := if (l0.length : Int) = (l1.length : Int) then (laws_eqBoolS.l0 k l0 l1 0) else (some false)
set_option maxHeartbeats 8000000 in
set_option maxRecDepth 100000 in
theorem laws_eqBoolS.calls (k : Nat) (A0 : Option Addr) (c0 : Nat) (l0 : List Bool) (A1 : Option Addr) (c1 : Nat) (l1 : List Bool) (r : Bool) (w : World) (hr0 : Kd.C Kd.bool w A0 l0.length l0) (hc0 : l0.length ≤ c0) (hr1 : Kd.C Kd.bool w A1 l1.length l1) (hc1 : l1.length ≤ c1) (h : laws_eqBoolS.f k l0 l1 = some r) :
  Calls Try.prog 65 #[.slice A0 l0.length c0, .slice A1 l1.length c1] w fun e w' => e = .returned (.bool r) ∧ Drawn0 w w' := by
 have HR0 := sd_ hr0
 have HC0 := sd_ hc0
 clear hr0 hc0
 have HR1 := sd_ hr1
 have HC1 := sd_ hc1
 clear hr1 hc1
 have H : (if (l0.length : Int) = (l1.length : Int) then (laws_eqBoolS.l0 k l0 l1 0) else (some false)) = some r := h
 clear h
 by_cases c3 : (l0.length : Int) = (l1.length : Int)
 ·rw [if_pos c3] at H
  have c3b0 : ((l0.length : Int) == (l1.length : Int)) = true := beq_iff_eq.mpr c3
  have c3b1 : ((l0.length : Int) != (l1.length : Int)) = false := bne_eq_false_iff_eq.mpr c3
  have c3b2 : (l0.length == l1.length) = true := by first | simpa using c3 | (simp at c3 ⊢; omega)
  clear c3
  have H' := sd_ H
  clear H
  go_enter Try.func65, Try.ntmps65
  go_wp2
  repeat (go_quiet (fail); try go_wp2)
  go_loopg [5] k (fun kq v5 w' => ∃ (x5_1 : Int), v5 = .int .i64 x5_1 ∧ Aside0 (laws_eqBoolS.l0 kq l0 l1 x5_1 = some r) ∧ Aside0 (kq ≤ k) ∧ Drawn0 w w')
  case atStart => exact ⟨(0), (by first | rfl | (simp; done) | (simp [*]; done)), H', ⟨Nat.le_refl _⟩, by repeat (first | exact Drawn0.refl _ | apply Drawn0.step)⟩
  case round =>
   clear H'
   try clear c1
   try clear p2
   try clear c3
   try clear c3b0
   try clear c3b1
   try clear c3b2
   obtain ⟨x5_1, rfl, HA, HK1, ⟨m1, rfl⟩⟩ := hrel
   cases gk with
   | zero => exact absurd HA.out (by simp [laws_eqBoolS.l0])
   | succ k1 =>
    have H := HA.out
    clear HA
    simp only [laws_eqBoolS.l0] at H
    by_cases c4 : x5_1 < (l0.length : Int)
    ·rw [if_pos c4] at H
     have c4b0 : decide (x5_1 < (l0.length : Int)) = true := decide_eq_true c4
     clear c4
     by_cases c5 : 0 ≤ x5_1
     ·rw [if_pos c5] at H
      have c5b0 : decide (0 ≤ x5_1) = true := decide_eq_true c5
      clear c5
      by_cases c6 : x5_1 < (l1.length : Int)
      ·rw [if_pos c6] at H
       have c6b0 : decide (x5_1 < (l1.length : Int)) = true := decide_eq_true c6
       clear c6
       by_cases c7 : ((rdOf false l0 x5_1) != (rdOf false l1 x5_1)) = true
       ·rw [if_pos c7] at H
        have c7b0 : ((rdOf false l0 x5_1) != (rdOf false l1 x5_1)) = true := c7
        (try (have c7b1 : decide ((rdOf false l0 x5_1) = (rdOf false l1 x5_1)) = false := by simpa using c7))
        (try (have c7b2 : ((rdOf false l0 x5_1) == (rdOf false l1 x5_1)) = false := by simpa using c7))
        (try (have c7b3 : ¬ ((rdOf false l0 x5_1) = (rdOf false l1 x5_1)) := by simpa using c7))
        clear c7
        obtain rfl := Option.some.inj H
        have p428 : 0 ≤ (x5_1 : Int) := of_decide_eq_true (by first | (with_reducible assumption) | assumption)
        have q428 : x5_1 < (l0.length : Int) := of_decide_eq_true (by first | (with_reducible assumption) | assumption)
        obtain ⟨ad428, e428, hx428_0⟩ := Kd.at_bool HR0.out x5_1 p428 q428
        cases e428
        replace p428 := eq_true p428
        replace q428 := eq_true q428
        have p429 : 0 ≤ (x5_1 : Int) := of_decide_eq_true (by first | (with_reducible assumption) | assumption)
        have q429 : x5_1 < (l1.length : Int) := of_decide_eq_true (by first | (with_reducible assumption) | assumption)
        obtain ⟨ad429, e429, hx429_0⟩ := Kd.at_bool HR1.out x5_1 p429 q429
        cases e429
        replace p429 := eq_true p429
        replace q429 := eq_true q429
        go_wp2
        repeat (go_quiet (fail); try go_wp2)
        go_ret
        exact ⟨by first | rfl | (simp; done) | (simp [*]; done), by repeat (first | exact Drawn0.refl _ | apply Drawn0.step)⟩
       ·rw [if_neg c7] at H
        have c7b0 : ((rdOf false l0 x5_1) != (rdOf false l1 x5_1)) = false := by simpa using c7
        (try (have c7b1 : decide ((rdOf false l0 x5_1) = (rdOf false l1 x5_1)) = true := by simpa using c7))
        (try (have c7b2 : ((rdOf false l0 x5_1) == (rdOf false l1 x5_1)) = true := by simpa using c7))
        clear c7
        have H' := sd_ H
        clear H
        have p428 : 0 ≤ (x5_1 : Int) := of_decide_eq_true (by first | (with_reducible assumption) | assumption)
        have q428 : x5_1 < (l0.length : Int) := of_decide_eq_true (by first | (with_reducible assumption) | assumption)
        obtain ⟨ad428, e428, hx428_0⟩ := Kd.at_bool HR0.out x5_1 p428 q428
        cases e428
        replace p428 := eq_true p428
        replace q428 := eq_true q428
        have p429 : 0 ≤ (x5_1 : Int) := of_decide_eq_true (by first | (with_reducible assumption) | assumption)
        have q429 : x5_1 < (l1.length : Int) := of_decide_eq_true (by first | (with_reducible assumption) | assumption)
        obtain ⟨ad429, e429, hx429_0⟩ := Kd.at_bool HR1.out x5_1 p429 q429
        cases e429
        replace p429 := eq_true p429
        replace q429 := eq_true q429
        go_wp2
        repeat (go_quiet (fail); try go_wp2)
        go_roundg k1
        case measure => have := HK1.out; omega
        case rel => exact ⟨(wrap64 (x5_1 + 1)), (by first | rfl | (simp; done) | (simp [*]; done)), H', ⟨by have := HK1.out; omega⟩, by repeat (first | exact Drawn0.refl _ | apply Drawn0.step)⟩
      ·rw [if_neg c6] at H
       exact absurd H (by simp)
     ·rw [if_neg c5] at H
      exact absurd H (by simp)
    ·rw [if_neg c4] at H
     have c4b0 : decide (x5_1 < (l0.length : Int)) = false := decide_eq_false c4
     clear c4
     obtain rfl := Option.some.inj H
     go_wp2
     repeat (go_quiet (fail); try go_wp2)
     go_ret
     exact ⟨by first | rfl | (simp; done) | (simp [*]; done), by repeat (first | exact Drawn0.refl _ | apply Drawn0.step)⟩
 ·rw [if_neg c3] at H
  have c3b0 : ((l0.length : Int) == (l1.length : Int)) = false := beq_eq_false_iff_ne.mpr c3
  have c3b1 : ((l0.length : Int) != (l1.length : Int)) = true := bne_iff_ne.mpr c3
  have c3b2 : (l0.length == l1.length) = false := by first | simpa using c3 | (simp at c3 ⊢; omega)
  obtain rfl := Option.some.inj H
  go_enter Try.func65, Try.ntmps65
  go_wp2
  repeat (go_quiet (fail); try go_wp2)
  go_ret
  exact ⟨by first | rfl | (simp; done) | (simp [*]; done), by repeat (first | exact Drawn0.refl _ | apply Drawn0.step)⟩


/-! ### impl_within: function 85 -/
def impl_within.f (a0 : Int) (a1 : Int) (a2 : Int) : Option (Bool) := if a0 ≥ a1 then (some (decide (a0 ≤ a2))) else (some false)
set_option maxHeartbeats 8000000 in
set_option maxRecDepth 100000 in
theorem impl_within.calls (a0 : Int) (a1 : Int) (a2 : Int) (r : Bool) (w : World) (h : impl_within.f a0 a1 a2 = some r) :
  Calls Try.prog 85 #[.int .i64 a0, .int .i64 a1, .int .i64 a2] w fun e w' => e = .returned (.bool r) ∧ Drawn0 w w' := by
 have H : (if a0 ≥ a1 then (some (decide (a0 ≤ a2))) else (some false)) = some r := h
 clear h
 by_cases c4 : a0 ≥ a1
 ·rw [if_pos c4] at H
  have c4b0 : decide (a1 ≤ a0) = true := decide_eq_true c4
  clear c4
  obtain rfl := Option.some.inj H
  go_enter Try.func85, Try.ntmps85
  go_wp2
  go_ret
  exact ⟨by first | rfl | (simp; done) | (simp [*]; done), by repeat (first | exact Drawn0.refl _ | apply Drawn0.step)⟩
 ·rw [if_neg c4] at H
  have c4b0 : decide (a1 ≤ a0) = false := decide_eq_false c4
  clear c4
  obtain rfl := Option.some.inj H
  go_enter Try.func85, Try.ntmps85
  go_wp2
  go_ret
  exact ⟨by first | rfl | (simp; done) | (simp [*]; done), by repeat (first | exact Drawn0.refl _ | apply Drawn0.step)⟩

end Go.Proofs.Ytnokgkhkmnldeaa.P
end
