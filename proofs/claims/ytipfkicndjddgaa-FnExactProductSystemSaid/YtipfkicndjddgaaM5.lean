-- Several texts in one (wip/tools/merge.py).
import Derived.Test.YtipfkicndjddgaaM1
import Derived.Test.YtipfkicndjddgaaM3
import Derived.Laws.EntriesVeiled
section
namespace Go.Proofs.Ytipfkicndjddgaa.P
open Go.RowKit Go.Proofs.YtipfkicndjddgaaW.PrintWords Go.Proofs.YtipfkicndjddgaaW.PrintLast Go.Proofs.YtipfkicndjddgaaW.PrintMore
attribute [local go_sem] max2_int min2_int max_two min_two max_three min_three max_four min_four   -- for this text's walks alone
set_option linter.unusedVariables false
set_option linter.unusedSimpArgs false

/-! ### impl_ProductSystem_2: function 48 -/
def impl_ProductSystem_2.f (a0 : Int) (a1 : Int) (x2_0 : (Int → Int → Option (Int))) (a3_0 : Int) (l3_1 : List Int) (l3_2 : List Int) (l3_3 : List Bool) (l4_0 : List (S68)) (a5_0 : Int) (l5_1 : List Int) (l5_2 : List Int) (l5_3 : List Bool) : Option (Int) := if 0 ≤ a0 then (if a0 < (l4_0.length : Int) then (if 0 ≤ a1 then (if a1 < (l4_0.length : Int) then ((impl_System_plus.f a3_0 l3_1 l3_2 l3_3 ((rd_T68 l4_0 a0).f0) ((rd_T68 l4_0 a1).f0)).bind fun t315 => ((impl_System_plus.f a5_0 l5_1 l5_2 l5_3 ((rd_T68 l4_0 a0).f1) ((rd_T68 l4_0 a1).f1)).bind fun t318 => ((x2_0 t315 t318).bind fun t319 => (some t319)))) else (none)) else (none)) else (none)) else (none)
def impl_ProductSystem_2.T1 : Bool × List (List Nat × List Nat) := (true, [([], []), ([], []), ([], []), ([], []), ([2, 3], [2, 3]), ([4], [4]), ([5], [5]), ([], []), ([], []), ([7, 8], [7, 8]), ([9], [9]), ([10], [10]), ([1, 6, 11], [1, 6, 11]), ([], []), ([], []), ([], []), ([14, 15], [14, 15]), ([16], [16]), ([17], [17]), ([], []), ([], []), ([19, 20], [19, 20]), ([21], [21]), ([22], [22]), ([13, 18, 23, 12], [13, 18, 23]), ([0, 12, 24, 24], [0, 12, 24]), ([25, 25, 0, 1, 2, 3, 4, 5, 6, 7, 8, 9, 10, 11, 12, 13, 14, 15, 16, 17, 18, 19, 20, 21, 22, 23, 24, 25], [25])])
def impl_ProductSystem_2.B1 : List Nat := [0, 0, 0, 0, 12, 28, 60, 0, 0, 384, 896, 1920, 4094, 0, 0, 0, 49152, 114688, 245760, 0, 0, 1572864, 3670016, 7864320, 16777214, 33554431, 67108863]
theorem impl_ProductSystem_2.tab1 : rtab .any (opsOf Try.f48 1) = impl_ProductSystem_2.T1 := by kernel_rfl
theorem impl_ProductSystem_2.bits1 : waitsOk impl_ProductSystem_2.T1.2 impl_ProductSystem_2.B1 = true := by kernel_rfl
set_option maxHeartbeats 8000000 in
set_option maxRecDepth 100000 in
theorem impl_ProductSystem_2.calls (a0 : Int) (a1 : Int) (g2 : Nat) (x2_0 : (Int → Int → Option (Int))) (K2_0_ : Nat) (F2_0_ C2_0_ : Array Value) (g3 : Nat) (a3_0 : Int) (A3_1 : Option Addr) (c3_1 : Nat) (l3_1 : List Int) (A3_2 : Option Addr) (c3_2 : Nat) (l3_2 : List Int) (A3_3 : Option Addr) (c3_3 : Nat) (l3_3 : List Bool) (g4 : Nat) (A4_0 : Option Addr) (c4_0 : Nat) (l4_0 : List (S68)) (g5 : Nat) (a5_0 : Int) (A5_1 : Option Addr) (c5_1 : Nat) (l5_1 : List Int) (A5_2 : Option Addr) (c5_2 : Nat) (l5_2 : List Int) (A5_3 : Option Addr) (c5_3 : Nat) (l5_3 : List Bool) (r : Int) (w : World) (hG2_0 : OFn K2_0_) (hF2_0 : OC60 w x2_0 K2_0_ F2_0_ C2_0_) (hb2 : w.heap[g2]? = some (.cells #[.func (.func K2_0_) F2_0_ C2_0_] 60 (0, 0))) (hr3_1 : Kd.C (Kd.int .i64) w A3_1 l3_1.length l3_1) (hc3_1 : l3_1.length ≤ c3_1) (hr3_2 : Kd.C (Kd.int .i64) w A3_2 l3_2.length l3_2) (hc3_2 : l3_2.length ≤ c3_2) (hr3_3 : Kd.C Kd.bool w A3_3 l3_3.length l3_3) (hc3_3 : l3_3.length ≤ c3_3) (hb3 : w.heap[g3]? = some (.cells #[.int .i64 a3_0, .slice A3_1 l3_1.length c3_1, .slice A3_2 l3_2.length c3_2, .slice A3_3 l3_3.length c3_3] 27 (0, 0))) (hr4_0 : Kd.C k68 w A4_0 l4_0.length l4_0) (hc4_0 : l4_0.length ≤ c4_0) (hb4 : w.heap[g4]? = some (.cells #[.slice A4_0 l4_0.length c4_0] 65 (0, 0))) (hr5_1 : Kd.C (Kd.int .i64) w A5_1 l5_1.length l5_1) (hc5_1 : l5_1.length ≤ c5_1) (hr5_2 : Kd.C (Kd.int .i64) w A5_2 l5_2.length l5_2) (hc5_2 : l5_2.length ≤ c5_2) (hr5_3 : Kd.C Kd.bool w A5_3 l5_3.length l5_3) (hc5_3 : l5_3.length ≤ c5_3) (hb5 : w.heap[g5]? = some (.cells #[.int .i64 a5_0, .slice A5_1 l5_1.length c5_1, .slice A5_2 l5_2.length c5_2, .slice A5_3 l5_3.length c5_3] 27 (0, 0))) (h : impl_ProductSystem_2.f a0 a1 x2_0 a3_0 l3_1 l3_2 l3_3 l4_0 a5_0 l5_1 l5_2 l5_3 = some r) :
  Calls Try.prog 48 #[.int .i64 a0, .int .i64 a1, .pointer (some ⟨g2, 0, none⟩), .pointer (some ⟨g3, 0, none⟩), .pointer (some ⟨g4, 0, none⟩), .pointer (some ⟨g5, 0, none⟩)] w fun e w' => e = .returned (.int .i64 r) ∧ Below w.heap.size w w' := by
 have hu27 := Try.underlying27
 have HG2_0 := sd_ hG2_0
 have HF2_0 := sd_ hF2_0
 clear hG2_0 hF2_0
 have HR3_1 := sd_ hr3_1
 have HC3_1 := sd_ hc3_1
 clear hr3_1 hc3_1
 have HR3_2 := sd_ hr3_2
 have HC3_2 := sd_ hc3_2
 clear hr3_2 hc3_2
 have HR3_3 := sd_ hr3_3
 have HC3_3 := sd_ hc3_3
 clear hr3_3 hc3_3
 have HR4_0 := sd_ hr4_0
 have HC4_0 := sd_ hc4_0
 clear hr4_0 hc4_0
 have HR5_1 := sd_ hr5_1
 have HC5_1 := sd_ hc5_1
 clear hr5_1 hc5_1
 have HR5_2 := sd_ hr5_2
 have HC5_2 := sd_ hc5_2
 clear hr5_2 hc5_2
 have HR5_3 := sd_ hr5_3
 have HC5_3 := sd_ hc5_3
 clear hr5_3 hc5_3
 have BK2 := sd_ hb2
 clear hb2
 have BK3 := sd_ hb3
 clear hb3
 have BK4 := sd_ hb4
 clear hb4
 have BK5 := sd_ hb5
 clear hb5
 have HB := sd_ (Below.refl w.heap.size w)
 have H : (if 0 ≤ a0 then (if a0 < (l4_0.length : Int) then (if 0 ≤ a1 then (if a1 < (l4_0.length : Int) then ((impl_System_plus.f a3_0 l3_1 l3_2 l3_3 ((rd_T68 l4_0 a0).f0) ((rd_T68 l4_0 a1).f0)).bind fun t315 => ((impl_System_plus.f a5_0 l5_1 l5_2 l5_3 ((rd_T68 l4_0 a0).f1) ((rd_T68 l4_0 a1).f1)).bind fun t318 => ((x2_0 t315 t318).bind fun t319 => (some t319)))) else (none)) else (none)) else (none)) else (none)) = some r := h
 clear h
 by_cases c7 : 0 ≤ a0
 ·rw [if_pos c7] at H
  have c7b0 : decide (0 ≤ a0) = true := decide_eq_true c7
  clear c7
  by_cases c8 : a0 < (l4_0.length : Int)
  ·rw [if_pos c8] at H
   have c8b0 : decide (a0 < (l4_0.length : Int)) = true := decide_eq_true c8
   clear c8
   by_cases c9 : 0 ≤ a1
   ·rw [if_pos c9] at H
    have c9b0 : decide (0 ≤ a1) = true := decide_eq_true c9
    clear c9
    by_cases c10 : a1 < (l4_0.length : Int)
    ·rw [if_pos c10] at H
     have c10b0 : decide (a1 < (l4_0.length : Int)) = true := decide_eq_true c10
     clear c10
     replace H := Option.bind_eq_some_iff.mp H
     obtain ⟨t315, A110, H⟩ := H
     try dsimp only at H
     have A11 := sd_ A110
     clear A110
     replace H := Option.bind_eq_some_iff.mp H
     obtain ⟨t318, A120, H⟩ := H
     try dsimp only at H
     have A12 := sd_ A120
     clear A120
     replace H := Option.bind_eq_some_iff.mp H
     obtain ⟨t319, A130, H⟩ := H
     try dsimp only at H
     have A13 := sd_ A130
     clear A130
     obtain rfl := Option.some.inj H
     go_enter Try.func48, Try.ntmps48
     try go_wp2
     replace BK2 := sd_ (blk_drew BK2.out)
     replace BK3 := sd_ (blk_drew BK3.out)
     replace BK4 := sd_ (blk_drew BK4.out)
     replace BK5 := sd_ (blk_drew BK5.out)
     replace HB := sd_ (below_drew1 HB.out)
     have p313 : 0 ≤ (a0 : Int) := dt_
     have q313 : a0 < (l4_0.length : Int) := dt_
     obtain ⟨ad313, e313, hx313_0, hx313_1⟩ := at_T68 HR4_0.out a0 p313 q313
     have hw313_1 := hx313_1
     have hw313_0 := hx313_0
     cases e313
     replace hx313_0 := (HB.out.cell (World.block_lt_of_cell? w _ hx313_0)).trans hx313_0
     replace hx313_1 := (HB.out.cell (World.block_lt_of_cell? w _ hx313_1)).trans hx313_1
     replace p313 := eq_true p313
     replace q313 := eq_true q313
     have p314 : 0 ≤ (a1 : Int) := dt_
     have q314 : a1 < (l4_0.length : Int) := dt_
     obtain ⟨ad314, e314, hx314_0, hx314_1⟩ := at_T68 HR4_0.out a1 p314 q314
     have hw314_1 := hx314_1
     have hw314_0 := hx314_0
     obtain rfl : ad313 = ad314 := (by injection e314)
     replace hx314_0 := (HB.out.cell (World.block_lt_of_cell? w _ hx314_0)).trans hx314_0
     replace hx314_1 := (HB.out.cell (World.block_lt_of_cell? w _ hx314_1)).trans hx314_1
     replace p314 := eq_true p314
     replace q314 := eq_true q314
     have p316 : 0 ≤ (a0 : Int) := dt_
     have q316 : a0 < (l4_0.length : Int) := dt_
     obtain ⟨ad316, e316, hx316_0, hx316_1⟩ := at_T68 HR4_0.out a0 p316 q316
     have hw316_1 := hx316_1
     have hw316_0 := hx316_0
     obtain rfl : ad313 = ad316 := (by injection e316)
     replace hx316_0 := (HB.out.cell (World.block_lt_of_cell? w _ hx316_0)).trans hx316_0
     replace hx316_1 := (HB.out.cell (World.block_lt_of_cell? w _ hx316_1)).trans hx316_1
     replace p316 := eq_true p316
     replace q316 := eq_true q316
     have p317 : 0 ≤ (a1 : Int) := dt_
     have q317 : a1 < (l4_0.length : Int) := dt_
     obtain ⟨ad317, e317, hx317_0, hx317_1⟩ := at_T68 HR4_0.out a1 p317 q317
     have hw317_1 := hx317_1
     have hw317_0 := hx317_0
     obtain rfl : ad313 = ad317 := (by injection e317)
     replace hx317_0 := (HB.out.cell (World.block_lt_of_cell? w _ hx317_0)).trans hx317_0
     replace hx317_1 := (HB.out.cell (World.block_lt_of_cell? w _ hx317_1)).trans hx317_1
     replace p317 := eq_true p317
     replace q317 := eq_true q317
     refine start_ (n := 27) (S := fun w' => w'.cell? ⟨g2, 0, none⟩ = some (.func (.func K2_0_) F2_0_ C2_0_) ∧ w'.cell? ⟨g3, 0, none⟩ = some (.int .i64 a3_0) ∧ w'.cell? ⟨g3, 1, none⟩ = some (.slice A3_1 l3_1.length c3_1) ∧ w'.cell? ⟨g3, 2, none⟩ = some (.slice A3_2 l3_2.length c3_2) ∧ w'.cell? ⟨g3, 3, none⟩ = some (.slice A3_3 l3_3.length c3_3) ∧ w'.cell? ⟨g4, 0, none⟩ = some (.slice (some ad313) l4_0.length c4_0) ∧ w'.cell? ⟨g5, 0, none⟩ = some (.int .i64 a5_0) ∧ w'.cell? ⟨g5, 1, none⟩ = some (.slice A5_1 l5_1.length c5_1) ∧ w'.cell? ⟨g5, 2, none⟩ = some (.slice A5_2 l5_2.length c5_2) ∧ w'.cell? ⟨g5, 3, none⟩ = some (.slice A5_3 l5_3.length c5_3) ∧ w'.cell? (ad313.add ((a0).toNat * 2)) = some (.int .i64 ((rd_T68 l4_0 a0).f0)) ∧ w'.cell? ⟨(ad313.add ((a0).toNat * 2)).block, (ad313.add ((a0).toNat * 2)).off + 1, none⟩ = some (.int .i64 ((rd_T68 l4_0 a0).f1)) ∧ w'.cell? (ad313.add ((a1).toNat * 2)) = some (.int .i64 ((rd_T68 l4_0 a1).f0)) ∧ w'.cell? ⟨(ad313.add ((a1).toNat * 2)).block, (ad313.add ((a1).toNat * 2)).off + 1, none⟩ = some (.int .i64 ((rd_T68 l4_0 a1).f1)) ∧ w'.cell? (ad313.add ((a0).toNat * 2)) = some (.int .i64 ((rd_T68 l4_0 a0).f0)) ∧ w'.cell? ⟨(ad313.add ((a0).toNat * 2)).block, (ad313.add ((a0).toNat * 2)).off + 1, none⟩ = some (.int .i64 ((rd_T68 l4_0 a0).f1)) ∧ w'.cell? (ad313.add ((a1).toNat * 2)) = some (.int .i64 ((rd_T68 l4_0 a1).f0)) ∧ w'.cell? ⟨(ad313.add ((a1).toNat * 2)).block, (ad313.add ((a1).toNat * 2)).off + 1, none⟩ = some (.int .i64 ((rd_T68 l4_0 a1).f1))) (ds := []) #[false, false, false, false, false, false, false, false, false, false, false, false, false, false, false, false, false, false, false, false, false, false, false, false, false, false, false] (by kernel_rfl) rfl rfl ⟨(blk_cell BK2.out 0).trans rfl, (blk_cell BK3.out 0).trans rfl, (blk_cell BK3.out 1).trans rfl, (blk_cell BK3.out 2).trans rfl, (blk_cell BK3.out 3).trans rfl, (blk_cell BK4.out 0).trans rfl, (blk_cell BK5.out 0).trans rfl, (blk_cell BK5.out 1).trans rfl, (blk_cell BK5.out 2).trans rfl, (blk_cell BK5.out 3).trans rfl, ((HB.out.cell (World.block_lt_of_cell? w _ hw313_0)).trans hw313_0), ((HB.out.cell (World.block_lt_of_cell? w _ hw313_1)).trans hw313_1), ((HB.out.cell (World.block_lt_of_cell? w _ hw314_0)).trans hw314_0), ((HB.out.cell (World.block_lt_of_cell? w _ hw314_1)).trans hw314_1), ((HB.out.cell (World.block_lt_of_cell? w _ hw316_0)).trans hw316_0), ((HB.out.cell (World.block_lt_of_cell? w _ hw316_1)).trans hw316_1), ((HB.out.cell (World.block_lt_of_cell? w _ hw317_0)).trans hw317_0), ((HB.out.cell (World.block_lt_of_cell? w _ hw317_1)).trans hw317_1)⟩ (fun hHeld => ?_); refine with_tabW impl_ProductSystem_2.tab1 impl_ProductSystem_2.bits1 (fun HT_ HW_ => ?_)
     generalize w.drew = w14 at BK2 BK3 BK4 BK5 HB hx313_0 hx313_1 hx314_0 hx314_1 hx316_0 hx316_1 hx317_0 hx317_1 hHeld ⊢
     refine pure_ (i := 3) (N := some 12) (v := ?_) (a' := ?_) #[false, false, false, true, false, false, false, false, false, false, false, false, false, false, false, false, false, false, false, false, false, false, false, false, false, false, false] rfl rfl (any_of HT_.out (by kernel_rfl)) (fun _ _ _ h => h) (Or.inl ⟨by rfl, ?_⟩) ?_ ?_
     rotate_left
     ·intro w'
      go_simp
      with_reducible rfl
     rotate_left
     ·simp only [Act.put, List.setIfInBounds_toArray, List.set_cons_zero, List.set_cons_succ, i64_w, i32_w]
      rfl
     refine pure_ (i := 8) (N := some 17) (v := ?_) (a' := ?_) #[false, false, false, true, false, false, false, false, true, false, false, false, false, false, false, false, false, false, false, false, false, false, false, false, false, false, false] rfl rfl (any_of HT_.out (by kernel_rfl)) (fun _ _ _ h => h) (Or.inl ⟨by rfl, ?_⟩) ?_ ?_
     rotate_left
     ·intro w'
      go_simp
      with_reducible rfl
     rotate_left
     ·simp only [Act.put, List.setIfInBounds_toArray, List.set_cons_zero, List.set_cons_succ, i64_w, i32_w]
      rfl
     refine pure_ (i := 15) (N := some 24) (v := ?_) (a' := ?_) #[false, false, false, true, false, false, false, false, true, false, false, false, false, false, false, true, false, false, false, false, false, false, false, false, false, false, false] rfl rfl (any_of HT_.out (by kernel_rfl)) (fun _ _ _ h => h) (Or.inl ⟨by rfl, ?_⟩) ?_ ?_
     rotate_left
     ·intro w'
      go_simp
      with_reducible rfl
     rotate_left
     ·simp only [Act.put, List.setIfInBounds_toArray, List.set_cons_zero, List.set_cons_succ, i64_w, i32_w]
      rfl
     refine pure_ (i := 20) (N := some 29) (v := ?_) (a' := ?_) #[false, false, false, true, false, false, false, false, true, false, false, false, false, false, false, true, false, false, false, false, true, false, false, false, false, false, false] rfl rfl (any_of HT_.out (by kernel_rfl)) (fun _ _ _ h => h) (Or.inl ⟨by rfl, ?_⟩) ?_ ?_
     rotate_left
     ·intro w'
      go_simp
      with_reducible rfl
     rotate_left
     ·simp only [Act.put, List.setIfInBounds_toArray, List.set_cons_zero, List.set_cons_succ, i64_w, i32_w]
      rfl
     refine take_ (i := 0) (N := some 9) (v := ?_) (a' := ?_) #[true, false, false, true, false, false, false, false, true, false, false, false, false, false, false, true, false, false, false, false, true, false, false, false, false, false, false] rfl rfl (take_ofW HT_.out HW_.out (by kernel_rfl)) (fun _ _ _ h => h) (Or.inl ⟨by rfl, ?_⟩) hHeld ?_ ?_
     rotate_left
     ·rintro w' ⟨s0, s1, s2, s3, s4, s5, s6, s7, s8, s9, s10, s11, s12, s13, s14, s15, s16, s17⟩
      go_simp
      with_reducible rfl
     rotate_left
     ·simp only [Act.put, List.setIfInBounds_toArray, List.set_cons_zero, List.set_cons_succ, i64_w, i32_w]
      rfl
     refine take_ (i := 1) (N := some 10) (v := ?_) (a' := ?_) #[true, true, false, true, false, false, false, false, true, false, false, false, false, false, false, true, false, false, false, false, true, false, false, false, false, false, false] rfl rfl (take_ofW HT_.out HW_.out (by kernel_rfl)) (fun _ _ _ h => h) (Or.inl ⟨by rfl, ?_⟩) hHeld ?_ ?_
     rotate_left
     ·rintro w' ⟨s0, s1, s2, s3, s4, s5, s6, s7, s8, s9, s10, s11, s12, s13, s14, s15, s16, s17⟩
      go_simp
      with_reducible rfl
     rotate_left
     ·simp only [Act.put, List.setIfInBounds_toArray, List.set_cons_zero, List.set_cons_succ, i64_w, i32_w]
      rfl
     refine take_ (i := 2) (N := some 11) (v := ?_) (a' := ?_) #[true, true, true, true, false, false, false, false, true, false, false, false, false, false, false, true, false, false, false, false, true, false, false, false, false, false, false] rfl rfl (take_ofW HT_.out HW_.out (by kernel_rfl)) (fun _ _ _ h => h) (Or.inl ⟨by rfl, ?_⟩) hHeld ?_ ?_
     rotate_left
     ·rintro w' ⟨s0, s1, s2, s3, s4, s5, s6, s7, s8, s9, s10, s11, s12, s13, s14, s15, s16, s17⟩
      go_simp
      with_reducible rfl
     rotate_left
     ·simp only [Act.put, List.setIfInBounds_toArray, List.set_cons_zero, List.set_cons_succ, i64_w, i32_w]
      rfl
     refine pure_ (i := 4) (N := some 13) (v := ?_) (a' := ?_) #[true, true, true, true, true, false, false, false, true, false, false, false, false, false, false, true, false, false, false, false, true, false, false, false, false, false, false] rfl rfl (any_of HT_.out (by kernel_rfl)) (fun _ _ _ h => h) (Or.inl ⟨by rfl, ?_⟩) ?_ ?_
     rotate_left
     ·intro w'
      go_simp
      with_reducible rfl
     rotate_left
     ·simp only [Act.put, List.setIfInBounds_toArray, List.set_cons_zero, List.set_cons_succ, i64_w, i32_w]
      rfl
     refine pure_ (i := 5) (N := some 14) (v := ?_) (a' := ?_) #[true, true, true, true, true, true, false, false, true, false, false, false, false, false, false, true, false, false, false, false, true, false, false, false, false, false, false] rfl rfl (any_of HT_.out (by kernel_rfl)) (fun _ _ _ h => h) (Or.inl ⟨by rfl, ?_⟩) ?_ ?_
     rotate_left
     ·intro w'
      go_simp
      with_reducible rfl
     rotate_left
     ·simp only [Act.put, List.setIfInBounds_toArray, List.set_cons_zero, List.set_cons_succ, i64_w, i32_w]
      rfl
     refine take_ (i := 6) (N := some 15) (v := ?_) (a' := ?_) #[true, true, true, true, true, true, true, false, true, false, false, false, false, false, false, true, false, false, false, false, true, false, false, false, false, false, false] rfl rfl (take_ofW HT_.out HW_.out (by kernel_rfl)) (fun _ _ _ h => h) (Or.inl ⟨by rfl, ?_⟩) hHeld ?_ ?_
     rotate_left
     ·rintro w' ⟨s0, s1, s2, s3, s4, s5, s6, s7, s8, s9, s10, s11, s12, s13, s14, s15, s16, s17⟩
      go_simp
      with_reducible rfl
     rotate_left
     ·simp only [Act.put, List.setIfInBounds_toArray, List.set_cons_zero, List.set_cons_succ, i64_w, i32_w]
      rfl
     refine take_ (i := 7) (N := some 16) (v := ?_) (a' := ?_) #[true, true, true, true, true, true, true, true, true, false, false, false, false, false, false, true, false, false, false, false, true, false, false, false, false, false, false] rfl rfl (take_ofW HT_.out HW_.out (by kernel_rfl)) (fun _ _ _ h => h) (Or.inl ⟨by rfl, ?_⟩) hHeld ?_ ?_
     rotate_left
     ·rintro w' ⟨s0, s1, s2, s3, s4, s5, s6, s7, s8, s9, s10, s11, s12, s13, s14, s15, s16, s17⟩
      go_simp
      with_reducible rfl
     rotate_left
     ·simp only [Act.put, List.setIfInBounds_toArray, List.set_cons_zero, List.set_cons_succ, i64_w, i32_w]
      rfl
     refine pure_ (i := 9) (N := some 18) (v := ?_) (a' := ?_) #[true, true, true, true, true, true, true, true, true, true, false, false, false, false, false, true, false, false, false, false, true, false, false, false, false, false, false] rfl rfl (any_of HT_.out (by kernel_rfl)) (fun _ _ _ h => h) (Or.inl ⟨by rfl, ?_⟩) ?_ ?_
     rotate_left
     ·intro w'
      go_simp
      with_reducible rfl
     rotate_left
     ·simp only [Act.put, List.setIfInBounds_toArray, List.set_cons_zero, List.set_cons_succ, i64_w, i32_w]
      rfl
     refine pure_ (i := 10) (N := some 19) (v := ?_) (a' := ?_) #[true, true, true, true, true, true, true, true, true, true, true, false, false, false, false, true, false, false, false, false, true, false, false, false, false, false, false] rfl rfl (any_of HT_.out (by kernel_rfl)) (fun _ _ _ h => h) (Or.inl ⟨by rfl, ?_⟩) ?_ ?_
     rotate_left
     ·intro w'
      go_simp
      with_reducible rfl
     rotate_left
     ·simp only [Act.put, List.setIfInBounds_toArray, List.set_cons_zero, List.set_cons_succ, i64_w, i32_w]
      rfl
     refine take_ (i := 11) (N := some 20) (v := ?_) (a' := ?_) #[true, true, true, true, true, true, true, true, true, true, true, true, false, false, false, true, false, false, false, false, true, false, false, false, false, false, false] rfl rfl (take_ofW HT_.out HW_.out (by kernel_rfl)) (fun _ _ _ h => h) (Or.inl ⟨by rfl, ?_⟩) hHeld ?_ ?_
     rotate_left
     ·rintro w' ⟨s0, s1, s2, s3, s4, s5, s6, s7, s8, s9, s10, s11, s12, s13, s14, s15, s16, s17⟩
      go_simp
      with_reducible rfl
     rotate_left
     ·simp only [Act.put, List.setIfInBounds_toArray, List.set_cons_zero, List.set_cons_succ, i64_w, i32_w]
      rfl
     refine take_ (i := 13) (N := some 22) (v := ?_) (a' := ?_) #[true, true, true, true, true, true, true, true, true, true, true, true, false, true, false, true, false, false, false, false, true, false, false, false, false, false, false] rfl rfl (take_ofW HT_.out HW_.out (by kernel_rfl)) (fun _ _ _ h => h) (Or.inl ⟨by rfl, ?_⟩) hHeld ?_ ?_
     rotate_left
     ·rintro w' ⟨s0, s1, s2, s3, s4, s5, s6, s7, s8, s9, s10, s11, s12, s13, s14, s15, s16, s17⟩
      go_simp
      with_reducible rfl
     rotate_left
     ·simp only [Act.put, List.setIfInBounds_toArray, List.set_cons_zero, List.set_cons_succ, i64_w, i32_w]
      rfl
     refine take_ (i := 14) (N := some 23) (v := ?_) (a' := ?_) #[true, true, true, true, true, true, true, true, true, true, true, true, false, true, true, true, false, false, false, false, true, false, false, false, false, false, false] rfl rfl (take_ofW HT_.out HW_.out (by kernel_rfl)) (fun _ _ _ h => h) (Or.inl ⟨by rfl, ?_⟩) hHeld ?_ ?_
     rotate_left
     ·rintro w' ⟨s0, s1, s2, s3, s4, s5, s6, s7, s8, s9, s10, s11, s12, s13, s14, s15, s16, s17⟩
      go_simp
      with_reducible rfl
     rotate_left
     ·simp only [Act.put, List.setIfInBounds_toArray, List.set_cons_zero, List.set_cons_succ, i64_w, i32_w]
      rfl
     refine pure_ (i := 16) (N := some 25) (v := ?_) (a' := ?_) #[true, true, true, true, true, true, true, true, true, true, true, true, false, true, true, true, true, false, false, false, true, false, false, false, false, false, false] rfl rfl (any_of HT_.out (by kernel_rfl)) (fun _ _ _ h => h) (Or.inl ⟨by rfl, ?_⟩) ?_ ?_
     rotate_left
     ·intro w'
      go_simp
      with_reducible rfl
     rotate_left
     ·simp only [Act.put, List.setIfInBounds_toArray, List.set_cons_zero, List.set_cons_succ, i64_w, i32_w]
      rfl
     refine pure_ (i := 17) (N := some 26) (v := ?_) (a' := ?_) #[true, true, true, true, true, true, true, true, true, true, true, true, false, true, true, true, true, true, false, false, true, false, false, false, false, false, false] rfl rfl (any_of HT_.out (by kernel_rfl)) (fun _ _ _ h => h) (Or.inl ⟨by rfl, ?_⟩) ?_ ?_
     rotate_left
     ·intro w'
      go_simp
      with_reducible rfl
     rotate_left
     ·simp only [Act.put, List.setIfInBounds_toArray, List.set_cons_zero, List.set_cons_succ, i64_w, i32_w]
      rfl
     refine take_ (i := 18) (N := some 27) (v := ?_) (a' := ?_) #[true, true, true, true, true, true, true, true, true, true, true, true, false, true, true, true, true, true, true, false, true, false, false, false, false, false, false] rfl rfl (take_ofW HT_.out HW_.out (by kernel_rfl)) (fun _ _ _ h => h) (Or.inl ⟨by rfl, ?_⟩) hHeld ?_ ?_
     rotate_left
     ·rintro w' ⟨s0, s1, s2, s3, s4, s5, s6, s7, s8, s9, s10, s11, s12, s13, s14, s15, s16, s17⟩
      go_simp
      with_reducible rfl
     rotate_left
     ·simp only [Act.put, List.setIfInBounds_toArray, List.set_cons_zero, List.set_cons_succ, i64_w, i32_w]
      rfl
     refine take_ (i := 19) (N := some 28) (v := ?_) (a' := ?_) #[true, true, true, true, true, true, true, true, true, true, true, true, false, true, true, true, true, true, true, true, true, false, false, false, false, false, false] rfl rfl (take_ofW HT_.out HW_.out (by kernel_rfl)) (fun _ _ _ h => h) (Or.inl ⟨by rfl, ?_⟩) hHeld ?_ ?_
     rotate_left
     ·rintro w' ⟨s0, s1, s2, s3, s4, s5, s6, s7, s8, s9, s10, s11, s12, s13, s14, s15, s16, s17⟩
      go_simp
      with_reducible rfl
     rotate_left
     ·simp only [Act.put, List.setIfInBounds_toArray, List.set_cons_zero, List.set_cons_succ, i64_w, i32_w]
      rfl
     refine pure_ (i := 21) (N := some 30) (v := ?_) (a' := ?_) #[true, true, true, true, true, true, true, true, true, true, true, true, false, true, true, true, true, true, true, true, true, true, false, false, false, false, false] rfl rfl (any_of HT_.out (by kernel_rfl)) (fun _ _ _ h => h) (Or.inl ⟨by rfl, ?_⟩) ?_ ?_
     rotate_left
     ·intro w'
      go_simp
      with_reducible rfl
     rotate_left
     ·simp only [Act.put, List.setIfInBounds_toArray, List.set_cons_zero, List.set_cons_succ, i64_w, i32_w]
      rfl
     refine pure_ (i := 22) (N := some 31) (v := ?_) (a' := ?_) #[true, true, true, true, true, true, true, true, true, true, true, true, false, true, true, true, true, true, true, true, true, true, true, false, false, false, false] rfl rfl (any_of HT_.out (by kernel_rfl)) (fun _ _ _ h => h) (Or.inl ⟨by rfl, ?_⟩) ?_ ?_
     rotate_left
     ·intro w'
      go_simp
      with_reducible rfl
     rotate_left
     ·simp only [Act.put, List.setIfInBounds_toArray, List.set_cons_zero, List.set_cons_succ, i64_w, i32_w]
      rfl
     refine take_ (i := 23) (N := some 32) (v := ?_) (a' := ?_) #[true, true, true, true, true, true, true, true, true, true, true, true, false, true, true, true, true, true, true, true, true, true, true, true, false, false, false] rfl rfl (take_ofW HT_.out HW_.out (by kernel_rfl)) (fun _ _ _ h => h) (Or.inl ⟨by rfl, ?_⟩) hHeld ?_ ?_
     rotate_left
     ·rintro w' ⟨s0, s1, s2, s3, s4, s5, s6, s7, s8, s9, s10, s11, s12, s13, s14, s15, s16, s17⟩
      go_simp
      with_reducible rfl
     rotate_left
     ·simp only [Act.put, List.setIfInBounds_toArray, List.set_cons_zero, List.set_cons_succ, i64_w, i32_w]
      rfl
     refine one_ (i := 12) (N := some 21) #[true, true, true, true, true, true, true, true, true, true, true, true, true, true, true, true, true, true, true, true, true, true, true, true, false, false, false] rfl rfl (one_of HT_.out (by kernel_rfl)) (by decide) (fun K hK => ?_)
     refine goes_ Try.func49 (by kernel_rfl) rfl #[.agg #[.int .i64 a3_0, .slice A3_1 l3_1.length c3_1, .slice A3_2 l3_2.length c3_2, .slice A3_3 l3_3.length c3_3], .int .i64 ((rd_T68 l4_0 a0).f0), .int .i64 ((rd_T68 l4_0 a1).f0)] (by rfl) rfl rfl la_ ?_
     with_reducible refine (impl_System_plus.calls a3_0 _ _ l3_1 _ _ l3_2 _ _ l3_3 ((rd_T68 l4_0 a0).f0) ((rd_T68 l4_0 a1).f0) t315 _ ?side1 ?side2 ?side3 ?side4 ?side5 ?side6 A11.out).mono ?_
     (case side1 => exact kc_ HR3_1.out HB.out)
     (case side2 => exact HC3_1.out)
     (case side3 => exact kc_ HR3_2.out HB.out)
     (case side4 => exact HC3_2.out)
     (case side5 => exact kc_ HR3_3.out HB.out)
     (case side6 => exact HC3_3.out)
     rintro e w15 ⟨rfl, hb⟩
     refine ⟨_, rfl, ?_⟩
     replace BK2 := sd_ (bb_ BK2.out hb)
     replace BK3 := sd_ (bb_ BK3.out hb)
     replace BK4 := sd_ (bb_ BK4.out hb)
     replace BK5 := sd_ (bb_ BK5.out hb)
     replace HB := sd_ (below_step (bw0_ HB.out) hb)
     (try clear hb)
     (try clear hb2)
     (try clear hk)
     (try clear hi)
     refine hK.out _ _ ⟨(blk_cell BK2.out 0).trans rfl, (blk_cell BK3.out 0).trans rfl, (blk_cell BK3.out 1).trans rfl, (blk_cell BK3.out 2).trans rfl, (blk_cell BK3.out 3).trans rfl, (blk_cell BK4.out 0).trans rfl, (blk_cell BK5.out 0).trans rfl, (blk_cell BK5.out 1).trans rfl, (blk_cell BK5.out 2).trans rfl, (blk_cell BK5.out 3).trans rfl, ((HB.out.cell (World.block_lt_of_cell? w _ hw313_0)).trans hw313_0), ((HB.out.cell (World.block_lt_of_cell? w _ hw313_1)).trans hw313_1), ((HB.out.cell (World.block_lt_of_cell? w _ hw314_0)).trans hw314_0), ((HB.out.cell (World.block_lt_of_cell? w _ hw314_1)).trans hw314_1), ((HB.out.cell (World.block_lt_of_cell? w _ hw316_0)).trans hw316_0), ((HB.out.cell (World.block_lt_of_cell? w _ hw316_1)).trans hw316_1), ((HB.out.cell (World.block_lt_of_cell? w _ hw317_0)).trans hw317_0), ((HB.out.cell (World.block_lt_of_cell? w _ hw317_1)).trans hw317_1)⟩ (fun hHeld => ?_)
     clear hK K
     refine norm_ (a' := ?_) ?_ ?_
     rotate_left
     ·show Act.put _ (some 21) _ = _
      simp only [Act.put, List.setIfInBounds_toArray, List.set_cons_zero, List.set_cons_succ, i64_w, i32_w]
      rfl
     refine one_ (i := 24) (N := some 33) #[true, true, true, true, true, true, true, true, true, true, true, true, true, true, true, true, true, true, true, true, true, true, true, true, true, false, false] rfl rfl (one_of HT_.out (by kernel_rfl)) (by decide) (fun K hK => ?_)
     refine goes_ Try.func49 (by kernel_rfl) rfl #[.agg #[.int .i64 a5_0, .slice A5_1 l5_1.length c5_1, .slice A5_2 l5_2.length c5_2, .slice A5_3 l5_3.length c5_3], .int .i64 ((rd_T68 l4_0 a0).f1), .int .i64 ((rd_T68 l4_0 a1).f1)] (by rfl) rfl rfl la_ ?_
     with_reducible refine (impl_System_plus.calls a5_0 _ _ l5_1 _ _ l5_2 _ _ l5_3 ((rd_T68 l4_0 a0).f1) ((rd_T68 l4_0 a1).f1) t318 _ ?side1 ?side2 ?side3 ?side4 ?side5 ?side6 A12.out).mono ?_
     (case side1 => exact kc_ HR5_1.out HB.out)
     (case side2 => exact HC5_1.out)
     (case side3 => exact kc_ HR5_2.out HB.out)
     (case side4 => exact HC5_2.out)
     (case side5 => exact kc_ HR5_3.out HB.out)
     (case side6 => exact HC5_3.out)
     rintro e w16 ⟨rfl, hb⟩
     refine ⟨_, rfl, ?_⟩
     replace BK2 := sd_ (bb_ BK2.out hb)
     replace BK3 := sd_ (bb_ BK3.out hb)
     replace BK4 := sd_ (bb_ BK4.out hb)
     replace BK5 := sd_ (bb_ BK5.out hb)
     replace HB := sd_ (below_step (bw0_ HB.out) hb)
     (try clear hb)
     (try clear hb2)
     (try clear hk)
     (try clear hi)
     refine hK.out _ _ ⟨(blk_cell BK2.out 0).trans rfl, (blk_cell BK3.out 0).trans rfl, (blk_cell BK3.out 1).trans rfl, (blk_cell BK3.out 2).trans rfl, (blk_cell BK3.out 3).trans rfl, (blk_cell BK4.out 0).trans rfl, (blk_cell BK5.out 0).trans rfl, (blk_cell BK5.out 1).trans rfl, (blk_cell BK5.out 2).trans rfl, (blk_cell BK5.out 3).trans rfl, ((HB.out.cell (World.block_lt_of_cell? w _ hw313_0)).trans hw313_0), ((HB.out.cell (World.block_lt_of_cell? w _ hw313_1)).trans hw313_1), ((HB.out.cell (World.block_lt_of_cell? w _ hw314_0)).trans hw314_0), ((HB.out.cell (World.block_lt_of_cell? w _ hw314_1)).trans hw314_1), ((HB.out.cell (World.block_lt_of_cell? w _ hw316_0)).trans hw316_0), ((HB.out.cell (World.block_lt_of_cell? w _ hw316_1)).trans hw316_1), ((HB.out.cell (World.block_lt_of_cell? w _ hw317_0)).trans hw317_0), ((HB.out.cell (World.block_lt_of_cell? w _ hw317_1)).trans hw317_1)⟩ (fun hHeld => ?_)
     clear hK K
     refine norm_ (a' := ?_) ?_ ?_
     rotate_left
     ·show Act.put _ (some 33) _ = _
      simp only [Act.put, List.setIfInBounds_toArray, List.set_cons_zero, List.set_cons_succ, i64_w, i32_w]
      rfl
     refine one_ (i := 25) (N := some 34) #[true, true, true, true, true, true, true, true, true, true, true, true, true, true, true, true, true, true, true, true, true, true, true, true, true, true, false] rfl rfl (one_of HT_.out (by kernel_rfl)) (by decide) (fun K hK => ?_)
     refine goesO_ HG2_0.out #[.int .i64 t315, .int .i64 t318] (by rfl) rfl rfl la_ rfl ?_
     with_reducible refine (HF2_0.out t315 t318 t319 _ ?side1 A13.out).mono ?_
     (case side1 => exact (bw0_ HB.out))
     rintro e w17 ⟨rfl, hb⟩
     refine ⟨_, rfl, ?_⟩
     replace BK2 := sd_ (bb_ BK2.out hb)
     replace BK3 := sd_ (bb_ BK3.out hb)
     replace BK4 := sd_ (bb_ BK4.out hb)
     replace BK5 := sd_ (bb_ BK5.out hb)
     replace HB := sd_ (below_step (bw0_ HB.out) hb)
     (try clear hb)
     (try clear hb2)
     (try clear hk)
     (try clear hi)
     refine hK.out _ _ ⟨(blk_cell BK2.out 0).trans rfl, (blk_cell BK3.out 0).trans rfl, (blk_cell BK3.out 1).trans rfl, (blk_cell BK3.out 2).trans rfl, (blk_cell BK3.out 3).trans rfl, (blk_cell BK4.out 0).trans rfl, (blk_cell BK5.out 0).trans rfl, (blk_cell BK5.out 1).trans rfl, (blk_cell BK5.out 2).trans rfl, (blk_cell BK5.out 3).trans rfl, ((HB.out.cell (World.block_lt_of_cell? w _ hw313_0)).trans hw313_0), ((HB.out.cell (World.block_lt_of_cell? w _ hw313_1)).trans hw313_1), ((HB.out.cell (World.block_lt_of_cell? w _ hw314_0)).trans hw314_0), ((HB.out.cell (World.block_lt_of_cell? w _ hw314_1)).trans hw314_1), ((HB.out.cell (World.block_lt_of_cell? w _ hw316_0)).trans hw316_0), ((HB.out.cell (World.block_lt_of_cell? w _ hw316_1)).trans hw316_1), ((HB.out.cell (World.block_lt_of_cell? w _ hw317_0)).trans hw317_0), ((HB.out.cell (World.block_lt_of_cell? w _ hw317_1)).trans hw317_1)⟩ (fun hHeld => ?_)
     clear hK K
     refine norm_ (a' := ?_) ?_ ?_
     rotate_left
     ·show Act.put _ (some 34) _ = _
      simp only [Act.put, List.setIfInBounds_toArray, List.set_cons_zero, List.set_cons_succ, i64_w, i32_w]
      rfl
     refine pure_ (i := 26) (N := some 8) (v := ?_) (a' := ?_) #[true, true, true, true, true, true, true, true, true, true, true, true, true, true, true, true, true, true, true, true, true, true, true, true, true, true, true] rfl rfl (any_of HT_.out (by kernel_rfl)) (fun _ _ _ h => h) (Or.inl ⟨by rfl, ?_⟩) ?_ ?_
     rotate_left
     ·intro w'
      go_simp
      with_reducible rfl
     rotate_left
     ·simp only [Act.put, List.setIfInBounds_toArray, List.set_cons_zero, List.set_cons_succ, i64_w, i32_w]
      rfl
     refine done_ (done_of HT_.out (by kernel_rfl)) ?_
     try go_wp2
     go_ret
     exact ⟨an_, bw0_ HB.out⟩
    rw [if_neg c10] at H
    exact absurd H (by simp)
   rw [if_neg c9] at H
   exact absurd H (by simp)
  rw [if_neg c8] at H
  exact absurd H (by simp)
 rw [if_neg c7] at H
 exact absurd H (by simp)


/-! ### laws_heldBoolS: function 58 -/
def laws_heldBoolS.l0 : Nat → List Bool → Int → Int → Option (Int)
 | 0, _, _, _ => none
 | k + 1, x0, x1, x5 => if x5 < (x0.length : Int) then (if 0 ≤ x5 then (if ((rdOf false x0 x5) != ((Int.tmod x1 3) == 0)) = true then (some (-1)) else (laws_heldBoolS.l0 k x0 (wrap64 (x1 + 1)) (wrap64 (x5 + 1)))) else (none)) else (some x1)
def laws_heldBoolS.f (k : Nat) (l0 : List Bool) (a1 : Int) : Option (Int) := laws_heldBoolS.l0 k l0 a1 0
set_option maxHeartbeats 8000000 in
set_option maxRecDepth 100000 in
theorem laws_heldBoolS.calls (k : Nat) (A0 : Option Addr) (c0 : Nat) (l0 : List Bool) (a1 : Int) (r : Int) (w : World) (hr0 : Kd.C Kd.bool w A0 l0.length l0) (hc0 : l0.length ≤ c0) (h : laws_heldBoolS.f k l0 a1 = some r) :
  Calls Try.prog 58 #[.slice A0 l0.length c0, .int .i64 a1] w fun e w' => e = .returned (.int .i64 r) ∧ Drawn0 w w' := by
 have HR0 := sd_ hr0
 have HC0 := sd_ hc0
 clear hr0 hc0
 have H : (laws_heldBoolS.l0 k l0 a1 0) = some r := h
 clear h
 have H' := sd_ H
 clear H
 go_enter Try.func58, Try.ntmps58
 go_wp2
 go_loopg [1, 5] k (fun kq v1 v5 w' => ∃ (x1_1 : Int) (x5_1 : Int), v1 = .int .i64 x1_1 ∧ v5 = .int .i64 x5_1 ∧ Aside0 (laws_heldBoolS.l0 kq l0 x1_1 x5_1 = some r) ∧ Aside0 (kq ≤ k) ∧ Drawn0 w w')
 case atStart => exact ⟨(a1), (0), sm_, sm_, H', ⟨Nat.le_refl _⟩, by repeat (first | exact Drawn0.refl _ | apply Drawn0.step)⟩
 case round =>
  clear H'
  try clear p2
  obtain ⟨x1_1, x5_1, rfl, rfl, HA, HK1, ⟨m1, rfl⟩⟩ := hrel
  cases gk with
  | zero => exact absurd HA.out (by simp [laws_heldBoolS.l0])
  | succ k1 =>
   have H := HA.out
   clear HA
   simp only [laws_heldBoolS.l0] at H
   by_cases c3 : x5_1 < (l0.length : Int)
   ·rw [if_pos c3] at H
    have c3b0 : decide (x5_1 < (l0.length : Int)) = true := decide_eq_true c3
    clear c3
    by_cases c4 : 0 ≤ x5_1
    ·rw [if_pos c4] at H
     have c4b0 : decide (0 ≤ x5_1) = true := decide_eq_true c4
     clear c4
     by_cases c5 : ((rdOf false l0 x5_1) != ((Int.tmod x1_1 3) == 0)) = true
     ·rw [if_pos c5] at H
      have c5b0 : ((rdOf false l0 x5_1) != ((Int.tmod x1_1 3) == 0)) = true := c5
      (try (have c5b1 : decide ((rdOf false l0 x5_1) = ((Int.tmod x1_1 3) == 0)) = false := by simpa using c5))
      (try (have c5b2 : ((rdOf false l0 x5_1) == ((Int.tmod x1_1 3) == 0)) = false := by simpa using c5))
      (try (have c5b3 : ¬ ((rdOf false l0 x5_1) = ((Int.tmod x1_1 3) == 0)) := by simpa using c5))
      clear c5
      obtain rfl := Option.some.inj H
      have p385 : 0 ≤ (x5_1 : Int) := dt_
      have q385 : x5_1 < (l0.length : Int) := dt_
      obtain ⟨ad385, e385, hx385_0⟩ := Kd.at_bool HR0.out x5_1 p385 q385
      cases e385
      replace p385 := eq_true p385
      replace q385 := eq_true q385
      go_wp2
      go_ret
      exact ⟨by first | rfl | (simp; done) | (simp [*]; done), by repeat (first | exact Drawn0.refl _ | apply Drawn0.step)⟩
     rw [if_neg c5] at H
     have c5b0 : ((rdOf false l0 x5_1) != ((Int.tmod x1_1 3) == 0)) = false := by simpa using c5
     (try (have c5b1 : decide ((rdOf false l0 x5_1) = ((Int.tmod x1_1 3) == 0)) = true := by simpa using c5))
     (try (have c5b2 : ((rdOf false l0 x5_1) == ((Int.tmod x1_1 3) == 0)) = true := by simpa using c5))
     clear c5
     have H' := sd_ H
     clear H
     have p385 : 0 ≤ (x5_1 : Int) := dt_
     have q385 : x5_1 < (l0.length : Int) := dt_
     obtain ⟨ad385, e385, hx385_0⟩ := Kd.at_bool HR0.out x5_1 p385 q385
     cases e385
     replace p385 := eq_true p385
     replace q385 := eq_true q385
     go_wp2
     go_roundg k1
     case measure => have := HK1.out; omega
     case rel => exact ⟨(wrap64 (x1_1 + 1)), (wrap64 (x5_1 + 1)), sm_, sm_, H', ⟨by have := HK1.out; omega⟩, by repeat (first | exact Drawn0.refl _ | apply Drawn0.step)⟩
    rw [if_neg c4] at H
    exact absurd H (by simp)
   rw [if_neg c3] at H
   have c3b0 : decide (x5_1 < (l0.length : Int)) = false := decide_eq_false c3
   clear c3
   obtain rfl := Option.some.inj H
   go_wp2
   go_ret
   exact ⟨by first | rfl | (simp; done) | (simp [*]; done), by repeat (first | exact Drawn0.refl _ | apply Drawn0.step)⟩

end Go.Proofs.Ytipfkicndjddgaa.P
end
