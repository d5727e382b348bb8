-- Several texts in one (wip/tools/merge.py).
import Derived.Test.YtcdmnofomoadlaaM1
import Derived.Test.YtcdmnofomoadlaaM2
import Derived.Laws.EntriesVeiled
section
namespace Go.Proofs.Ytcdmnofomoadlaa.P
open Go.RowKit Go.Proofs.YtcdmnofomoadlaaW.PrintWords Go.Proofs.YtcdmnofomoadlaaW.PrintLast Go.Proofs.YtcdmnofomoadlaaW.PrintMore
attribute [local go_sem] max2_int min2_int max_two min_two max_three min_three max_four min_four   -- for this text's walks alone
set_option linter.unusedVariables false
set_option linter.unusedSimpArgs false

/-! ### impl_ProductSystem_2: function 66 -/
def impl_ProductSystem_2.f (a0 : Int) (a1 : Int) (x2_0 : (Int → Int → Option (Int))) (a3_0 : Int) (l3_1 : List Int) (l3_2 : List Int) (l3_3 : List Bool) (l4_0 : List (S71)) (a5_0 : Int) (l5_1 : List Int) (l5_2 : List Int) (l5_3 : List Bool) : Option (Int) := if 0 ≤ a0 then (if a0 < (l4_0.length : Int) then (if 0 ≤ a1 then (if a1 < (l4_0.length : Int) then ((impl_System_plus.f a3_0 l3_1 l3_2 l3_3 ((rd_T71 l4_0 a0).f0) ((rd_T71 l4_0 a1).f0)).bind fun t249 => ((impl_System_plus.f a5_0 l5_1 l5_2 l5_3 ((rd_T71 l4_0 a0).f1) ((rd_T71 l4_0 a1).f1)).bind fun t252 => ((x2_0 t249 t252).bind fun t253 => (some t253)))) else (none)) else (none)) else (none)) else (none)
def impl_ProductSystem_2.T1 : Bool × List (List Nat × List Nat) := (true, [([], []), ([], []), ([], []), ([], []), ([2, 3], [2, 3]), ([4], [4]), ([5], [5]), ([], []), ([], []), ([7, 8], [7, 8]), ([9], [9]), ([10], [10]), ([1, 6, 11], [1, 6, 11]), ([], []), ([], []), ([], []), ([14, 15], [14, 15]), ([16], [16]), ([17], [17]), ([], []), ([], []), ([19, 20], [19, 20]), ([21], [21]), ([22], [22]), ([13, 18, 23, 12], [13, 18, 23]), ([0, 12, 24, 24], [0, 12, 24]), ([25, 25, 0, 1, 2, 3, 4, 5, 6, 7, 8, 9, 10, 11, 12, 13, 14, 15, 16, 17, 18, 19, 20, 21, 22, 23, 24, 25], [25])])
def impl_ProductSystem_2.B1 : List Nat := [0, 0, 0, 0, 12, 28, 60, 0, 0, 384, 896, 1920, 4094, 0, 0, 0, 49152, 114688, 245760, 0, 0, 1572864, 3670016, 7864320, 16777214, 33554431, 67108863]
theorem impl_ProductSystem_2.tab1 : rtab .any (opsOf Try.f66 1) = impl_ProductSystem_2.T1 := by kernel_rfl
theorem impl_ProductSystem_2.bits1 : waitsOk impl_ProductSystem_2.T1.2 impl_ProductSystem_2.B1 = true := by kernel_rfl
set_option maxHeartbeats 8000000 in
set_option maxRecDepth 100000 in
theorem impl_ProductSystem_2.calls (a0 : Int) (a1 : Int) (g2 : Nat) (x2_0 : (Int → Int → Option (Int))) (K2_0_ : Nat) (F2_0_ C2_0_ : Array Value) (g3 : Nat) (a3_0 : Int) (A3_1 : Option Addr) (c3_1 : Nat) (l3_1 : List Int) (A3_2 : Option Addr) (c3_2 : Nat) (l3_2 : List Int) (A3_3 : Option Addr) (c3_3 : Nat) (l3_3 : List Bool) (g4 : Nat) (A4_0 : Option Addr) (c4_0 : Nat) (l4_0 : List (S71)) (g5 : Nat) (a5_0 : Int) (A5_1 : Option Addr) (c5_1 : Nat) (l5_1 : List Int) (A5_2 : Option Addr) (c5_2 : Nat) (l5_2 : List Int) (A5_3 : Option Addr) (c5_3 : Nat) (l5_3 : List Bool) (r : Int) (w : World) (hG2_0 : OFn K2_0_) (hF2_0 : OC67 w x2_0 K2_0_ F2_0_ C2_0_) (hb2 : w.heap[g2]? = some (.cells #[.func (.func K2_0_) F2_0_ C2_0_] 67 (0, 0))) (hr3_1 : Kd.C (Kd.int .i64) w A3_1 l3_1.length l3_1) (hc3_1 : l3_1.length ≤ c3_1) (hr3_2 : Kd.C (Kd.int .i64) w A3_2 l3_2.length l3_2) (hc3_2 : l3_2.length ≤ c3_2) (hr3_3 : Kd.C Kd.bool w A3_3 l3_3.length l3_3) (hc3_3 : l3_3.length ≤ c3_3) (hb3 : w.heap[g3]? = some (.cells #[.int .i64 a3_0, .slice A3_1 l3_1.length c3_1, .slice A3_2 l3_2.length c3_2, .slice A3_3 l3_3.length c3_3] 27 (0, 0))) (hr4_0 : Kd.C k71 w A4_0 l4_0.length l4_0) (hc4_0 : l4_0.length ≤ c4_0) (hb4 : w.heap[g4]? = some (.cells #[.slice A4_0 l4_0.length c4_0] 68 (0, 0))) (hr5_1 : Kd.C (Kd.int .i64) w A5_1 l5_1.length l5_1) (hc5_1 : l5_1.length ≤ c5_1) (hr5_2 : Kd.C (Kd.int .i64) w A5_2 l5_2.length l5_2) (hc5_2 : l5_2.length ≤ c5_2) (hr5_3 : Kd.C Kd.bool w A5_3 l5_3.length l5_3) (hc5_3 : l5_3.length ≤ c5_3) (hb5 : w.heap[g5]? = some (.cells #[.int .i64 a5_0, .slice A5_1 l5_1.length c5_1, .slice A5_2 l5_2.length c5_2, .slice A5_3 l5_3.length c5_3] 27 (0, 0))) (h : impl_ProductSystem_2.f a0 a1 x2_0 a3_0 l3_1 l3_2 l3_3 l4_0 a5_0 l5_1 l5_2 l5_3 = some r) :
  Calls Try.prog 66 #[.int .i64 a0, .int .i64 a1, .pointer (some ⟨g2, 0, none⟩), .pointer (some ⟨g3, 0, none⟩), .pointer (some ⟨g4, 0, none⟩), .pointer (some ⟨g5, 0, none⟩)] w fun e w' => e = .returned (.int .i64 r) ∧ Below w.heap.size w w' := by
 have hu27 := Try.underlying27
 have HG2_0 := sd_ hG2_0
 have HF2_0 := sd_ hF2_0
 clear hG2_0 hF2_0
 have HR3_1 := sd_ hr3_1
 have HC3_1 := sd_ hc3_1
 clear hr3_1 hc3_1
 have HR3_2 := sd_ hr3_2
 have HC3_2 := sd_ hc3_2
 clear hr3_2 hc3_2
 have HR3_3 := sd_ hr3_3
 have HC3_3 := sd_ hc3_3
 clear hr3_3 hc3_3
 have HR4_0 := sd_ hr4_0
 have HC4_0 := sd_ hc4_0
 clear hr4_0 hc4_0
 have HR5_1 := sd_ hr5_1
 have HC5_1 := sd_ hc5_1
 clear hr5_1 hc5_1
 have HR5_2 := sd_ hr5_2
 have HC5_2 := sd_ hc5_2
 clear hr5_2 hc5_2
 have HR5_3 := sd_ hr5_3
 have HC5_3 := sd_ hc5_3
 clear hr5_3 hc5_3
 have BK2 := sd_ hb2
 clear hb2
 have BK3 := sd_ hb3
 clear hb3
 have BK4 := sd_ hb4
 clear hb4
 have BK5 := sd_ hb5
 clear hb5
 have HB := sd_ (Below.refl w.heap.size w)
 have H : (if 0 ≤ a0 then (if a0 < (l4_0.length : Int) then (if 0 ≤ a1 then (if a1 < (l4_0.length : Int) then ((impl_System_plus.f a3_0 l3_1 l3_2 l3_3 ((rd_T71 l4_0 a0).f0) ((rd_T71 l4_0 a1).f0)).bind fun t249 => ((impl_System_plus.f a5_0 l5_1 l5_2 l5_3 ((rd_T71 l4_0 a0).f1) ((rd_T71 l4_0 a1).f1)).bind fun t252 => ((x2_0 t249 t252).bind fun t253 => (some t253)))) else (none)) else (none)) else (none)) else (none)) = some r := h
 clear h
 by_cases c7 : 0 ≤ a0
 ·rw [if_pos c7] at H
  have c7b0 : decide (0 ≤ a0) = true := decide_eq_true c7
  clear c7
  by_cases c8 : a0 < (l4_0.length : Int)
  ·rw [if_pos c8] at H
   have c8b0 : decide (a0 < (l4_0.length : Int)) = true := decide_eq_true c8
   clear c8
   by_cases c9 : 0 ≤ a1
   ·rw [if_pos c9] at H
    have c9b0 : decide (0 ≤ a1) = true := decide_eq_true c9
    clear c9
    by_cases c10 : a1 < (l4_0.length : Int)
    ·rw [if_pos c10] at H
     have c10b0 : decide (a1 < (l4_0.length : Int)) = true := decide_eq_true c10
     clear c10
     replace H := Option.bind_eq_some_iff.mp H
     obtain ⟨t249, A110, H⟩ := H
     try dsimp only at H
     have A11 := sd_ A110
     clear A110
     replace H := Option.bind_eq_some_iff.mp H
     obtain ⟨t252, A120, H⟩ := H
     try dsimp only at H
     have A12 := sd_ A120
     clear A120
     replace H := Option.bind_eq_some_iff.mp H
     obtain ⟨t253, A130, H⟩ := H
     try dsimp only at H
     have A13 := sd_ A130
     clear A130
     obtain rfl := Option.some.inj H
     go_enter Try.func66, Try.ntmps66
     try go_wp2
     replace BK2 := sd_ (blk_drew BK2.out)
     replace BK3 := sd_ (blk_drew BK3.out)
     replace BK4 := sd_ (blk_drew BK4.out)
     replace BK5 := sd_ (blk_drew BK5.out)
     replace HB := sd_ (below_drew1 HB.out)
     have p247 : 0 ≤ (a0 : Int) := dt_
     have q247 : a0 < (l4_0.length : Int) := dt_
     obtain ⟨ad247, e247, hx247_0, hx247_1⟩ := at_T71 HR4_0.out a0 p247 q247
     have hw247_1 := hx247_1
     have hw247_0 := hx247_0
     cases e247
     replace hx247_0 := (HB.out.cell (World.block_lt_of_cell? w _ hx247_0)).trans hx247_0
     replace hx247_1 := (HB.out.cell (World.block_lt_of_cell? w _ hx247_1)).trans hx247_1
     replace p247 := eq_true p247
     replace q247 := eq_true q247
     have p248 : 0 ≤ (a1 : Int) := dt_
     have q248 : a1 < (l4_0.length : Int) := dt_
     obtain ⟨ad248, e248, hx248_0, hx248_1⟩ := at_T71 HR4_0.out a1 p248 q248
     have hw248_1 := hx248_1
     have hw248_0 := hx248_0
     obtain rfl : ad247 = ad248 := (by injection e248)
     replace hx248_0 := (HB.out.cell (World.block_lt_of_cell? w _ hx248_0)).trans hx248_0
     replace hx248_1 := (HB.out.cell (World.block_lt_of_cell? w _ hx248_1)).trans hx248_1
     replace p248 := eq_true p248
     replace q248 := eq_true q248
     have p250 : 0 ≤ (a0 : Int) := dt_
     have q250 : a0 < (l4_0.length : Int) := dt_
     obtain ⟨ad250, e250, hx250_0, hx250_1⟩ := at_T71 HR4_0.out a0 p250 q250
     have hw250_1 := hx250_1
     have hw250_0 := hx250_0
     obtain rfl : ad247 = ad250 := (by injection e250)
     replace hx250_0 := (HB.out.cell (World.block_lt_of_cell? w _ hx250_0)).trans hx250_0
     replace hx250_1 := (HB.out.cell (World.block_lt_of_cell? w _ hx250_1)).trans hx250_1
     replace p250 := eq_true p250
     replace q250 := eq_true q250
     have p251 : 0 ≤ (a1 : Int) := dt_
     have q251 : a1 < (l4_0.length : Int) := dt_
     obtain ⟨ad251, e251, hx251_0, hx251_1⟩ := at_T71 HR4_0.out a1 p251 q251
     have hw251_1 := hx251_1
     have hw251_0 := hx251_0
     obtain rfl : ad247 = ad251 := (by injection e251)
     replace hx251_0 := (HB.out.cell (World.block_lt_of_cell? w _ hx251_0)).trans hx251_0
     replace hx251_1 := (HB.out.cell (World.block_lt_of_cell? w _ hx251_1)).trans hx251_1
     replace p251 := eq_true p251
     replace q251 := eq_true q251
     refine start_ (n := 27) (S := fun w' => w'.cell? ⟨g2, 0, none⟩ = some (.func (.func K2_0_) F2_0_ C2_0_) ∧ w'.cell? ⟨g3, 0, none⟩ = some (.int .i64 a3_0) ∧ w'.cell? ⟨g3, 1, none⟩ = some (.slice A3_1 l3_1.length c3_1) ∧ w'.cell? ⟨g3, 2, none⟩ = some (.slice A3_2 l3_2.length c3_2) ∧ w'.cell? ⟨g3, 3, none⟩ = some (.slice A3_3 l3_3.length c3_3) ∧ w'.cell? ⟨g4, 0, none⟩ = some (.slice (some ad247) l4_0.length c4_0) ∧ w'.cell? ⟨g5, 0, none⟩ = some (.int .i64 a5_0) ∧ w'.cell? ⟨g5, 1, none⟩ = some (.slice A5_1 l5_1.length c5_1) ∧ w'.cell? ⟨g5, 2, none⟩ = some (.slice A5_2 l5_2.length c5_2) ∧ w'.cell? ⟨g5, 3, none⟩ = some (.slice A5_3 l5_3.length c5_3) ∧ w'.cell? (ad247.add ((a0).toNat * 2)) = some (.int .i64 ((rd_T71 l4_0 a0).f0)) ∧ w'.cell? ⟨(ad247.add ((a0).toNat * 2)).block, (ad247.add ((a0).toNat * 2)).off + 1, none⟩ = some (.int .i64 ((rd_T71 l4_0 a0).f1)) ∧ w'.cell? (ad247.add ((a1).toNat * 2)) = some (.int .i64 ((rd_T71 l4_0 a1).f0)) ∧ w'.cell? ⟨(ad247.add ((a1).toNat * 2)).block, (ad247.add ((a1).toNat * 2)).off + 1, none⟩ = some (.int .i64 ((rd_T71 l4_0 a1).f1)) ∧ w'.cell? (ad247.add ((a0).toNat * 2)) = some (.int .i64 ((rd_T71 l4_0 a0).f0)) ∧ w'.cell? ⟨(ad247.add ((a0).toNat * 2)).block, (ad247.add ((a0).toNat * 2)).off + 1, none⟩ = some (.int .i64 ((rd_T71 l4_0 a0).f1)) ∧ w'.cell? (ad247.add ((a1).toNat * 2)) = some (.int .i64 ((rd_T71 l4_0 a1).f0)) ∧ w'.cell? ⟨(ad247.add ((a1).toNat * 2)).block, (ad247.add ((a1).toNat * 2)).off + 1, none⟩ = some (.int .i64 ((rd_T71 l4_0 a1).f1))) (ds := []) #[false, false, false, false, false, false, false, false, false, false, false, false, false, false, false, false, false, false, false, false, false, false, false, false, false, false, false] (by kernel_rfl) rfl rfl ⟨(blk_cell BK2.out 0).trans rfl, (blk_cell BK3.out 0).trans rfl, (blk_cell BK3.out 1).trans rfl, (blk_cell BK3.out 2).trans rfl, (blk_cell BK3.out 3).trans rfl, (blk_cell BK4.out 0).trans rfl, (blk_cell BK5.out 0).trans rfl, (blk_cell BK5.out 1).trans rfl, (blk_cell BK5.out 2).trans rfl, (blk_cell BK5.out 3).trans rfl, ((HB.out.cell (World.block_lt_of_cell? w _ hw247_0)).trans hw247_0), ((HB.out.cell (World.block_lt_of_cell? w _ hw247_1)).trans hw247_1), ((HB.out.cell (World.block_lt_of_cell? w _ hw248_0)).trans hw248_0), ((HB.out.cell (World.block_lt_of_cell? w _ hw248_1)).trans hw248_1), ((HB.out.cell (World.block_lt_of_cell? w _ hw250_0)).trans hw250_0), ((HB.out.cell (World.block_lt_of_cell? w _ hw250_1)).trans hw250_1), ((HB.out.cell (World.block_lt_of_cell? w _ hw251_0)).trans hw251_0), ((HB.out.cell (World.block_lt_of_cell? w _ hw251_1)).trans hw251_1)⟩ (fun hHeld => ?_); refine with_tabW impl_ProductSystem_2.tab1 impl_ProductSystem_2.bits1 (fun HT_ HW_ => ?_)
     generalize w.drew = w14 at BK2 BK3 BK4 BK5 HB hx247_0 hx247_1 hx248_0 hx248_1 hx250_0 hx250_1 hx251_0 hx251_1 hHeld ⊢
     refine pure_ (i := 3) (N := some 12) (v := ?_) (a' := ?_) #[false, false, false, true, false, false, false, false, false, false, false, false, false, false, false, false, false, false, false, false, false, false, false, false, false, false, false] rfl rfl (any_of HT_.out (by kernel_rfl)) (fun _ _ _ h => h) (Or.inl ⟨by rfl, ?_⟩) ?_ ?_
     rotate_left
     ·intro w'
      go_simp
      with_reducible rfl
     rotate_left
     ·simp only [Act.put, List.setIfInBounds_toArray, List.set_cons_zero, List.set_cons_succ, i64_w, i32_w]
      rfl
     refine pure_ (i := 8) (N := some 17) (v := ?_) (a' := ?_) #[false, false, false, true, false, false, false, false, true, false, false, false, false, false, false, false, false, false, false, false, false, false, false, false, false, false, false] rfl rfl (any_of HT_.out (by kernel_rfl)) (fun _ _ _ h => h) (Or.inl ⟨by rfl, ?_⟩) ?_ ?_
     rotate_left
     ·intro w'
      go_simp
      with_reducible rfl
     rotate_left
     ·simp only [Act.put, List.setIfInBounds_toArray, List.set_cons_zero, List.set_cons_succ, i64_w, i32_w]
      rfl
     refine pure_ (i := 15) (N := some 24) (v := ?_) (a' := ?_) #[false, false, false, true, false, false, false, false, true, false, false, false, false, false, false, true, false, false, false, false, false, false, false, false, false, false, false] rfl rfl (any_of HT_.out (by kernel_rfl)) (fun _ _ _ h => h) (Or.inl ⟨by rfl, ?_⟩) ?_ ?_
     rotate_left
     ·intro w'
      go_simp
      with_reducible rfl
     rotate_left
     ·simp only [Act.put, List.setIfInBounds_toArray, List.set_cons_zero, List.set_cons_succ, i64_w, i32_w]
      rfl
     refine pure_ (i := 20) (N := some 29) (v := ?_) (a' := ?_) #[false, false, false, true, false, false, false, false, true, false, false, false, false, false, false, true, false, false, false, false, true, false, false, false, false, false, false] rfl rfl (any_of HT_.out (by kernel_rfl)) (fun _ _ _ h => h) (Or.inl ⟨by rfl, ?_⟩) ?_ ?_
     rotate_left
     ·intro w'
      go_simp
      with_reducible rfl
     rotate_left
     ·simp only [Act.put, List.setIfInBounds_toArray, List.set_cons_zero, List.set_cons_succ, i64_w, i32_w]
      rfl
     refine take_ (i := 0) (N := some 9) (v := ?_) (a' := ?_) #[true, false, false, true, false, false, false, false, true, false, false, false, false, false, false, true, false, false, false, false, true, false, false, false, false, false, false] rfl rfl (take_ofW HT_.out HW_.out (by kernel_rfl)) (fun _ _ _ h => h) (Or.inl ⟨by rfl, ?_⟩) hHeld ?_ ?_
     rotate_left
     ·rintro w' ⟨s0, s1, s2, s3, s4, s5, s6, s7, s8, s9, s10, s11, s12, s13, s14, s15, s16, s17⟩
      go_simp
      with_reducible rfl
     rotate_left
     ·simp only [Act.put, List.setIfInBounds_toArray, List.set_cons_zero, List.set_cons_succ, i64_w, i32_w]
      rfl
     refine take_ (i := 1) (N := some 10) (v := ?_) (a' := ?_) #[true, true, false, true, false, false, false, false, true, false, false, false, false, false, false, true, false, false, false, false, true, false, false, false, false, false, false] rfl rfl (take_ofW HT_.out HW_.out (by kernel_rfl)) (fun _ _ _ h => h) (Or.inl ⟨by rfl, ?_⟩) hHeld ?_ ?_
     rotate_left
     ·rintro w' ⟨s0, s1, s2, s3, s4, s5, s6, s7, s8, s9, s10, s11, s12, s13, s14, s15, s16, s17⟩
      go_simp
      with_reducible rfl
     rotate_left
     ·simp only [Act.put, List.setIfInBounds_toArray, List.set_cons_zero, List.set_cons_succ, i64_w, i32_w]
      rfl
     refine take_ (i := 2) (N := some 11) (v := ?_) (a' := ?_) #[true, true, true, true, false, false, false, false, true, false, false, false, false, false, false, true, false, false, false, false, true, false, false, false, false, false, false] rfl rfl (take_ofW HT_.out HW_.out (by kernel_rfl)) (fun _ _ _ h => h) (Or.inl ⟨by rfl, ?_⟩) hHeld ?_ ?_
     rotate_left
     ·rintro w' ⟨s0, s1, s2, s3, s4, s5, s6, s7, s8, s9, s10, s11, s12, s13, s14, s15, s16, s17⟩
      go_simp
      with_reducible rfl
     rotate_left
     ·simp only [Act.put, List.setIfInBounds_toArray, List.set_cons_zero, List.set_cons_succ, i64_w, i32_w]
      rfl
     refine pure_ (i := 4) (N := some 13) (v := ?_) (a' := ?_) #[true, true, true, true, true, false, false, false, true, false, false, false, false, false, false, true, false, false, false, false, true, false, false, false, false, false, false] rfl rfl (any_of HT_.out (by kernel_rfl)) (fun _ _ _ h => h) (Or.inl ⟨by rfl, ?_⟩) ?_ ?_
     rotate_left
     ·intro w'
      go_simp
      with_reducible rfl
     rotate_left
     ·simp only [Act.put, List.setIfInBounds_toArray, List.set_cons_zero, List.set_cons_succ, i64_w, i32_w]
      rfl
     refine pure_ (i := 5) (N := some 14) (v := ?_) (a' := ?_) #[true, true, true, true, true, true, false, false, true, false, false, false, false, false, false, true, false, false, false, false, true, false, false, false, false, false, false] rfl rfl (any_of HT_.out (by kernel_rfl)) (fun _ _ _ h => h) (Or.inl ⟨by rfl, ?_⟩) ?_ ?_
     rotate_left
     ·intro w'
      go_simp
      with_reducible rfl
     rotate_left
     ·simp only [Act.put, List.setIfInBounds_toArray, List.set_cons_zero, List.set_cons_succ, i64_w, i32_w]
      rfl
     refine take_ (i := 6) (N := some 15) (v := ?_) (a' := ?_) #[true, true, true, true, true, true, true, false, true, false, false, false, false, false, false, true, false, false, false, false, true, false, false, false, false, false, false] rfl rfl (take_ofW HT_.out HW_.out (by kernel_rfl)) (fun _ _ _ h => h) (Or.inl ⟨by rfl, ?_⟩) hHeld ?_ ?_
     rotate_left
     ·rintro w' ⟨s0, s1, s2, s3, s4, s5, s6, s7, s8, s9, s10, s11, s12, s13, s14, s15, s16, s17⟩
      go_simp
      with_reducible rfl
     rotate_left
     ·simp only [Act.put, List.setIfInBounds_toArray, List.set_cons_zero, List.set_cons_succ, i64_w, i32_w]
      rfl
     refine take_ (i := 7) (N := some 16) (v := ?_) (a' := ?_) #[true, true, true, true, true, true, true, true, true, false, false, false, false, false, false, true, false, false, false, false, true, false, false, false, false, false, false] rfl rfl (take_ofW HT_.out HW_.out (by kernel_rfl)) (fun _ _ _ h => h) (Or.inl ⟨by rfl, ?_⟩) hHeld ?_ ?_
     rotate_left
     ·rintro w' ⟨s0, s1, s2, s3, s4, s5, s6, s7, s8, s9, s10, s11, s12, s13, s14, s15, s16, s17⟩
      go_simp
      with_reducible rfl
     rotate_left
     ·simp only [Act.put, List.setIfInBounds_toArray, List.set_cons_zero, List.set_cons_succ, i64_w, i32_w]
      rfl
     refine pure_ (i := 9) (N := some 18) (v := ?_) (a' := ?_) #[true, true, true, true, true, true, true, true, true, true, false, false, false, false, false, true, false, false, false, false, true, false, false, false, false, false, false] rfl rfl (any_of HT_.out (by kernel_rfl)) (fun _ _ _ h => h) (Or.inl ⟨by rfl, ?_⟩) ?_ ?_
     rotate_left
     ·intro w'
      go_simp
      with_reducible rfl
     rotate_left
     ·simp only [Act.put, List.setIfInBounds_toArray, List.set_cons_zero, List.set_cons_succ, i64_w, i32_w]
      rfl
     refine pure_ (i := 10) (N := some 19) (v := ?_) (a' := ?_) #[true, true, true, true, true, true, true, true, true, true, true, false, false, false, false, true, false, false, false, false, true, false, false, false, false, false, false] rfl rfl (any_of HT_.out (by kernel_rfl)) (fun _ _ _ h => h) (Or.inl ⟨by rfl, ?_⟩) ?_ ?_
     rotate_left
     ·intro w'
      go_simp
      with_reducible rfl
     rotate_left
     ·simp only [Act.put, List.setIfInBounds_toArray, List.set_cons_zero, List.set_cons_succ, i64_w, i32_w]
      rfl
     refine take_ (i := 11) (N := some 20) (v := ?_) (a' := ?_) #[true, true, true, true, true, true, true, true, true, true, true, true, false, false, false, true, false, false, false, false, true, false, false, false, false, false, false] rfl rfl (take_ofW HT_.out HW_.out (by kernel_rfl)) (fun _ _ _ h => h) (Or.inl ⟨by rfl, ?_⟩) hHeld ?_ ?_
     rotate_left
     ·rintro w' ⟨s0, s1, s2, s3, s4, s5, s6, s7, s8, s9, s10, s11, s12, s13, s14, s15, s16, s17⟩
      go_simp
      with_reducible rfl
     rotate_left
     ·simp only [Act.put, List.setIfInBounds_toArray, List.set_cons_zero, List.set_cons_succ, i64_w, i32_w]
      rfl
     refine take_ (i := 13) (N := some 22) (v := ?_) (a' := ?_) #[true, true, true, true, true, true, true, true, true, true, true, true, false, true, false, true, false, false, false, false, true, false, false, false, false, false, false] rfl rfl (take_ofW HT_.out HW_.out (by kernel_rfl)) (fun _ _ _ h => h) (Or.inl ⟨by rfl, ?_⟩) hHeld ?_ ?_
     rotate_left
     ·rintro w' ⟨s0, s1, s2, s3, s4, s5, s6, s7, s8, s9, s10, s11, s12, s13, s14, s15, s16, s17⟩
      go_simp
      with_reducible rfl
     rotate_left
     ·simp only [Act.put, List.setIfInBounds_toArray, List.set_cons_zero, List.set_cons_succ, i64_w, i32_w]
      rfl
     refine take_ (i := 14) (N := some 23) (v := ?_) (a' := ?_) #[true, true, true, true, true, true, true, true, true, true, true, true, false, true, true, true, false, false, false, false, true, false, false, false, false, false, false] rfl rfl (take_ofW HT_.out HW_.out (by kernel_rfl)) (fun _ _ _ h => h) (Or.inl ⟨by rfl, ?_⟩) hHeld ?_ ?_
     rotate_left
     ·rintro w' ⟨s0, s1, s2, s3, s4, s5, s6, s7, s8, s9, s10, s11, s12, s13, s14, s15, s16, s17⟩
      go_simp
      with_reducible rfl
     rotate_left
     ·simp only [Act.put, List.setIfInBounds_toArray, List.set_cons_zero, List.set_cons_succ, i64_w, i32_w]
      rfl
     refine pure_ (i := 16) (N := some 25) (v := ?_) (a' := ?_) #[true, true, true, true, true, true, true, true, true, true, true, true, false, true, true, true, true, false, false, false, true, false, false, false, false, false, false] rfl rfl (any_of HT_.out (by kernel_rfl)) (fun _ _ _ h => h) (Or.inl ⟨by rfl, ?_⟩) ?_ ?_
     rotate_left
     ·intro w'
      go_simp
      with_reducible rfl
     rotate_left
     ·simp only [Act.put, List.setIfInBounds_toArray, List.set_cons_zero, List.set_cons_succ, i64_w, i32_w]
      rfl
     refine pure_ (i := 17) (N := some 26) (v := ?_) (a' := ?_) #[true, true, true, true, true, true, true, true, true, true, true, true, false, true, true, true, true, true, false, false, true, false, false, false, false, false, false] rfl rfl (any_of HT_.out (by kernel_rfl)) (fun _ _ _ h => h) (Or.inl ⟨by rfl, ?_⟩) ?_ ?_
     rotate_left
     ·intro w'
      go_simp
      with_reducible rfl
     rotate_left
     ·simp only [Act.put, List.setIfInBounds_toArray, List.set_cons_zero, List.set_cons_succ, i64_w, i32_w]
      rfl
     refine take_ (i := 18) (N := some 27) (v := ?_) (a' := ?_) #[true, true, true, true, true, true, true, true, true, true, true, true, false, true, true, true, true, true, true, false, true, false, false, false, false, false, false] rfl rfl (take_ofW HT_.out HW_.out (by kernel_rfl)) (fun _ _ _ h => h) (Or.inl ⟨by rfl, ?_⟩) hHeld ?_ ?_
     rotate_left
     ·rintro w' ⟨s0, s1, s2, s3, s4, s5, s6, s7, s8, s9, s10, s11, s12, s13, s14, s15, s16, s17⟩
      go_simp
      with_reducible rfl
     rotate_left
     ·simp only [Act.put, List.setIfInBounds_toArray, List.set_cons_zero, List.set_cons_succ, i64_w, i32_w]
      rfl
     refine take_ (i := 19) (N := some 28) (v := ?_) (a' := ?_) #[true, true, true, true, true, true, true, true, true, true, true, true, false, true, true, true, true, true, true, true, true, false, false, false, false, false, false] rfl rfl (take_ofW HT_.out HW_.out (by kernel_rfl)) (fun _ _ _ h => h) (Or.inl ⟨by rfl, ?_⟩) hHeld ?_ ?_
     rotate_left
     ·rintro w' ⟨s0, s1, s2, s3, s4, s5, s6, s7, s8, s9, s10, s11, s12, s13, s14, s15, s16, s17⟩
      go_simp
      with_reducible rfl
     rotate_left
     ·simp only [Act.put, List.setIfInBounds_toArray, List.set_cons_zero, List.set_cons_succ, i64_w, i32_w]
      rfl
     refine pure_ (i := 21) (N := some 30) (v := ?_) (a' := ?_) #[true, true, true, true, true, true, true, true, true, true, true, true, false, true, true, true, true, true, true, true, true, true, false, false, false, false, false] rfl rfl (any_of HT_.out (by kernel_rfl)) (fun _ _ _ h => h) (Or.inl ⟨by rfl, ?_⟩) ?_ ?_
     rotate_left
     ·intro w'
      go_simp
      with_reducible rfl
     rotate_left
     ·simp only [Act.put, List.setIfInBounds_toArray, List.set_cons_zero, List.set_cons_succ, i64_w, i32_w]
      rfl
     refine pure_ (i := 22) (N := some 31) (v := ?_) (a' := ?_) #[true, true, true, true, true, true, true, true, true, true, true, true, false, true, true, true, true, true, true, true, true, true, true, false, false, false, false] rfl rfl (any_of HT_.out (by kernel_rfl)) (fun _ _ _ h => h) (Or.inl ⟨by rfl, ?_⟩) ?_ ?_
     rotate_left
     ·intro w'
      go_simp
      with_reducible rfl
     rotate_left
     ·simp only [Act.put, List.setIfInBounds_toArray, List.set_cons_zero, List.set_cons_succ, i64_w, i32_w]
      rfl
     refine take_ (i := 23) (N := some 32) (v := ?_) (a' := ?_) #[true, true, true, true, true, true, true, true, true, true, true, true, false, true, true, true, true, true, true, true, true, true, true, true, false, false, false] rfl rfl (take_ofW HT_.out HW_.out (by kernel_rfl)) (fun _ _ _ h => h) (Or.inl ⟨by rfl, ?_⟩) hHeld ?_ ?_
     rotate_left
     ·rintro w' ⟨s0, s1, s2, s3, s4, s5, s6, s7, s8, s9, s10, s11, s12, s13, s14, s15, s16, s17⟩
      go_simp
      with_reducible rfl
     rotate_left
     ·simp only [Act.put, List.setIfInBounds_toArray, List.set_cons_zero, List.set_cons_succ, i64_w, i32_w]
      rfl
     refine one_ (i := 12) (N := some 21) #[true, true, true, true, true, true, true, true, true, true, true, true, true, true, true, true, true, true, true, true, true, true, true, true, false, false, false] rfl rfl (one_of HT_.out (by kernel_rfl)) (by decide) (fun K hK => ?_)
     refine goes_ Try.func67 (by kernel_rfl) rfl #[.agg #[.int .i64 a3_0, .slice A3_1 l3_1.length c3_1, .slice A3_2 l3_2.length c3_2, .slice A3_3 l3_3.length c3_3], .int .i64 ((rd_T71 l4_0 a0).f0), .int .i64 ((rd_T71 l4_0 a1).f0)] (by rfl) rfl rfl la_ ?_
     with_reducible refine (impl_System_plus.calls a3_0 _ _ l3_1 _ _ l3_2 _ _ l3_3 ((rd_T71 l4_0 a0).f0) ((rd_T71 l4_0 a1).f0) t249 _ ?side1 ?side2 ?side3 ?side4 ?side5 ?side6 A11.out).mono ?_
     (case side1 => exact kc_ HR3_1.out HB.out)
     (case side2 => exact HC3_1.out)
     (case side3 => exact kc_ HR3_2.out HB.out)
     (case side4 => exact HC3_2.out)
     (case side5 => exact kc_ HR3_3.out HB.out)
     (case side6 => exact HC3_3.out)
     rintro e w15 ⟨rfl, hb⟩
     refine ⟨_, rfl, ?_⟩
     replace BK2 := sd_ (bb_ BK2.out hb)
     replace BK3 := sd_ (bb_ BK3.out hb)
     replace BK4 := sd_ (bb_ BK4.out hb)
     replace BK5 := sd_ (bb_ BK5.out hb)
     replace HB := sd_ (below_step (bw0_ HB.out) hb)
     (try clear hb)
     (try clear hb2)
     (try clear hk)
     (try clear hi)
     refine hK.out _ _ ⟨(blk_cell BK2.out 0).trans rfl, (blk_cell BK3.out 0).trans rfl, (blk_cell BK3.out 1).trans rfl, (blk_cell BK3.out 2).trans rfl, (blk_cell BK3.out 3).trans rfl, (blk_cell BK4.out 0).trans rfl, (blk_cell BK5.out 0).trans rfl, (blk_cell BK5.out 1).trans rfl, (blk_cell BK5.out 2).trans rfl, (blk_cell BK5.out 3).trans rfl, ((HB.out.cell (World.block_lt_of_cell? w _ hw247_0)).trans hw247_0), ((HB.out.cell (World.block_lt_of_cell? w _ hw247_1)).trans hw247_1), ((HB.out.cell (World.block_lt_of_cell? w _ hw248_0)).trans hw248_0), ((HB.out.cell (World.block_lt_of_cell? w _ hw248_1)).trans hw248_1), ((HB.out.cell (World.block_lt_of_cell? w _ hw250_0)).trans hw250_0), ((HB.out.cell (World.block_lt_of_cell? w _ hw250_1)).trans hw250_1), ((HB.out.cell (World.block_lt_of_cell? w _ hw251_0)).trans hw251_0), ((HB.out.cell (World.block_lt_of_cell? w _ hw251_1)).trans hw251_1)⟩ (fun hHeld => ?_)
     clear hK K
     refine norm_ (a' := ?_) ?_ ?_
     rotate_left
     ·show Act.put _ (some 21) _ = _
      simp only [Act.put, List.setIfInBounds_toArray, List.set_cons_zero, List.set_cons_succ, i64_w, i32_w]
      rfl
     refine one_ (i := 24) (N := some 33) #[true, true, true, true, true, true, true, true, true, true, true, true, true, true, true, true, true, true, true, true, true, true, true, true, true, false, false] rfl rfl (one_of HT_.out (by kernel_rfl)) (by decide) (fun K hK => ?_)
     refine goes_ Try.func67 (by kernel_rfl) rfl #[.agg #[.int .i64 a5_0, .slice A5_1 l5_1.length c5_1, .slice A5_2 l5_2.length c5_2, .slice A5_3 l5_3.length c5_3], .int .i64 ((rd_T71 l4_0 a0).f1), .int .i64 ((rd_T71 l4_0 a1).f1)] (by rfl) rfl rfl la_ ?_
     with_reducible refine (impl_System_plus.calls a5_0 _ _ l5_1 _ _ l5_2 _ _ l5_3 ((rd_T71 l4_0 a0).f1) ((rd_T71 l4_0 a1).f1) t252 _ ?side1 ?side2 ?side3 ?side4 ?side5 ?side6 A12.out).mono ?_
     (case side1 => exact kc_ HR5_1.out HB.out)
     (case side2 => exact HC5_1.out)
     (case side3 => exact kc_ HR5_2.out HB.out)
     (case side4 => exact HC5_2.out)
     (case side5 => exact kc_ HR5_3.out HB.out)
     (case side6 => exact HC5_3.out)
     rintro e w16 ⟨rfl, hb⟩
     refine ⟨_, rfl, ?_⟩
     replace BK2 := sd_ (bb_ BK2.out hb)
     replace BK3 := sd_ (bb_ BK3.out hb)
     replace BK4 := sd_ (bb_ BK4.out hb)
     replace BK5 := sd_ (bb_ BK5.out hb)
     replace HB := sd_ (below_step (bw0_ HB.out) hb)
     (try clear hb)
     (try clear hb2)
     (try clear hk)
     (try clear hi)
     refine hK.out _ _ ⟨(blk_cell BK2.out 0).trans rfl, (blk_cell BK3.out 0).trans rfl, (blk_cell BK3.out 1).trans rfl, (blk_cell BK3.out 2).trans rfl, (blk_cell BK3.out 3).trans rfl, (blk_cell BK4.out 0).trans rfl, (blk_cell BK5.out 0).trans rfl, (blk_cell BK5.out 1).trans rfl, (blk_cell BK5.out 2).trans rfl, (blk_cell BK5.out 3).trans rfl, ((HB.out.cell (World.block_lt_of_cell? w _ hw247_0)).trans hw247_0), ((HB.out.cell (World.block_lt_of_cell? w _ hw247_1)).trans hw247_1), ((HB.out.cell (World.block_lt_of_cell? w _ hw248_0)).trans hw248_0), ((HB.out.cell (World.block_lt_of_cell? w _ hw248_1)).trans hw248_1), ((HB.out.cell (World.block_lt_of_cell? w _ hw250_0)).trans hw250_0), ((HB.out.cell (World.block_lt_of_cell? w _ hw250_1)).trans hw250_1), ((HB.out.cell (World.block_lt_of_cell? w _ hw251_0)).trans hw251_0), ((HB.out.cell (World.block_lt_of_cell? w _ hw251_1)).trans hw251_1)⟩ (fun hHeld => ?_)
     clear hK K
     refine norm_ (a' := ?_) ?_ ?_
     rotate_left
     ·show Act.put _ (some 33) _ = _
      simp only [Act.put, List.setIfInBounds_toArray, List.set_cons_zero, List.set_cons_succ, i64_w, i32_w]
      rfl
     refine one_ (i := 25) (N := some 34) #[true, true, true, true, true, true, true, true, true, true, true, true, true, true, true, true, true, true, true, true, true, true, true, true, true, true, false] rfl rfl (one_of HT_.out (by kernel_rfl)) (by decide) (fun K hK => ?_)
     refine goesO_ HG2_0.out #[.int .i64 t249, .int .i64 t252] (by rfl) rfl rfl la_ rfl ?_
     with_reducible refine (HF2_0.out t249 t252 t253 _ ?side1 A13.out).mono ?_
     (case side1 => exact (bw0_ HB.out))
     rintro e w17 ⟨rfl, hb⟩
     refine ⟨_, rfl, ?_⟩
     replace BK2 := sd_ (bb_ BK2.out hb)
     replace BK3 := sd_ (bb_ BK3.out hb)
     replace BK4 := sd_ (bb_ BK4.out hb)
     replace BK5 := sd_ (bb_ BK5.out hb)
     replace HB := sd_ (below_step (bw0_ HB.out) hb)
     (try clear hb)
     (try clear hb2)
     (try clear hk)
     (try clear hi)
     refine hK.out _ _ ⟨(blk_cell BK2.out 0).trans rfl, (blk_cell BK3.out 0).trans rfl, (blk_cell BK3.out 1).trans rfl, (blk_cell BK3.out 2).trans rfl, (blk_cell BK3.out 3).trans rfl, (blk_cell BK4.out 0).trans rfl, (blk_cell BK5.out 0).trans rfl, (blk_cell BK5.out 1).trans rfl, (blk_cell BK5.out 2).trans rfl, (blk_cell BK5.out 3).trans rfl, ((HB.out.cell (World.block_lt_of_cell? w _ hw247_0)).trans hw247_0), ((HB.out.cell (World.block_lt_of_cell? w _ hw247_1)).trans hw247_1), ((HB.out.cell (World.block_lt_of_cell? w _ hw248_0)).trans hw248_0), ((HB.out.cell (World.block_lt_of_cell? w _ hw248_1)).trans hw248_1), ((HB.out.cell (World.block_lt_of_cell? w _ hw250_0)).trans hw250_0), ((HB.out.cell (World.block_lt_of_cell? w _ hw250_1)).trans hw250_1), ((HB.out.cell (World.block_lt_of_cell? w _ hw251_0)).trans hw251_0), ((HB.out.cell (World.block_lt_of_cell? w _ hw251_1)).trans hw251_1)⟩ (fun hHeld => ?_)
     clear hK K
     refine norm_ (a' := ?_) ?_ ?_
     rotate_left
     ·show Act.put _ (some 34) _ = _
      simp only [Act.put, List.setIfInBounds_toArray, List.set_cons_zero, List.set_cons_succ, i64_w, i32_w]
      rfl
     refine pure_ (i := 26) (N := some 8) (v := ?_) (a' := ?_) #[true, true, true, true, true, true, true, true, true, true, true, true, true, true, true, true, true, true, true, true, true, true, true, true, true, true, true] rfl rfl (any_of HT_.out (by kernel_rfl)) (fun _ _ _ h => h) (Or.inl ⟨by rfl, ?_⟩) ?_ ?_
     rotate_left
     ·intro w'
      go_simp
      with_reducible rfl
     rotate_left
     ·simp only [Act.put, List.setIfInBounds_toArray, List.set_cons_zero, List.set_cons_succ, i64_w, i32_w]
      rfl
     refine done_ (done_of HT_.out (by kernel_rfl)) ?_
     try go_wp2
     go_ret
     exact ⟨an_, bw0_ HB.out⟩
    ·rw [if_neg c10] at H
     exact absurd H (by simp)
   ·rw [if_neg c9] at H
    exact absurd H (by simp)
  ·rw [if_neg c8] at H
   exact absurd H (by simp)
 ·rw [if_neg c7] at H
  exact absurd H (by simp)


/-! ### impl_System_below: function 71 -/
def impl_System_below.f (a0_0 : Int) (l0_1 : List Int) (l0_2 : List Int) (l0_3 : List Bool) (a1 : Int) (a2 : Int) : Option (Bool) := if 0 ≤ (wrap64 ((wrap64 (a1 * a0_0)) + a2)) then (if (wrap64 ((wrap64 (a1 * a0_0)) + a2)) < (l0_3.length : Int) then (some (rdOf false l0_3 (wrap64 ((wrap64 (a1 * a0_0)) + a2)))) else (none)) else (none)
set_option maxHeartbeats 8000000 in
set_option maxRecDepth 100000 in
theorem impl_System_below.calls (a0_0 : Int) (A0_1 : Option Addr) (c0_1 : Nat) (l0_1 : List Int) (A0_2 : Option Addr) (c0_2 : Nat) (l0_2 : List Int) (A0_3 : Option Addr) (c0_3 : Nat) (l0_3 : List Bool) (a1 : Int) (a2 : Int) (r : Bool) (w : World) (hr0_1 : Kd.C (Kd.int .i64) w A0_1 l0_1.length l0_1) (hc0_1 : l0_1.length ≤ c0_1) (hr0_2 : Kd.C (Kd.int .i64) w A0_2 l0_2.length l0_2) (hc0_2 : l0_2.length ≤ c0_2) (hr0_3 : Kd.C Kd.bool w A0_3 l0_3.length l0_3) (hc0_3 : l0_3.length ≤ c0_3) (h : impl_System_below.f a0_0 l0_1 l0_2 l0_3 a1 a2 = some r) :
  Calls Try.prog 71 #[.agg #[.int .i64 a0_0, .slice A0_1 l0_1.length c0_1, .slice A0_2 l0_2.length c0_2, .slice A0_3 l0_3.length c0_3], .int .i64 a1, .int .i64 a2] w fun e w' => e = .returned (.bool r) ∧ Below w.heap.size w w' := by
 have hu27 := Try.underlying27
 have HR0_1 := sd_ hr0_1
 have HC0_1 := sd_ hc0_1
 clear hr0_1 hc0_1
 have HR0_2 := sd_ hr0_2
 have HC0_2 := sd_ hc0_2
 clear hr0_2 hc0_2
 have HR0_3 := sd_ hr0_3
 have HC0_3 := sd_ hc0_3
 clear hr0_3 hc0_3
 have HB := sd_ (Below.refl w.heap.size w)
 have H : (if 0 ≤ (wrap64 ((wrap64 (a1 * a0_0)) + a2)) then (if (wrap64 ((wrap64 (a1 * a0_0)) + a2)) < (l0_3.length : Int) then (some (rdOf false l0_3 (wrap64 ((wrap64 (a1 * a0_0)) + a2)))) else (none)) else (none)) = some r := h
 clear h
 obtain ⟨ji4, hji4⟩ : ∃ j_ : Int, (wrap64 ((wrap64 (a1 * a0_0)) + a2)) = j_ := ⟨_, rfl⟩
 replace H : (if 0 ≤ (ji4) then (if (ji4) < (l0_3.length : Int) then (some (rdOf false l0_3 (ji4))) else (none)) else (none)) = some r := by first | (rw [hji4] at H; exact H) | (simp only [hji4] at H ⊢; exact H)
 have hji4w : (IntKind.i64.wrap ((wrap64 (a1 * a0_0)) + a2)) = ji4 := (i64_w _).trans hji4
 by_cases c5 : 0 ≤ (ji4)
 ·rw [if_pos c5] at H
  have c5b0 : decide (0 ≤ (ji4)) = true := decide_eq_true c5
  clear c5
  by_cases c6 : (ji4) < (l0_3.length : Int)
  ·rw [if_pos c6] at H
   have c6b0 : decide ((ji4) < (l0_3.length : Int)) = true := decide_eq_true c6
   clear c6
   obtain rfl := Option.some.inj H
   go_enter Try.func71, Try.ntmps71
   go_wp2_with (first | ((with_reducible refine gate_dst (N := 3) rfl ?_); refine bx_ (N := 3) (cs := #[.int .i64 a0_0, .slice A0_1 l0_1.length c0_1, .slice A0_2 l0_2.length c0_2, .slice A0_3 l0_3.length c0_3]) (t := 27) ?_; intro gb167 hg w7 hbox hb; have BK167 := sd_ (hbox); have GW167 := sd_ (gs_ hg (bw0_ HB.out)); have GE167 := sd_ (gs_ hg (bw0_ HB.out)); replace HB := sd_ (below_step (bw0_ HB.out) hb); clear hb hbox hg; obtain ⟨hcz8_0, hcz8_1, hcz8_2, hcz8_3, hfz8_0, hfz8_1, hfz8_2, hfz8_3⟩ := bf4_ BK167.out; have p168 : 0 ≤ ((ji4) : Int) := dt_; have q168 : (ji4) < (l0_3.length : Int) := dt_; obtain ⟨ad168, e168, hx168_0⟩ := Kd.at_bool HR0_3.out (ji4) p168 q168; cases e168; replace hx168_0 := (HB.out.cell (World.block_lt_of_cell? w _ hx168_0)).trans hx168_0; replace p168 := eq_true p168; replace q168 := eq_true q168))
   go_ret
   exact ⟨by first | rfl | (simp [errW_none, errW_some] <;> rfl) | (simp only [← hji4]; first | rfl | (simp [errW_none, errW_some] <;> rfl)) | (simp [*, errW_none, errW_some] <;> rfl), bw1_ HB.out GE167.out⟩
  ·rw [if_neg c6] at H
   exact absurd H (by simp)
 ·rw [if_neg c5] at H
  exact absurd H (by simp)


/-! ### impl_ProductSystem_4: function 70 -/
def impl_ProductSystem_4.f (a0 : Int) (a1 : Int) (a2_0 : Int) (l2_1 : List Int) (l2_2 : List Int) (l2_3 : List Bool) (l3_0 : List (S71)) (a4_0 : Int) (l4_1 : List Int) (l4_2 : List Int) (l4_3 : List Bool) : Option (Bool) := if 0 ≤ a0 then (if a0 < (l3_0.length : Int) then (if 0 ≤ a1 then (if a1 < (l3_0.length : Int) then ((impl_System_below.f a2_0 l2_1 l2_2 l2_3 ((rd_T71 l3_0 a0).f0) ((rd_T71 l3_0 a1).f0)).bind fun t263 => (if t263 = true then ((impl_System_below.f a4_0 l4_1 l4_2 l4_3 ((rd_T71 l3_0 a0).f1) ((rd_T71 l3_0 a1).f1)).bind fun t266 => (some t266)) else (some false))) else (none)) else (none)) else (none)) else (none)
set_option maxHeartbeats 8000000 in
set_option maxRecDepth 100000 in
theorem impl_ProductSystem_4.calls (a0 : Int) (a1 : Int) (g2 : Nat) (a2_0 : Int) (A2_1 : Option Addr) (c2_1 : Nat) (l2_1 : List Int) (A2_2 : Option Addr) (c2_2 : Nat) (l2_2 : List Int) (A2_3 : Option Addr) (c2_3 : Nat) (l2_3 : List Bool) (g3 : Nat) (A3_0 : Option Addr) (c3_0 : Nat) (l3_0 : List (S71)) (g4 : Nat) (a4_0 : Int) (A4_1 : Option Addr) (c4_1 : Nat) (l4_1 : List Int) (A4_2 : Option Addr) (c4_2 : Nat) (l4_2 : List Int) (A4_3 : Option Addr) (c4_3 : Nat) (l4_3 : List Bool) (r : Bool) (w : World) (hr2_1 : Kd.C (Kd.int .i64) w A2_1 l2_1.length l2_1) (hc2_1 : l2_1.length ≤ c2_1) (hr2_2 : Kd.C (Kd.int .i64) w A2_2 l2_2.length l2_2) (hc2_2 : l2_2.length ≤ c2_2) (hr2_3 : Kd.C Kd.bool w A2_3 l2_3.length l2_3) (hc2_3 : l2_3.length ≤ c2_3) (hb2 : w.heap[g2]? = some (.cells #[.int .i64 a2_0, .slice A2_1 l2_1.length c2_1, .slice A2_2 l2_2.length c2_2, .slice A2_3 l2_3.length c2_3] 27 (0, 0))) (hr3_0 : Kd.C k71 w A3_0 l3_0.length l3_0) (hc3_0 : l3_0.length ≤ c3_0) (hb3 : w.heap[g3]? = some (.cells #[.slice A3_0 l3_0.length c3_0] 68 (0, 0))) (hr4_1 : Kd.C (Kd.int .i64) w A4_1 l4_1.length l4_1) (hc4_1 : l4_1.length ≤ c4_1) (hr4_2 : Kd.C (Kd.int .i64) w A4_2 l4_2.length l4_2) (hc4_2 : l4_2.length ≤ c4_2) (hr4_3 : Kd.C Kd.bool w A4_3 l4_3.length l4_3) (hc4_3 : l4_3.length ≤ c4_3) (hb4 : w.heap[g4]? = some (.cells #[.int .i64 a4_0, .slice A4_1 l4_1.length c4_1, .slice A4_2 l4_2.length c4_2, .slice A4_3 l4_3.length c4_3] 27 (0, 0))) (h : impl_ProductSystem_4.f a0 a1 a2_0 l2_1 l2_2 l2_3 l3_0 a4_0 l4_1 l4_2 l4_3 = some r) :
  Calls Try.prog 70 #[.int .i64 a0, .int .i64 a1, .pointer (some ⟨g2, 0, none⟩), .pointer (some ⟨g3, 0, none⟩), .pointer (some ⟨g4, 0, none⟩)] w fun e w' => e = .returned (.bool r) ∧ Below w.heap.size w w' := by
 have hu27 := Try.underlying27
 have HR2_1 := sd_ hr2_1
 have HC2_1 := sd_ hc2_1
 clear hr2_1 hc2_1
 have HR2_2 := sd_ hr2_2
 have HC2_2 := sd_ hc2_2
 clear hr2_2 hc2_2
 have HR2_3 := sd_ hr2_3
 have HC2_3 := sd_ hc2_3
 clear hr2_3 hc2_3
 have HR3_0 := sd_ hr3_0
 have HC3_0 := sd_ hc3_0
 clear hr3_0 hc3_0
 have HR4_1 := sd_ hr4_1
 have HC4_1 := sd_ hc4_1
 clear hr4_1 hc4_1
 have HR4_2 := sd_ hr4_2
 have HC4_2 := sd_ hc4_2
 clear hr4_2 hc4_2
 have HR4_3 := sd_ hr4_3
 have HC4_3 := sd_ hc4_3
 clear hr4_3 hc4_3
 have BK2 := sd_ hb2
 clear hb2
 have BK3 := sd_ hb3
 clear hb3
 have BK4 := sd_ hb4
 clear hb4
 have HB := sd_ (Below.refl w.heap.size w)
 have H : (if 0 ≤ a0 then (if a0 < (l3_0.length : Int) then (if 0 ≤ a1 then (if a1 < (l3_0.length : Int) then ((impl_System_below.f a2_0 l2_1 l2_2 l2_3 ((rd_T71 l3_0 a0).f0) ((rd_T71 l3_0 a1).f0)).bind fun t263 => (if t263 = true then ((impl_System_below.f a4_0 l4_1 l4_2 l4_3 ((rd_T71 l3_0 a0).f1) ((rd_T71 l3_0 a1).f1)).bind fun t266 => (some t266)) else (some false))) else (none)) else (none)) else (none)) else (none)) = some r := h
 clear h
 by_cases c6 : 0 ≤ a0
 ·rw [if_pos c6] at H
  have c6b0 : decide (0 ≤ a0) = true := decide_eq_true c6
  clear c6
  by_cases c7 : a0 < (l3_0.length : Int)
  ·rw [if_pos c7] at H
   have c7b0 : decide (a0 < (l3_0.length : Int)) = true := decide_eq_true c7
   clear c7
   by_cases c8 : 0 ≤ a1
   ·rw [if_pos c8] at H
    have c8b0 : decide (0 ≤ a1) = true := decide_eq_true c8
    clear c8
    by_cases c9 : a1 < (l3_0.length : Int)
    ·rw [if_pos c9] at H
     have c9b0 : decide (a1 < (l3_0.length : Int)) = true := decide_eq_true c9
     clear c9
     replace H := Option.bind_eq_some_iff.mp H
     obtain ⟨t263, A100, H⟩ := H
     try dsimp only at H
     have A10 := sd_ A100
     clear A100
     by_cases c11 : t263 = true
     ·subst c11
      have H1 : ((impl_System_below.f a4_0 l4_1 l4_2 l4_3 ((rd_T71 l3_0 a0).f1) ((rd_T71 l3_0 a1).f1)).bind fun t266 => (some t266)) = some r := by rw [if_pos rfl] at H; exact H
      clear H
      have H := H1
      clear H1
      replace H := Option.bind_eq_some_iff.mp H
      obtain ⟨t266, A120, H⟩ := H
      try dsimp only at H
      have A12 := sd_ A120
      clear A120
      obtain rfl := Option.some.inj H
      go_enter Try.func70, Try.ntmps70
      try go_wp2
      have p261 : 0 ≤ (a0 : Int) := dt_
      have q261 : a0 < (l3_0.length : Int) := dt_
      obtain ⟨ad261, e261, hx261_0, hx261_1⟩ := at_T71 HR3_0.out a0 p261 q261
      cases e261
      replace p261 := eq_true p261
      replace q261 := eq_true q261
      have p262 : 0 ≤ (a1 : Int) := dt_
      have q262 : a1 < (l3_0.length : Int) := dt_
      obtain ⟨ad262, e262, hx262_0, hx262_1⟩ := at_T71 HR3_0.out a1 p262 q262
      obtain rfl : ad261 = ad262 := (by injection e262)
      replace p262 := eq_true p262
      replace q262 := eq_true q262
      have p264 : 0 ≤ (a0 : Int) := dt_
      have q264 : a0 < (l3_0.length : Int) := dt_
      obtain ⟨ad264, e264, hx264_0, hx264_1⟩ := at_T71 HR3_0.out a0 p264 q264
      obtain rfl : ad261 = ad264 := (by injection e264)
      replace p264 := eq_true p264
      replace q264 := eq_true q264
      have p265 : 0 ≤ (a1 : Int) := dt_
      have q265 : a1 < (l3_0.length : Int) := dt_
      obtain ⟨ad265, e265, hx265_0, hx265_1⟩ := at_T71 HR3_0.out a1 p265 q265
      obtain rfl : ad261 = ad265 := (by injection e265)
      replace p265 := eq_true p265
      replace q265 := eq_true q265
      refine qb_region (by kernel_rfl) (by kernel_rfl) ?_
      repeat ((first | (apply qb_skip; (focus rfl)) | (refine qb_callN 19 rfl ?_; apply qb_call 19 rfl Try.func71 (by kernel_rfl) rfl rfl; (focus rfl); (focus (exact fun wq9 hb9 => qb_b hb9 (impl_System_below.calls a2_0 _ _ l2_1 _ _ l2_2 _ _ l2_3 ((rd_T71 l3_0 a0).f0) ((rd_T71 l3_0 a1).f0) true _ (Kd.C_below HR2_1.out hb9) HC2_1.out (Kd.C_below HR2_2.out hb9) HC2_2.out (Kd.C_below HR2_3.out hb9) HC2_3.out A10.out))); (focus (rfl))) | (refine qb_callN 32 rfl ?_; apply qb_call 32 rfl Try.func71 (by kernel_rfl) rfl rfl; (focus rfl); (focus (exact fun wq9 hb9 => qb_b hb9 (impl_System_below.calls a4_0 _ _ l4_1 _ _ l4_2 _ _ l4_3 ((rd_T71 l3_0 a0).f1) ((rd_T71 l3_0 a1).f1) t266 _ (Kd.C_below HR4_1.out hb9) HC4_1.out (Kd.C_below HR4_2.out hb9) HC4_2.out (Kd.C_below HR4_3.out hb9) HC4_3.out A12.out))); (focus (rfl))) | (apply qb_val; (focus rfl); (focus (intro wq9 _; go_simp; with_reducible rfl))) | (apply qb_val; (focus rfl); (focus (intro wq9 hb9_; have hb9 : Below w.heap.size w wq9 := hb9_; have BK2 := sd_ (blk_below BK2.out hb9); have BK3 := sd_ (blk_below BK3.out hb9); have BK4 := sd_ (blk_below BK4.out hb9); have hc9_2_0 : wq9.cell? ⟨g2, 0, none⟩ = some (.int .i64 a2_0) := (blk_cell BK2.out 0).trans rfl; have hc9_2_1 : wq9.cell? ⟨g2, 1, none⟩ = some (.slice A2_1 l2_1.length c2_1) := (blk_cell BK2.out 1).trans rfl; have hc9_2_2 : wq9.cell? ⟨g2, 2, none⟩ = some (.slice A2_2 l2_2.length c2_2) := (blk_cell BK2.out 2).trans rfl; have hc9_2_3 : wq9.cell? ⟨g2, 3, none⟩ = some (.slice A2_3 l2_3.length c2_3) := (blk_cell BK2.out 3).trans rfl; have hc9_3_0 : wq9.cell? ⟨g3, 0, none⟩ = some (.slice (some ad261) l3_0.length c3_0) := (blk_cell BK3.out 0).trans rfl; have hc9_4_0 : wq9.cell? ⟨g4, 0, none⟩ = some (.int .i64 a4_0) := (blk_cell BK4.out 0).trans rfl; have hc9_4_1 : wq9.cell? ⟨g4, 1, none⟩ = some (.slice A4_1 l4_1.length c4_1) := (blk_cell BK4.out 1).trans rfl; have hc9_4_2 : wq9.cell? ⟨g4, 2, none⟩ = some (.slice A4_2 l4_2.length c4_2) := (blk_cell BK4.out 2).trans rfl; have hc9_4_3 : wq9.cell? ⟨g4, 3, none⟩ = some (.slice A4_3 l4_3.length c4_3) := (blk_cell BK4.out 3).trans rfl; have hx261_0 := (hb9.cell (World.block_lt_of_cell? _ _ hx261_0)).trans hx261_0; have hx261_1 := (hb9.cell (World.block_lt_of_cell? _ _ hx261_1)).trans hx261_1; have hx262_0 := (hb9.cell (World.block_lt_of_cell? _ _ hx262_0)).trans hx262_0; have hx262_1 := (hb9.cell (World.block_lt_of_cell? _ _ hx262_1)).trans hx262_1; have hx264_0 := (hb9.cell (World.block_lt_of_cell? _ _ hx264_0)).trans hx264_0; have hx264_1 := (hb9.cell (World.block_lt_of_cell? _ _ hx264_1)).trans hx264_1; have hx265_0 := (hb9.cell (World.block_lt_of_cell? _ _ hx265_0)).trans hx265_0; have hx265_1 := (hb9.cell (World.block_lt_of_cell? _ _ hx265_1)).trans hx265_1; go_simp; with_reducible rfl)))); (focus (simp only [Act.put, List.setIfInBounds_toArray, List.set_cons_zero, List.set_cons_succ, i64_w, i32_w]; rfl)))
      refine qb_nil ?_
      intro w15 hb
      replace BK2 := sd_ (blk_below BK2.out hb)
      replace BK3 := sd_ (blk_below BK3.out hb)
      replace BK4 := sd_ (blk_below BK4.out hb)
      replace HB := sd_ (below_step HB.out hb)
      clear hb
      (try clear HQ)
      try go_wp2
      go_ret
      exact ⟨an_, bw0_ HB.out⟩
     ·replace c11 := Bool.eq_false_iff.mpr c11
      subst c11
      have H1 : (some false) = some r := by rw [if_neg (show ¬ (false = true) by decide)] at H; exact H
      clear H
      have H := H1
      clear H1
      obtain rfl := Option.some.inj H
      go_enter Try.func70, Try.ntmps70
      try go_wp2
      have p261 : 0 ≤ (a0 : Int) := dt_
      have q261 : a0 < (l3_0.length : Int) := dt_
      obtain ⟨ad261, e261, hx261_0, hx261_1⟩ := at_T71 HR3_0.out a0 p261 q261
      cases e261
      replace p261 := eq_true p261
      replace q261 := eq_true q261
      have p262 : 0 ≤ (a1 : Int) := dt_
      have q262 : a1 < (l3_0.length : Int) := dt_
      obtain ⟨ad262, e262, hx262_0, hx262_1⟩ := at_T71 HR3_0.out a1 p262 q262
      obtain rfl : ad261 = ad262 := (by injection e262)
      replace p262 := eq_true p262
      replace q262 := eq_true q262
      refine qb_region (by kernel_rfl) (by kernel_rfl) ?_
      repeat ((first | (apply qb_skip; (focus rfl)) | (refine qb_callN 19 rfl ?_; apply qb_call 19 rfl Try.func71 (by kernel_rfl) rfl rfl; (focus rfl); (focus (exact fun wq9 hb9 => qb_b hb9 (impl_System_below.calls a2_0 _ _ l2_1 _ _ l2_2 _ _ l2_3 ((rd_T71 l3_0 a0).f0) ((rd_T71 l3_0 a1).f0) false _ (Kd.C_below HR2_1.out hb9) HC2_1.out (Kd.C_below HR2_2.out hb9) HC2_2.out (Kd.C_below HR2_3.out hb9) HC2_3.out A10.out))); (focus (rfl))) | (apply qb_val; (focus rfl); (focus (intro wq9 _; go_simp; with_reducible rfl))) | (apply qb_val; (focus rfl); (focus (intro wq9 hb9_; have hb9 : Below w.heap.size w wq9 := hb9_; have BK2 := sd_ (blk_below BK2.out hb9); have BK3 := sd_ (blk_below BK3.out hb9); have hc9_2_0 : wq9.cell? ⟨g2, 0, none⟩ = some (.int .i64 a2_0) := (blk_cell BK2.out 0).trans rfl; have hc9_2_1 : wq9.cell? ⟨g2, 1, none⟩ = some (.slice A2_1 l2_1.length c2_1) := (blk_cell BK2.out 1).trans rfl; have hc9_2_2 : wq9.cell? ⟨g2, 2, none⟩ = some (.slice A2_2 l2_2.length c2_2) := (blk_cell BK2.out 2).trans rfl; have hc9_2_3 : wq9.cell? ⟨g2, 3, none⟩ = some (.slice A2_3 l2_3.length c2_3) := (blk_cell BK2.out 3).trans rfl; have hc9_3_0 : wq9.cell? ⟨g3, 0, none⟩ = some (.slice (some ad261) l3_0.length c3_0) := (blk_cell BK3.out 0).trans rfl; have hx261_0 := (hb9.cell (World.block_lt_of_cell? _ _ hx261_0)).trans hx261_0; have hx261_1 := (hb9.cell (World.block_lt_of_cell? _ _ hx261_1)).trans hx261_1; have hx262_0 := (hb9.cell (World.block_lt_of_cell? _ _ hx262_0)).trans hx262_0; have hx262_1 := (hb9.cell (World.block_lt_of_cell? _ _ hx262_1)).trans hx262_1; go_simp; with_reducible rfl)))); (focus (simp only [Act.put, List.setIfInBounds_toArray, List.set_cons_zero, List.set_cons_succ, i64_w, i32_w]; rfl)))
      refine qb_nil ?_
      intro w17 hb
      replace BK2 := sd_ (blk_below BK2.out hb)
      replace BK3 := sd_ (blk_below BK3.out hb)
      replace BK4 := sd_ (blk_below BK4.out hb)
      replace HB := sd_ (below_step HB.out hb)
      clear hb
      (try clear HQ)
      try go_wp2
      go_ret
      exact ⟨an_, bw0_ HB.out⟩
    ·rw [if_neg c9] at H
     exact absurd H (by simp)
   ·rw [if_neg c8] at H
    exact absurd H (by simp)
  ·rw [if_neg c7] at H
   exact absurd H (by simp)
 ·rw [if_neg c6] at H
  exact absurd H (by simp)


/-! ### impl_System_has: function 76 -/
def impl_System_has.f (a0_0 : Int) (l0_1 : List Int) (l0_2 : List Int) (l0_3 : List Bool) (a1 : Int) : Option (Bool) := (impl_within.f a1 0 (wrap64 (a0_0 - 1))).bind fun t176 => (some t176)
set_option maxHeartbeats 8000000 in
set_option maxRecDepth 100000 in
theorem impl_System_has.calls (a0_0 : Int) (A0_1 : Option Addr) (c0_1 : Nat) (l0_1 : List Int) (A0_2 : Option Addr) (c0_2 : Nat) (l0_2 : List Int) (A0_3 : Option Addr) (c0_3 : Nat) (l0_3 : List Bool) (a1 : Int) (r : Bool) (w : World) (hr0_1 : Kd.C (Kd.int .i64) w A0_1 l0_1.length l0_1) (hc0_1 : l0_1.length ≤ c0_1) (hr0_2 : Kd.C (Kd.int .i64) w A0_2 l0_2.length l0_2) (hc0_2 : l0_2.length ≤ c0_2) (hr0_3 : Kd.C Kd.bool w A0_3 l0_3.length l0_3) (hc0_3 : l0_3.length ≤ c0_3) (h : impl_System_has.f a0_0 l0_1 l0_2 l0_3 a1 = some r) :
  Calls Try.prog 76 #[.agg #[.int .i64 a0_0, .slice A0_1 l0_1.length c0_1, .slice A0_2 l0_2.length c0_2, .slice A0_3 l0_3.length c0_3], .int .i64 a1] w fun e w' => e = .returned (.bool r) ∧ Below w.heap.size w w' := by
 have hu27 := Try.underlying27
 have HR0_1 := sd_ hr0_1
 have HC0_1 := sd_ hc0_1
 clear hr0_1 hc0_1
 have HR0_2 := sd_ hr0_2
 have HC0_2 := sd_ hc0_2
 clear hr0_2 hc0_2
 have HR0_3 := sd_ hr0_3
 have HC0_3 := sd_ hc0_3
 clear hr0_3 hc0_3
 have HB := sd_ (Below.refl w.heap.size w)
 have H : ((impl_within.f a1 0 (wrap64 (a0_0 - 1))).bind fun t176 => (some t176)) = some r := h
 clear h
 replace H := Option.bind_eq_some_iff.mp H
 obtain ⟨t176, A30, H⟩ := H
 try dsimp only at H
 have A3 := sd_ A30
 clear A30
 obtain rfl := Option.some.inj H
 go_enter Try.func76, Try.ntmps76
 go_wp2_with (first | ((with_reducible refine gate_dst (N := 2) rfl ?_); refine bx_ (N := 2) (cs := #[.int .i64 a0_0, .slice A0_1 l0_1.length c0_1, .slice A0_2 l0_2.length c0_2, .slice A0_3 l0_3.length c0_3]) (t := 27) ?_; intro gb175 hg w4 hbox hb; have BK175 := sd_ (hbox); have GW175 := sd_ (gs_ hg (bw0_ HB.out)); have GE175 := sd_ (gs_ hg (bw0_ HB.out)); replace HB := sd_ (below_step (bw0_ HB.out) hb); clear hb hbox hg; obtain ⟨hcz5_0, hcz5_1, hcz5_2, hcz5_3, hfz5_0, hfz5_1, hfz5_2, hfz5_3⟩ := bf4_ BK175.out) | ((with_reducible refine gate_callee (f := 54) rfl ?_); refine goesL_ (some 9) rfl rfl Try.func54 (by kernel_rfl) rfl #[.int .i64 a1, .int .i64 0, .int .i64 (wrap64 (a0_0 - 1))] rfl la_ ?_; (with_reducible refine (impl_within.calls a1 0 (wrap64 (a0_0 - 1)) t176 _ A3.out).mono ?_); rintro e w' ⟨rfl, ⟨nd, rfl⟩⟩; refine ⟨_, rfl, ?_⟩))
 go_ret
 exact ⟨an_, bw1_ HB.out GE175.out⟩


/-! ### impl_IsMap_1: function 75 -/
def impl_IsMap_1.f (a0 : Int) (a1_0 : Int) (l1_1 : List Int) (l1_2 : List Int) (l1_3 : List Bool) : Option (Bool) := (impl_System_has.f a1_0 l1_1 l1_2 l1_3 a0).bind fun t312 => (some (!t312))
set_option maxHeartbeats 8000000 in
set_option maxRecDepth 100000 in
theorem impl_IsMap_1.calls (a0 : Int) (g1 : Nat) (a1_0 : Int) (A1_1 : Option Addr) (c1_1 : Nat) (l1_1 : List Int) (A1_2 : Option Addr) (c1_2 : Nat) (l1_2 : List Int) (A1_3 : Option Addr) (c1_3 : Nat) (l1_3 : List Bool) (r : Bool) (w : World) (hr1_1 : Kd.C (Kd.int .i64) w A1_1 l1_1.length l1_1) (hc1_1 : l1_1.length ≤ c1_1) (hr1_2 : Kd.C (Kd.int .i64) w A1_2 l1_2.length l1_2) (hc1_2 : l1_2.length ≤ c1_2) (hr1_3 : Kd.C Kd.bool w A1_3 l1_3.length l1_3) (hc1_3 : l1_3.length ≤ c1_3) (hb1 : w.heap[g1]? = some (.cells #[.int .i64 a1_0, .slice A1_1 l1_1.length c1_1, .slice A1_2 l1_2.length c1_2, .slice A1_3 l1_3.length c1_3] 27 (0, 0))) (h : impl_IsMap_1.f a0 a1_0 l1_1 l1_2 l1_3 = some r) :
  Calls Try.prog 75 #[.int .i64 a0, .pointer (some ⟨g1, 0, none⟩)] w fun e w' => e = .returned (.bool r) ∧ Below w.heap.size w w' := by
 have hu27 := Try.underlying27
 have HR1_1 := sd_ hr1_1
 have HC1_1 := sd_ hc1_1
 clear hr1_1 hc1_1
 have HR1_2 := sd_ hr1_2
 have HC1_2 := sd_ hc1_2
 clear hr1_2 hc1_2
 have HR1_3 := sd_ hr1_3
 have HC1_3 := sd_ hc1_3
 clear hr1_3 hc1_3
 have BK1 := sd_ hb1
 clear hb1
 have HB := sd_ (Below.refl w.heap.size w)
 have H : ((impl_System_has.f a1_0 l1_1 l1_2 l1_3 a0).bind fun t312 => (some (!t312))) = some r := h
 clear h
 replace H := Option.bind_eq_some_iff.mp H
 obtain ⟨t312, A30, H⟩ := H
 try dsimp only at H
 have A3 := sd_ A30
 clear A30
 obtain rfl := Option.some.inj H
 obtain ⟨hcz4_0, hcz4_1, hcz4_2, hcz4_3, hfz4_0, hfz4_1, hfz4_2, hfz4_3⟩ := bf4_ BK1.out
 go_enter Try.func75, Try.ntmps75
 go_wp2_with (first | ((with_reducible refine gate_callee (f := 76) rfl ?_); refine goesL_ (some 6) rfl rfl Try.func76 (by kernel_rfl) rfl #[.agg #[.int .i64 a1_0, .slice A1_1 l1_1.length c1_1, .slice A1_2 l1_2.length c1_2, .slice A1_3 l1_3.length c1_3], .int .i64 a0] rfl la_ ?_; (with_reducible refine (impl_System_has.calls a1_0 _ _ l1_1 _ _ l1_2 _ _ l1_3 a0 t312 _ (kp_ HR1_1.out) HC1_1.out (kp_ HR1_2.out) HC1_2.out (kp_ HR1_3.out) HC1_3.out A3.out).mono ?_); rintro e w5 ⟨rfl, hb⟩; refine ⟨_, rfl, ?_⟩; replace BK1 := sd_ (bb_ BK1.out hb); replace HB := sd_ (below_step (bw0_ HB.out) hb); (try clear hb)))
 go_ret
 exact ⟨an_, bw0_ HB.out⟩


/-! ### laws_szBoolS: function 78 -/
def laws_szBoolS.f (l0 : List Bool) (a1 : Int) : Option (Int) := if (wrap64 (a1 - (l0.length : Int))) < 0 then (some (-1)) else (some (wrap64 (a1 - (l0.length : Int))))
set_option maxHeartbeats 8000000 in
set_option maxRecDepth 100000 in
theorem laws_szBoolS.calls (A0 : Option Addr) (c0 : Nat) (l0 : List Bool) (a1 : Int) (r : Int) (w : World) (hr0 : Kd.C Kd.bool w A0 l0.length l0) (hc0 : l0.length ≤ c0) (h : laws_szBoolS.f l0 a1 = some r) :
  Calls Try.prog 78 #[.slice A0 l0.length c0, .int .i64 a1] w fun e w' => e = .returned (.int .i64 r) ∧ Drawn0 w w' := by
 have HR0 := sd_ hr0
 have HC0 := sd_ hc0
 clear hr0 hc0
 have H : (if (wrap64 (a1 - (l0.length : Int))) < 0 then (some (-1)) else (some (wrap64 (a1 - (l0.length : Int))))) = some r := h
 clear h
 by_cases c3 : (wrap64 (a1 - (l0.length : Int))) < 0
 ·rw [if_pos c3] at H
  have c3b0 : decide ((wrap64 (a1 - (l0.length : Int))) < 0) = true := decide_eq_true c3
  clear c3
  obtain rfl := Option.some.inj H
  go_enter Try.func78, Try.ntmps78
  go_wp2
  go_ret
  exact ⟨by first | rfl | (simp; done) | (simp [*]; done), by repeat (first | exact Drawn0.refl _ | apply Drawn0.step)⟩
 ·rw [if_neg c3] at H
  have c3b0 : decide ((wrap64 (a1 - (l0.length : Int))) < 0) = false := decide_eq_false c3
  clear c3
  obtain rfl := Option.some.inj H
  go_enter Try.func78, Try.ntmps78
  go_wp2
  go_ret
  exact ⟨by first | rfl | (simp; done) | (simp [*]; done), by repeat (first | exact Drawn0.refl _ | apply Drawn0.step)⟩

end Go.Proofs.Ytcdmnofomoadlaa.P
end
