-- Several texts in one (wip/tools/merge.py).
import Derived.Test.YtipfkicndjddgaaP0
import Derived.Test.YtipfkicndjddgaaM6
import Derived.Test.YtipfkicndjddgaaM3
import Derived.Test.YtipfkicndjddgaaM4
section
namespace Go.Proofs.Ytipfkicndjddgaa.P
open Go.RowKit Go.Proofs.YtipfkicndjddgaaW.PrintWords Go.Proofs.YtipfkicndjddgaaW.PrintLast Go.Proofs.YtipfkicndjddgaaW.PrintMore
attribute [local go_sem] max2_int min2_int max_two min_two max_three min_three max_four min_four   -- for this text's walks alone
set_option linter.unusedVariables false
set_option linter.unusedSimpArgs false

/-! ### spec_l2Uses: function 97 -/
mutual
def spec_l2Uses.l0 : Nat → Int → Int → Int → Int → Int → List Int → List (S40) → Option (Int)
 | 0, _, _, _, _, _, _, _ => none
 | k + 1, x1, x5, x6, x190000, x190001, x190002, x190003 => if x6 < (x190003.length : Int) then (if 0 ≤ x6 then ((spec_l2Adds.f k x190000 x6).bind fun t191 => ((spec_l2Uses.f k ((rd_T40 x190003 x6).f0) ((rd_T40 x190003 x6).f1) ((rd_T40 x190003 x6).f2) ((rd_T40 x190003 x6).f3) (wrap64 (x1 + t191))).bind fun t192 => (spec_l2Uses.l0 k x1 (wrap64 (x5 + t192)) (wrap64 (x6 + 1)) x190000 x190001 x190002 x190003))) else (none)) else (some x5)
def spec_l2Uses.f : Nat → Int → Int → List Int → List (S40) → Int → Option (Int)
 | 0, _, _, _, _, _ => none
 | k + 1, a0_0, a0_1, l0_2, l0_3, a1 => if a0_0 = 0 then (if a0_1 = a1 then (some 1) else (some 0)) else (spec_l2Uses.l0 k a1 0 0 a0_0 a0_1 l0_2 l0_3)
end
def spec_l2Uses.T9 : Bool × List (List Nat × List Nat) := (true, [([], []), ([], []), ([1], [1]), ([], []), ([2, 3], [2, 3]), ([4], [4]), ([], []), ([], []), ([7], [7]), ([], []), ([8, 9], [8, 9]), ([6, 10], [6, 10]), ([5, 11, 10], [5, 11]), ([0, 12], [0, 12]), ([13, 12, 0, 1, 2, 3, 4, 5, 6, 7, 8, 9, 10, 11, 12, 13], [0, 13])])
def spec_l2Uses.B9 : List Nat := [0, 0, 2, 0, 14, 30, 0, 0, 128, 0, 896, 1984, 4094, 8191, 16383]
theorem spec_l2Uses.tab9 : rtab .any (opsOf Try.f97 9) = spec_l2Uses.T9 := by kernel_rfl
theorem spec_l2Uses.bits9 : waitsOk spec_l2Uses.T9.2 spec_l2Uses.B9 = true := by kernel_rfl
set_option maxHeartbeats 8000000 in
set_option maxRecDepth 100000 in
theorem spec_l2Uses.calls (k : Nat) : ∀ (a0_0 : Int) (a0_1 : Int) (A0_2 : Option Addr) (c0_2 : Nat) (l0_2 : List Int) (A0_3 : Option Addr) (c0_3 : Nat) (l0_3 : List (S40)) (a1 : Int) (r : Int) (w : World) (hr0_2 : Kd.C (Kd.int .i64) w A0_2 l0_2.length l0_2) (hc0_2 : l0_2.length ≤ c0_2) (hr0_3 : Kd.C k40 w A0_3 l0_3.length l0_3) (hc0_3 : l0_3.length ≤ c0_3) (h : spec_l2Uses.f k a0_0 a0_1 l0_2 l0_3 a1 = some r),
  Calls Try.prog 97 #[.agg #[.int .i64 a0_0, .int .i64 a0_1, .slice A0_2 l0_2.length c0_2, .slice A0_3 l0_3.length c0_3], .int .i64 a1] w fun e w' => e = .returned (.int .i64 r) ∧ Below w.heap.size w w' := by
 induction k using Nat.strongRecOn with
 | _ k ih =>
 intro a0_0 a0_1 A0_2 c0_2 l0_2 A0_3 c0_3 l0_3 a1 r w hr0_2 hc0_2 hr0_3 hc0_3 h
 cases k with
 | zero => exact absurd h (by simp [spec_l2Uses.f])
 | succ k =>
 simp only [spec_l2Uses.f] at h
 have hu40 := Try.underlying40
 have HR0_2 := sd_ hr0_2
 have HC0_2 := sd_ hc0_2
 clear hr0_2 hc0_2
 have HR0_3 := sd_ hr0_3
 have HC0_3 := sd_ hc0_3
 clear hr0_3 hc0_3
 have HB := sd_ (Below.refl w.heap.size w)
 have H : (if a0_0 = 0 then (if a0_1 = a1 then (some 1) else (some 0)) else (spec_l2Uses.l0 k a1 0 0 a0_0 a0_1 l0_2 l0_3)) = some r := h
 clear h
 by_cases c3 : a0_0 = 0
 ·rw [if_pos c3] at H
  have c3b0 : (a0_0 == 0) = true := beq_iff_eq.mpr c3
  have c3b1 : (a0_0 != 0) = false := bne_eq_false_iff_eq.mpr c3
  clear c3
  by_cases c4 : a0_1 = a1
  ·rw [if_pos c4] at H
   have c4b0 : (a0_1 == a1) = true := beq_iff_eq.mpr c4
   have c4b1 : (a0_1 != a1) = false := bne_eq_false_iff_eq.mpr c4
   clear c4
   obtain rfl := Option.some.inj H
   go_enter Try.func97, Try.ntmps97
   go_wp2_with (first | ((with_reducible refine gate_dst (N := 2) rfl ?_); refine bx_ (N := 2) (cs := #[.int .i64 a0_0, .int .i64 a0_1, .slice A0_2 l0_2.length c0_2, .slice A0_3 l0_3.length c0_3]) (t := 40) ?_; intro gb189 hg w5 hbox hb; have BK189 := sd_ (hbox); have GW189 := sd_ (gs_ hg (bw0_ HB.out)); have GE189 := sd_ (gs_ hg (bw0_ HB.out)); replace HB := sd_ (below_step (bw0_ HB.out) hb); clear hb hbox hg; obtain ⟨hcz6_0, hcz6_1, hcz6_2, hcz6_3, hfz6_0, hfz6_1, hfz6_2, hfz6_3⟩ := bf4_ BK189.out))
   go_ret
   exact ⟨an_, bw1_ HB.out GE189.out⟩
  rw [if_neg c4] at H
  have c4b0 : (a0_1 == a1) = false := beq_eq_false_iff_ne.mpr c4
  have c4b1 : (a0_1 != a1) = true := bne_iff_ne.mpr c4
  obtain rfl := Option.some.inj H
  go_enter Try.func97, Try.ntmps97
  go_wp2_with (first | ((with_reducible refine gate_dst (N := 2) rfl ?_); refine bx_ (N := 2) (cs := #[.int .i64 a0_0, .int .i64 a0_1, .slice A0_2 l0_2.length c0_2, .slice A0_3 l0_3.length c0_3]) (t := 40) ?_; intro gb189 hg w7 hbox hb; have BK189 := sd_ (hbox); have GW189 := sd_ (gs_ hg (bw0_ HB.out)); have GE189 := sd_ (gs_ hg (bw0_ HB.out)); replace HB := sd_ (below_step (bw0_ HB.out) hb); clear hb hbox hg; obtain ⟨hcz8_0, hcz8_1, hcz8_2, hcz8_3, hfz8_0, hfz8_1, hfz8_2, hfz8_3⟩ := bf4_ BK189.out))
  go_ret
  exact ⟨an_, bw1_ HB.out GE189.out⟩
 rw [if_neg c3] at H
 have c3b0 : (a0_0 == 0) = false := beq_eq_false_iff_ne.mpr c3
 have c3b1 : (a0_0 != 0) = true := bne_iff_ne.mpr c3
 have H' := sd_ H
 clear H
 go_enter Try.func97, Try.ntmps97
 go_wp2_with (first | ((with_reducible refine gate_dst (N := 2) rfl ?_); refine bx_ (N := 2) (cs := #[.int .i64 a0_0, .int .i64 a0_1, .slice A0_2 l0_2.length c0_2, .slice A0_3 l0_3.length c0_3]) (t := 40) ?_; intro gb189 hg w9 hbox hb; have BK189 := sd_ (hbox); have GW189 := sd_ (gs_ hg (bw0_ HB.out)); have GE189 := sd_ (gs_ hg (bw0_ HB.out)); replace HB := sd_ (below_step (bw0_ HB.out) hb); clear hb hbox hg; obtain ⟨hcz10_0, hcz10_1, hcz10_2, hcz10_3, hfz10_0, hfz10_1, hfz10_2, hfz10_3⟩ := bf4_ BK189.out))
 go_loopg [5, 6] k (fun kq v5 v6 w' => ∃ (x5_1 : Int) (x6_1 : Int), v5 = .int .i64 x5_1 ∧ v6 = .int .i64 x6_1 ∧ Aside0 (spec_l2Uses.l0 kq a1 x5_1 x6_1 a0_0 a0_1 l0_2 l0_3 = some r) ∧ Aside0 (kq ≤ k) ∧ Aside0 (w'.heap[gb189]? = some (.cells #[.int .i64 a0_0, .int .i64 a0_1, (.slice A0_2 l0_2.length c0_2), (.slice A0_3 l0_3.length c0_3)] 40 (0, 0))) ∧ Aside0 (Below w.heap.size w w'))
 case atStart => exact ⟨(0), (0), sm_, sm_, H', ⟨Nat.le_refl _⟩, ⟨by exact bz_ BK189.out⟩, ⟨bw1_ HB.out GE189.out⟩⟩
 case round =>
  clear H'
  try clear p2
  try clear c3
  try clear c3b0
  try clear c3b1
  try clear c9
  try clear hcz10_0
  try clear hcz10_1
  try clear hcz10_2
  try clear hcz10_3
  try clear hfz10_0
  try clear hfz10_1
  try clear hfz10_2
  try clear hfz10_3
  obtain ⟨x5_1, x6_1, rfl, rfl, HA, HK1, BK189, HB⟩ := hrel
  cases gk with
  | zero => exact absurd HA.out (by simp [spec_l2Uses.l0])
  | succ k1 =>
   have H := HA.out
   clear HA
   simp only [spec_l2Uses.l0] at H
   by_cases c11 : x6_1 < (l0_3.length : Int)
   ·rw [if_pos c11] at H
    have c11b0 : decide (x6_1 < (l0_3.length : Int)) = true := decide_eq_true c11
    clear c11
    by_cases c12 : 0 ≤ x6_1
    ·rw [if_pos c12] at H
     have c12b0 : decide (0 ≤ x6_1) = true := decide_eq_true c12
     clear c12
     replace H := Option.bind_eq_some_iff.mp H
     obtain ⟨t191, A130, H⟩ := H
     try dsimp only at H
     have A13 := sd_ A130
     clear A130
     replace H := Option.bind_eq_some_iff.mp H
     obtain ⟨t192, A140, H⟩ := H
     try dsimp only at H
     have A14 := sd_ A140
     clear A140
     have H' := sd_ H
     clear H
     obtain ⟨hcz15_0, hcz15_1, hcz15_2, hcz15_3, hfz15_0, hfz15_1, hfz15_2, hfz15_3⟩ := bf4_ BK189.out
     try go_wp2
     replace BK189 := sd_ (blk_drew BK189.out)
     replace HB := sd_ (below_drew1 HB.out)
     have p190 : 0 ≤ (x6_1 : Int) := dt_
     have q190 : x6_1 < (l0_3.length : Int) := dt_
     obtain ⟨ad190, A190_2, c190_2, A190_3, c190_3, e190, hx190_0, hx190_1, hx190_2, hx190_3, hl190_2, hi190_2, hl190_3, hi190_3⟩ := at_T40 HR0_3.out x6_1 p190 q190
     have hw190_3 := hx190_3
     have hw190_2 := hx190_2
     have hw190_1 := hx190_1
     have hw190_0 := hx190_0
     cases e190
     replace hx190_0 := (HB.out.cell (World.block_lt_of_cell? w _ hx190_0)).trans hx190_0
     replace hx190_1 := (HB.out.cell (World.block_lt_of_cell? w _ hx190_1)).trans hx190_1
     replace hx190_2 := (HB.out.cell (World.block_lt_of_cell? w _ hx190_2)).trans hx190_2
     replace hx190_3 := (HB.out.cell (World.block_lt_of_cell? w _ hx190_3)).trans hx190_3
     have HR190_2 := sd_ hi190_2
     have HC190_2 := sd_ hl190_2
     clear hi190_2 hl190_2
     have HR190_3 := sd_ hi190_3
     have HC190_3 := sd_ hl190_3
     clear hi190_3 hl190_3
     replace p190 := eq_true p190
     replace q190 := eq_true q190
     refine start_ (n := 15) (S := fun w' => w'.cell? ⟨gb189, 0, none⟩ = some (.int .i64 a0_0) ∧ w'.cell? ⟨gb189, 1, none⟩ = some (.int .i64 a0_1) ∧ w'.cell? ⟨gb189, 2, none⟩ = some (.slice A0_2 l0_2.length c0_2) ∧ w'.cell? ⟨gb189, 3, none⟩ = some (.slice (some ad190) l0_3.length c0_3) ∧ w'.cell? (ad190.add ((x6_1).toNat * 4)) = some (.int .i64 ((rd_T40 l0_3 x6_1).f0)) ∧ w'.cell? ⟨(ad190.add ((x6_1).toNat * 4)).block, (ad190.add ((x6_1).toNat * 4)).off + 1, none⟩ = some (.int .i64 ((rd_T40 l0_3 x6_1).f1)) ∧ w'.cell? ⟨(ad190.add ((x6_1).toNat * 4)).block, (ad190.add ((x6_1).toNat * 4)).off + 2, none⟩ = some (.slice A190_2 ((rd_T40 l0_3 x6_1).f2).length c190_2) ∧ w'.cell? ⟨(ad190.add ((x6_1).toNat * 4)).block, (ad190.add ((x6_1).toNat * 4)).off + 3, none⟩ = some (.slice A190_3 ((rd_T40 l0_3 x6_1).f3).length c190_3)) (ds := []) #[false, false, false, false, false, false, false, false, false, false, false, false, false, false, false] (by kernel_rfl) rfl rfl ⟨(blk_cell BK189.out 0).trans rfl, (blk_cell BK189.out 1).trans rfl, (blk_cell BK189.out 2).trans rfl, (blk_cell BK189.out 3).trans rfl, ((HB.out.cell (World.block_lt_of_cell? w _ hw190_0)).trans hw190_0), ((HB.out.cell (World.block_lt_of_cell? w _ hw190_1)).trans hw190_1), ((HB.out.cell (World.block_lt_of_cell? w _ hw190_2)).trans hw190_2), ((HB.out.cell (World.block_lt_of_cell? w _ hw190_3)).trans hw190_3)⟩ (fun hHeld => ?_); refine with_tabW spec_l2Uses.tab9 spec_l2Uses.bits9 (fun HT_ HW_ => ?_)
     generalize wr.drew = w16 at BK189 HB HR190_2 HR190_3 hx190_0 hx190_1 hx190_2 hx190_3 hHeld ⊢
     refine pure_ (i := 0) (N := some 21) (v := ?_) (a' := ?_) #[true, false, false, false, false, false, false, false, false, false, false, false, false, false, false] rfl rfl (any_of HT_.out (by kernel_rfl)) (fun _ _ _ h => h) (Or.inl ⟨by rfl, ?_⟩) ?_ ?_
     rotate_left
     ·intro w'
      go_simp
      with_reducible rfl
     rotate_left
     ·simp only [Act.put, List.setIfInBounds_toArray, List.set_cons_zero, List.set_cons_succ, i64_w, i32_w]
      rfl
     refine pure_ (i := 1) (N := some 22) (v := ?_) (a' := ?_) #[true, true, false, false, false, false, false, false, false, false, false, false, false, false, false] rfl rfl (any_of HT_.out (by kernel_rfl)) (fun _ _ _ h => h) (Or.inl ⟨by rfl, ?_⟩) ?_ ?_
     rotate_left
     ·intro w'
      go_simp
      with_reducible rfl
     rotate_left
     ·simp only [Act.put, List.setIfInBounds_toArray, List.set_cons_zero, List.set_cons_succ, i64_w, i32_w]
      rfl
     refine pure_ (i := 3) (N := some 24) (v := ?_) (a' := ?_) #[true, true, false, true, false, false, false, false, false, false, false, false, false, false, false] rfl rfl (any_of HT_.out (by kernel_rfl)) (fun _ _ _ h => h) (Or.inl ⟨by rfl, ?_⟩) ?_ ?_
     rotate_left
     ·intro w'
      go_simp
      with_reducible rfl
     rotate_left
     ·simp only [Act.put, List.setIfInBounds_toArray, List.set_cons_zero, List.set_cons_succ, i64_w, i32_w]
      rfl
     refine pure_ (i := 6) (N := some 27) (v := ?_) (a' := ?_) #[true, true, false, true, false, false, true, false, false, false, false, false, false, false, false] rfl rfl (any_of HT_.out (by kernel_rfl)) (fun _ _ _ h => h) (Or.inl ⟨by rfl, ?_⟩) ?_ ?_
     rotate_left
     ·intro w'
      go_simp
      with_reducible rfl
     rotate_left
     ·simp only [Act.put, List.setIfInBounds_toArray, List.set_cons_zero, List.set_cons_succ, i64_w, i32_w]
      rfl
     refine pure_ (i := 7) (N := some 28) (v := ?_) (a' := ?_) #[true, true, false, true, false, false, true, true, false, false, false, false, false, false, false] rfl rfl (any_of HT_.out (by kernel_rfl)) (fun _ _ _ h => h) (Or.inl ⟨by rfl, ?_⟩) ?_ ?_
     rotate_left
     ·intro w'
      go_simp
      with_reducible rfl
     rotate_left
     ·simp only [Act.put, List.setIfInBounds_toArray, List.set_cons_zero, List.set_cons_succ, i64_w, i32_w]
      rfl
     refine pure_ (i := 9) (N := some 30) (v := ?_) (a' := ?_) #[true, true, false, true, false, false, true, true, false, true, false, false, false, false, false] rfl rfl (any_of HT_.out (by kernel_rfl)) (fun _ _ _ h => h) (Or.inl ⟨by rfl, ?_⟩) ?_ ?_
     rotate_left
     ·intro w'
      go_simp
      with_reducible rfl
     rotate_left
     ·simp only [Act.put, List.setIfInBounds_toArray, List.set_cons_zero, List.set_cons_succ, i64_w, i32_w]
      rfl
     refine take_ (i := 2) (N := some 23) (v := ?_) (a' := ?_) #[true, true, true, true, false, false, true, true, false, true, false, false, false, false, false] rfl rfl (take_ofW HT_.out HW_.out (by kernel_rfl)) (fun _ _ _ h => h) (Or.inl ⟨by rfl, ?_⟩) hHeld ?_ ?_
     rotate_left
     ·rintro w' ⟨s0, s1, s2, s3, s4, s5, s6, s7⟩
      go_simp
      with_reducible rfl
     rotate_left
     ·simp only [Act.put, List.setIfInBounds_toArray, List.set_cons_zero, List.set_cons_succ, i64_w, i32_w]
      rfl
     refine pure_ (i := 4) (N := some 25) (v := ?_) (a' := ?_) #[true, true, true, true, true, false, true, true, false, true, false, false, false, false, false] rfl rfl (any_of HT_.out (by kernel_rfl)) (fun _ _ _ h => h) (Or.inl ⟨by rfl, ?_⟩) ?_ ?_
     rotate_left
     ·intro w'
      go_simp
      with_reducible rfl
     rotate_left
     ·simp only [Act.put, List.setIfInBounds_toArray, List.set_cons_zero, List.set_cons_succ, i64_w, i32_w]
      rfl
     refine take_ (i := 5) (N := some 26) (v := ?_) (a' := ?_) #[true, true, true, true, true, true, true, true, false, true, false, false, false, false, false] rfl rfl (take_ofW HT_.out HW_.out (by kernel_rfl)) (fun _ _ _ h => h) (Or.inl ⟨by rfl, ?_⟩) hHeld ?_ ?_
     rotate_left
     ·rintro w' ⟨s0, s1, s2, s3, s4, s5, s6, s7⟩
      go_simp
      with_reducible rfl
     rotate_left
     ·simp only [Act.put, List.setIfInBounds_toArray, List.set_cons_zero, List.set_cons_succ, i64_w, i32_w]
      rfl
     refine take_ (i := 8) (N := some 29) (v := ?_) (a' := ?_) #[true, true, true, true, true, true, true, true, true, true, false, false, false, false, false] rfl rfl (take_ofW HT_.out HW_.out (by kernel_rfl)) (fun _ _ _ h => h) (Or.inl ⟨by rfl, ?_⟩) hHeld ?_ ?_
     rotate_left
     ·rintro w' ⟨s0, s1, s2, s3, s4, s5, s6, s7⟩
      go_simp
      with_reducible rfl
     rotate_left
     ·simp only [Act.put, List.setIfInBounds_toArray, List.set_cons_zero, List.set_cons_succ, i64_w, i32_w]
      rfl
     refine one_ (i := 10) (N := some 31) #[true, true, true, true, true, true, true, true, true, true, true, false, false, false, false] rfl rfl (one_of HT_.out (by kernel_rfl)) (by decide) (fun K hK => ?_)
     refine goes_ Try.func93 (by kernel_rfl) rfl #[.int .i64 a0_0, .int .i64 x6_1] (by rfl) rfl rfl la_ ?_
     with_reducible refine (spec_l2Adds.calls k1 a0_0 x6_1 t191 _ A13.out).mono ?_
     rintro e w' ⟨rfl, ⟨nd, rfl⟩⟩
     refine ⟨_, rfl, ?_⟩
     refine hK.out _ _ ⟨(blk_cell BK189.out 0).trans rfl, (blk_cell BK189.out 1).trans rfl, (blk_cell BK189.out 2).trans rfl, (blk_cell BK189.out 3).trans rfl, ((HB.out.cell (World.block_lt_of_cell? w _ hw190_0)).trans hw190_0), ((HB.out.cell (World.block_lt_of_cell? w _ hw190_1)).trans hw190_1), ((HB.out.cell (World.block_lt_of_cell? w _ hw190_2)).trans hw190_2), ((HB.out.cell (World.block_lt_of_cell? w _ hw190_3)).trans hw190_3)⟩ (fun hHeld => ?_)
     clear hK K
     refine norm_ (a' := ?_) ?_ ?_
     rotate_left
     ·show Act.put _ (some 31) _ = _
      simp only [Act.put, List.setIfInBounds_toArray, List.set_cons_zero, List.set_cons_succ, i64_w, i32_w]
      rfl
     refine pure_ (i := 11) (N := some 32) (v := ?_) (a' := ?_) #[true, true, true, true, true, true, true, true, true, true, true, true, false, false, false] rfl rfl (any_of HT_.out (by kernel_rfl)) (fun _ _ _ h => h) (Or.inl ⟨by rfl, ?_⟩) ?_ ?_
     rotate_left
     ·intro w'
      go_simp
      with_reducible rfl
     rotate_left
     ·simp only [Act.put, List.setIfInBounds_toArray, List.set_cons_zero, List.set_cons_succ, i64_w, i32_w]
      rfl
     refine one_ (i := 12) (N := some 33) #[true, true, true, true, true, true, true, true, true, true, true, true, true, false, false] rfl rfl (one_of HT_.out (by kernel_rfl)) (by decide) (fun K hK => ?_)
     refine goes_ Try.func97 (by kernel_rfl) rfl #[.agg #[.int .i64 ((rd_T40 l0_3 x6_1).f0), .int .i64 ((rd_T40 l0_3 x6_1).f1), .slice A190_2 ((rd_T40 l0_3 x6_1).f2).length c190_2, .slice A190_3 ((rd_T40 l0_3 x6_1).f3).length c190_3], .int .i64 (wrap64 (a1 + t191))] (by rfl) rfl rfl la_ ?_
     with_reducible refine (ih k1 (by have := HK1.out; omega) ((rd_T40 l0_3 x6_1).f0) ((rd_T40 l0_3 x6_1).f1) _ _ ((rd_T40 l0_3 x6_1).f2) _ _ ((rd_T40 l0_3 x6_1).f3) (wrap64 (a1 + t191)) t192 _ ?side1 ?side2 ?side3 ?side4 A14.out).mono ?_
     (case side1 => repeat (first | exact (Kd.C_below HR190_2.out (bw1_ HB.out GE189.out)) | (with_reducible refine Kd.C_alloc ?_ _) | (with_reducible refine Kd.C_drewN ?_ _) | (with_reducible refine Kd.C_drew ?_)))
     (case side2 => exact HC190_2.out)
     (case side3 => repeat (first | exact (Kd.C_below HR190_3.out (bw1_ HB.out GE189.out)) | (with_reducible refine Kd.C_alloc ?_ _) | (with_reducible refine Kd.C_drewN ?_ _) | (with_reducible refine Kd.C_drew ?_)))
     (case side4 => exact HC190_3.out)
     rintro e w17 ⟨rfl, hb⟩
     refine ⟨_, rfl, ?_⟩
     replace BK189 := sd_ (bb_ BK189.out hb)
     replace HB := sd_ (below_step (bw1_ HB.out GE189.out) hb)
     (try clear hb)
     (try clear hb2)
     (try clear hk)
     (try clear hi)
     refine hK.out _ _ ⟨(blk_cell BK189.out 0).trans rfl, (blk_cell BK189.out 1).trans rfl, (blk_cell BK189.out 2).trans rfl, (blk_cell BK189.out 3).trans rfl, ((HB.out.cell (World.block_lt_of_cell? w _ hw190_0)).trans hw190_0), ((HB.out.cell (World.block_lt_of_cell? w _ hw190_1)).trans hw190_1), ((HB.out.cell (World.block_lt_of_cell? w _ hw190_2)).trans hw190_2), ((HB.out.cell (World.block_lt_of_cell? w _ hw190_3)).trans hw190_3)⟩ (fun hHeld => ?_)
     clear hK K
     refine norm_ (a' := ?_) ?_ ?_
     rotate_left
     ·show Act.put _ (some 33) _ = _
      simp only [Act.put, List.setIfInBounds_toArray, List.set_cons_zero, List.set_cons_succ, i64_w, i32_w]
      rfl
     refine pure_ (i := 13) (N := some 34) (v := ?_) (a' := ?_) #[true, true, true, true, true, true, true, true, true, true, true, true, true, true, false] rfl rfl (any_of HT_.out (by kernel_rfl)) (fun _ _ _ h => h) (Or.inl ⟨by rfl, ?_⟩) ?_ ?_
     rotate_left
     ·intro w'
      go_simp
      with_reducible rfl
     rotate_left
     ·simp only [Act.put, List.setIfInBounds_toArray, List.set_cons_zero, List.set_cons_succ, i64_w, i32_w]
      rfl
     refine pure_ (i := 14) (N := some 5) (v := ?_) (a' := ?_) #[true, true, true, true, true, true, true, true, true, true, true, true, true, true, true] rfl rfl (any_of HT_.out (by kernel_rfl)) (fun _ _ _ h => h) (Or.inl ⟨by rfl, ?_⟩) ?_ ?_
     rotate_left
     ·intro w'
      go_simp
      with_reducible rfl
     rotate_left
     ·simp only [Act.put, List.setIfInBounds_toArray, List.set_cons_zero, List.set_cons_succ, i64_w, i32_w]
      rfl
     refine done_ (done_of HT_.out (by kernel_rfl)) ?_
     try go_wp2
     go_roundg k1
     case measure => have := HK1.out; omega
     case rel => exact ⟨(wrap64 (x5_1 + t192)), (wrap64 (x6_1 + 1)), sm_, sm_, H', ⟨by have := HK1.out; omega⟩, ⟨by exact bz_ BK189.out⟩, ⟨bw1_ HB.out GE189.out⟩⟩
    rw [if_neg c12] at H
    exact absurd H (by simp)
   rw [if_neg c11] at H
   have c11b0 : decide (x6_1 < (l0_3.length : Int)) = false := decide_eq_false c11
   clear c11
   obtain rfl := Option.some.inj H
   obtain ⟨hcz18_0, hcz18_1, hcz18_2, hcz18_3, hfz18_0, hfz18_1, hfz18_2, hfz18_3⟩ := bf4_ BK189.out
   go_wp2
   go_ret
   exact ⟨an_, bw1_ HB.out GE189.out⟩


/-! ### spec_l2Fits: function 71 -/
def spec_l2Fits.f (k : Nat) (a0_0 : Int) (a0_1 : Int) (l0_2 : List Int) (l0_3 : List (S40)) (a1 : Int) (a2_0 : Int) (a2_1 : Int) (l2_2 : List Int) (l2_3 : List (S40)) : Option (Bool) := (spec_l2Left.f k a0_0 a0_1 l0_2 l0_3 400).bind fun t195 => ((spec_l2Uses.f k a0_0 a0_1 l0_2 l0_3 a1).bind fun t196 => ((spec_l2Left.f k a2_0 a2_1 l2_2 l2_3 400).bind fun t197 => (some (decide ((wrap64 ((wrap64 (400 - t195)) + (wrap64 (t196 * (wrap64 ((wrap64 (400 - t197)) - 1)))))) ≤ 400)))))
set_option maxHeartbeats 8000000 in
set_option maxRecDepth 100000 in
theorem spec_l2Fits.calls (k : Nat) (a0_0 : Int) (a0_1 : Int) (A0_2 : Option Addr) (c0_2 : Nat) (l0_2 : List Int) (A0_3 : Option Addr) (c0_3 : Nat) (l0_3 : List (S40)) (a1 : Int) (a2_0 : Int) (a2_1 : Int) (A2_2 : Option Addr) (c2_2 : Nat) (l2_2 : List Int) (A2_3 : Option Addr) (c2_3 : Nat) (l2_3 : List (S40)) (r : Bool) (w : World) (hr0_2 : Kd.C (Kd.int .i64) w A0_2 l0_2.length l0_2) (hc0_2 : l0_2.length ≤ c0_2) (hr0_3 : Kd.C k40 w A0_3 l0_3.length l0_3) (hc0_3 : l0_3.length ≤ c0_3) (hr2_2 : Kd.C (Kd.int .i64) w A2_2 l2_2.length l2_2) (hc2_2 : l2_2.length ≤ c2_2) (hr2_3 : Kd.C k40 w A2_3 l2_3.length l2_3) (hc2_3 : l2_3.length ≤ c2_3) (h : spec_l2Fits.f k a0_0 a0_1 l0_2 l0_3 a1 a2_0 a2_1 l2_2 l2_3 = some r) :
  Calls Try.prog 71 #[.agg #[.int .i64 a0_0, .int .i64 a0_1, .slice A0_2 l0_2.length c0_2, .slice A0_3 l0_3.length c0_3], .int .i64 a1, .agg #[.int .i64 a2_0, .int .i64 a2_1, .slice A2_2 l2_2.length c2_2, .slice A2_3 l2_3.length c2_3]] w fun e w' => e = .returned (.bool r) ∧ Below w.heap.size w w' := by
 have hu40 := Try.underlying40
 have HR0_2 := sd_ hr0_2
 have HC0_2 := sd_ hc0_2
 clear hr0_2 hc0_2
 have HR0_3 := sd_ hr0_3
 have HC0_3 := sd_ hc0_3
 clear hr0_3 hc0_3
 have HR2_2 := sd_ hr2_2
 have HC2_2 := sd_ hc2_2
 clear hr2_2 hc2_2
 have HR2_3 := sd_ hr2_3
 have HC2_3 := sd_ hc2_3
 clear hr2_3 hc2_3
 have HB := sd_ (Below.refl w.heap.size w)
 have H : ((spec_l2Left.f k a0_0 a0_1 l0_2 l0_3 400).bind fun t195 => ((spec_l2Uses.f k a0_0 a0_1 l0_2 l0_3 a1).bind fun t196 => ((spec_l2Left.f k a2_0 a2_1 l2_2 l2_3 400).bind fun t197 => (some (decide ((wrap64 ((wrap64 (400 - t195)) + (wrap64 (t196 * (wrap64 ((wrap64 (400 - t197)) - 1)))))) ≤ 400)))))) = some r := h
 clear h
 replace H := Option.bind_eq_some_iff.mp H
 obtain ⟨t195, A40, H⟩ := H
 try dsimp only at H
 have A4 := sd_ A40
 clear A40
 replace H := Option.bind_eq_some_iff.mp H
 obtain ⟨t196, A50, H⟩ := H
 try dsimp only at H
 have A5 := sd_ A50
 clear A50
 replace H := Option.bind_eq_some_iff.mp H
 obtain ⟨t197, A60, H⟩ := H
 try dsimp only at H
 have A6 := sd_ A60
 clear A60
 obtain rfl := Option.some.inj H
 go_enter Try.func71, Try.ntmps71
 try go_wp2_with (first | ((with_reducible refine gate_dst (N := 3) rfl ?_); refine bx_ (N := 3) (cs := #[.int .i64 a0_0, .int .i64 a0_1, .slice A0_2 l0_2.length c0_2, .slice A0_3 l0_3.length c0_3]) (t := 40) ?_; intro gb193 hg w7 hbox hb; have BK193 := sd_ (hbox); have GW193 := sd_ (gs_ hg (bw0_ HB.out)); have GE193 := sd_ (gs_ hg (bw0_ HB.out)); replace HB := sd_ (below_step (bw0_ HB.out) hb); clear hb hbox hg) | ((with_reducible refine gate_dst (N := 5) rfl ?_); refine bx_ (N := 5) (cs := #[.int .i64 a2_0, .int .i64 a2_1, .slice A2_2 l2_2.length c2_2, .slice A2_3 l2_3.length c2_3]) (t := 40) ?_; intro gb194 hg w8 hbox hb; have BK194 := sd_ (hbox); have GW194 := sd_ (gs_ hg (bw1_ HB.out GE193.out)); have GE194 := sd_ (gs_ hg (bw1_ HB.out GE193.out)); replace HB := sd_ (below_step (bw1_ HB.out GE193.out) hb); have NB193_194 := sd_ (nl_ hg (bl_ BK193.out)); have NB194_193 := sd_ (ng_ hg (bl_ BK193.out)); replace BK193 := sd_ (bb_ BK193.out hb); clear hb hbox hg))
 refine qb_region (by kernel_rfl) (by kernel_rfl) ?_
 have HQ := fun (wq : World) (hq : Below w8.heap.size w8 wq) => below_step HB.out hq
 repeat ((first | (apply qb_skip; (focus rfl)) | (refine qb_callN 8 rfl ?_; apply qb_call 8 rfl Try.func82 (by kernel_rfl) rfl rfl; (focus rfl); (focus (exact fun wq9 hb9 => qb_b hb9 (spec_l2Left.calls k a0_0 a0_1 _ _ l0_2 _ _ l0_3 400 t195 _ (Kd.C_below HR0_2.out (HQ _ hb9)) HC0_2.out (Kd.C_below HR0_3.out (HQ _ hb9)) HC0_3.out A4.out))); (focus (rfl))) | (refine qb_callN 12 rfl ?_; apply qb_call 12 rfl Try.func97 (by kernel_rfl) rfl rfl; (focus rfl); (focus (exact fun wq9 hb9 => qb_b hb9 (spec_l2Uses.calls k a0_0 a0_1 _ _ l0_2 _ _ l0_3 a1 t196 _ (Kd.C_below HR0_2.out (HQ _ hb9)) HC0_2.out (Kd.C_below HR0_3.out (HQ _ hb9)) HC0_3.out A5.out))); (focus (rfl))) | (refine qb_callN 14 rfl ?_; apply qb_call 14 rfl Try.func82 (by kernel_rfl) rfl rfl; (focus rfl); (focus (exact fun wq9 hb9 => qb_b hb9 (spec_l2Left.calls k a2_0 a2_1 _ _ l2_2 _ _ l2_3 400 t197 _ (Kd.C_below HR2_2.out (HQ _ hb9)) HC2_2.out (Kd.C_below HR2_3.out (HQ _ hb9)) HC2_3.out A6.out))); (focus (rfl))) | (apply qb_val; (focus rfl); (focus (intro wq9 _; go_simp; with_reducible rfl))) | (apply qb_val; (focus rfl); (focus (intro wq9 hb9_; have hb9 : Below w8.heap.size w8 wq9 := hb9_; have BK193 := sd_ (blk_below BK193.out hb9); have BK194 := sd_ (blk_below BK194.out hb9); have hc9_193_0 : wq9.cell? ⟨gb193, 0, none⟩ = some (.int .i64 a0_0) := (blk_cell BK193.out 0).trans rfl; have hc9_193_1 : wq9.cell? ⟨gb193, 1, none⟩ = some (.int .i64 a0_1) := (blk_cell BK193.out 1).trans rfl; have hc9_193_2 : wq9.cell? ⟨gb193, 2, none⟩ = some (.slice A0_2 l0_2.length c0_2) := (blk_cell BK193.out 2).trans rfl; have hc9_193_3 : wq9.cell? ⟨gb193, 3, none⟩ = some (.slice A0_3 l0_3.length c0_3) := (blk_cell BK193.out 3).trans rfl; have hc9_194_0 : wq9.cell? ⟨gb194, 0, none⟩ = some (.int .i64 a2_0) := (blk_cell BK194.out 0).trans rfl; have hc9_194_1 : wq9.cell? ⟨gb194, 1, none⟩ = some (.int .i64 a2_1) := (blk_cell BK194.out 1).trans rfl; have hc9_194_2 : wq9.cell? ⟨gb194, 2, none⟩ = some (.slice A2_2 l2_2.length c2_2) := (blk_cell BK194.out 2).trans rfl; have hc9_194_3 : wq9.cell? ⟨gb194, 3, none⟩ = some (.slice A2_3 l2_3.length c2_3) := (blk_cell BK194.out 3).trans rfl; go_simp; with_reducible rfl)))); (focus (simp only [Act.put, List.setIfInBounds_toArray, List.set_cons_zero, List.set_cons_succ, i64_w, i32_w]; rfl)))
 refine qb_nil ?_
 intro w12 hb
 replace BK193 := sd_ (blk_below BK193.out hb)
 replace BK194 := sd_ (blk_below BK194.out hb)
 replace HB := sd_ (below_step HB.out hb)
 clear hb
 (try clear HQ)
 try go_wp2
 go_ret
 exact ⟨an_, bw2_ HB.out GE193.out GE194.out⟩


/-! ### spec_l2Kids: function 114 -/
def spec_l2Kids.j0 : Nat → Int → Bool → Option (Int)
 | 0, _, _ => none
 | k + 1, x0, x6 => if x6 = true then (some 2) else ((spec_l2Box.f x0).bind fun t159 => (if t159 = true then (some 1) else (some (-1))))
def spec_l2Kids.f (k : Nat) (a0 : Int) : Option (Int) := if a0 = 0 then (some 0) else (if a0 = 1 then (spec_l2Kids.j0 k a0 true) else (if a0 = 2 then (spec_l2Kids.j0 k a0 true) else ((spec_l2Arrow.f a0).bind fun t158 => (spec_l2Kids.j0 k a0 t158))))
set_option maxHeartbeats 8000000 in
set_option maxRecDepth 100000 in
theorem spec_l2Kids.calls (k : Nat) (a0 : Int) (r : Int) (w : World) (h : spec_l2Kids.f k a0 = some r) :
  Calls Try.prog 114 #[.int .i64 a0] w fun e w' => e = .returned (.int .i64 r) ∧ Drawn0 w w' := by
 have H : (if a0 = 0 then (some 0) else (if a0 = 1 then (spec_l2Kids.j0 k a0 true) else (if a0 = 2 then (spec_l2Kids.j0 k a0 true) else ((spec_l2Arrow.f a0).bind fun t158 => (spec_l2Kids.j0 k a0 t158))))) = some r := h
 clear h
 by_cases c2 : a0 = 0
 ·rw [if_pos c2] at H
  have c2b0 : (a0 == 0) = true := beq_iff_eq.mpr c2
  have c2b1 : (a0 != 0) = false := bne_eq_false_iff_eq.mpr c2
  clear c2
  obtain rfl := Option.some.inj H
  go_enter Try.func114, Try.ntmps114
  go_wp2
  go_ret
  exact ⟨by first | rfl | (simp; done) | (simp [*]; done), by repeat (first | exact Drawn0.refl _ | apply Drawn0.step)⟩
 rw [if_neg c2] at H
 have c2b0 : (a0 == 0) = false := beq_eq_false_iff_ne.mpr c2
 have c2b1 : (a0 != 0) = true := bne_iff_ne.mpr c2
 have HC3 := sd_ H
 clear H
 go_enter Try.func114, Try.ntmps114
 go_upto_region 3 with (fail)
 go_cut [6] (fun v6 wc => ∃ (kq : Nat) (x6_2 : Bool), v6 = .bool x6_2 ∧ Aside0 (spec_l2Kids.j0 kq a0 x6_2 = some r) ∧ Aside0 (kq ≤ k) ∧ Drawn0 w wc)
 case first =>
  have H := HC3.out
  clear HC3
  by_cases c4 : a0 = 1
  ·rw [if_pos c4] at H
   have c4b0 : (a0 == 1) = true := beq_iff_eq.mpr c4
   have c4b1 : (a0 != 1) = false := bne_eq_false_iff_eq.mpr c4
   clear c4
   (first | rw [c4b0] | (simp only [i64_w, i32_w]; rw [c4b0]) | skip)
   have H' := sd_ H
   clear H
   go_wp2
   go_meet
   case rel => exact ⟨_, (true), sm_, H', ⟨by first | omega | exact Nat.le_refl _⟩, by repeat (first | exact Drawn0.refl _ | apply Drawn0.step)⟩
  rw [if_neg c4] at H
  have c4b0 : (a0 == 1) = false := beq_eq_false_iff_ne.mpr c4
  have c4b1 : (a0 != 1) = true := bne_iff_ne.mpr c4
  (first | rw [c4b0] | (simp only [i64_w, i32_w]; rw [c4b0]) | skip)
  by_cases c5 : a0 = 2
  ·rw [if_pos c5] at H
   have c5b0 : (a0 == 2) = true := beq_iff_eq.mpr c5
   have c5b1 : (a0 != 2) = false := bne_eq_false_iff_eq.mpr c5
   clear c5
   have H' := sd_ H
   clear H
   go_wp2
   go_meet
   case rel => exact ⟨_, (true), sm_, H', ⟨by first | omega | exact Nat.le_refl _⟩, by repeat (first | exact Drawn0.refl _ | apply Drawn0.step)⟩
  rw [if_neg c5] at H
  have c5b0 : (a0 == 2) = false := beq_eq_false_iff_ne.mpr c5
  have c5b1 : (a0 != 2) = true := bne_iff_ne.mpr c5
  replace H := Option.bind_eq_some_iff.mp H
  obtain ⟨t158, A60, H⟩ := H
  try dsimp only at H
  have A6 := sd_ A60
  clear A60
  have H' := sd_ H
  clear H
  go_wp2_with (first | (go_at_call 117; (with_reducible refine (spec_l2Arrow.calls a0 t158 _ A6.out).mono ?_); rintro e w' ⟨rfl, ⟨nd, rfl⟩⟩))
  go_meet
  case rel => exact ⟨_, (t158), sm_, H', ⟨by first | omega | exact Nat.le_refl _⟩, by repeat (first | exact Drawn0.refl _ | apply Drawn0.step)⟩
 case rest =>
  clear HC3
  try clear c1
  try clear c2
  try clear c2b0
  try clear c2b1
  obtain ⟨kq, x6_2, rfl, HA, HJ2, ⟨mc2, rfl⟩⟩ := hcut
  cases kq with
  | zero => exact absurd HA.out (by simp [spec_l2Kids.j0])
  | succ kj2 =>
   have H := HA.out
   clear HA
   simp only [spec_l2Kids.j0] at H
   by_cases c7 : x6_2 = true
   ·subst c7
    have H1 : (some 2) = some r := by rw [if_pos rfl] at H; exact H
    clear H
    have H := H1
    clear H1
    obtain rfl := Option.some.inj H
    go_wp2
    go_ret
    exact ⟨by first | rfl | (simp; done) | (simp [*]; done), by repeat (first | exact Drawn0.refl _ | apply Drawn0.step)⟩
   replace c7 := Bool.eq_false_iff.mpr c7
   subst c7
   have H1 : ((spec_l2Box.f a0).bind fun t159 => (if t159 = true then (some 1) else (some (-1)))) = some r := by rw [if_neg (show ¬ (false = true) by decide)] at H; exact H
   clear H
   have H := H1
   clear H1
   replace H := Option.bind_eq_some_iff.mp H
   obtain ⟨t159, A80, H⟩ := H
   try dsimp only at H
   have A8 := sd_ A80
   clear A80
   by_cases c9 : t159 = true
   ·subst c9
    have H1 : (some 1) = some r := by rw [if_pos rfl] at H; exact H
    clear H
    have H := H1
    clear H1
    obtain rfl := Option.some.inj H
    go_wp2_with (first | ((with_reducible refine gate_callee (f := 139) rfl ?_); refine goesL_ (some 19) rfl rfl Try.func139 (by kernel_rfl) rfl #[.int .i64 a0] rfl la_ ?_; (with_reducible refine (spec_l2Box.calls a0 true _ A8.out).mono ?_); rintro e w' ⟨rfl, ⟨nd, rfl⟩⟩; refine ⟨_, rfl, ?_⟩))
    go_ret
    exact ⟨by first | rfl | (simp; done) | (simp [*]; done), by repeat (first | exact Drawn0.refl _ | apply Drawn0.step)⟩
   replace c9 := Bool.eq_false_iff.mpr c9
   subst c9
   have H1 : (some (-1)) = some r := by rw [if_neg (show ¬ (false = true) by decide)] at H; exact H
   clear H
   have H := H1
   clear H1
   obtain rfl := Option.some.inj H
   go_wp2_with (first | ((with_reducible refine gate_callee (f := 139) rfl ?_); refine goesL_ (some 19) rfl rfl Try.func139 (by kernel_rfl) rfl #[.int .i64 a0] rfl la_ ?_; (with_reducible refine (spec_l2Box.calls a0 false _ A8.out).mono ?_); rintro e w' ⟨rfl, ⟨nd, rfl⟩⟩; refine ⟨_, rfl, ?_⟩))
   go_ret
   exact ⟨by first | rfl | (simp; done) | (simp [*]; done), by repeat (first | exact Drawn0.refl _ | apply Drawn0.step)⟩

end Go.Proofs.Ytipfkicndjddgaa.P
end
