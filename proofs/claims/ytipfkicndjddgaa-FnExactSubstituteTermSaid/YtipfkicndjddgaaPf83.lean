-- Printed by this session's own program (wip/tools/mkprint.py) out of the translation. Not trusted: Lean checks it.
import Derived.Test.YtipfkicndjddgaaP0
import Derived.Test.YtipfkicndjddgaaM9
import Derived.Test.YtipfkicndjddgaaM6
/-! short words -/
namespace Go.Proofs.Ytipfkicndjddgaa.P
open Go.RowKit Go.Proofs.YtipfkicndjddgaaW.PrintWords Go.Proofs.YtipfkicndjddgaaW.PrintLast Go.Proofs.YtipfkicndjddgaaW.PrintMore
attribute [local go_sem] max2_int min2_int max_two min_two max_three min_three max_four min_four   -- for this text's walks alone
set_option linter.unusedVariables false
set_option linter.unusedSimpArgs false

/-! ### spec_l2Term: function 83 -/
mutual
def spec_l2Term.l0 : Nat → Int → Int → Bool → Int → Int → Int → List Int → List (S40) → Option (Bool)
 | 0, _, _, _, _, _, _, _, _ => none
 | k + 1, x1, x2, x3, x9, x182000, x182001, x182002, x182003 => if x9 < (x182003.length : Int) then (if 0 ≤ x9 then ((spec_l2Adds.f k x182000 x9).bind fun t184 => ((spec_l2Term.f k ((rd_T40 x182003 x9).f0) ((rd_T40 x182003 x9).f1) ((rd_T40 x182003 x9).f2) ((rd_T40 x182003 x9).f3) (wrap64 (x1 + t184)) x2 x3).bind fun t185 => (if t185 = true then (spec_l2Term.l0 k x1 x2 x3 (wrap64 (x9 + 1)) x182000 x182001 x182002 x182003) else (some false)))) else (none)) else (some true)
def spec_l2Term.f : Nat → Int → Int → List Int → List (S40) → Int → Int → Bool → Option (Bool)
 | 0, _, _, _, _, _, _, _ => none
 | k + 1, a0_0, a0_1, l0_2, l0_3, a1, a2, a3 => (spec_l2Node.f k a0_0 a0_1 l0_2 l0_3 a1 a2 a3).bind fun t182 => (if t182 = true then (spec_l2Term.l0 k a1 a2 a3 0 a0_0 a0_1 l0_2 l0_3) else (some false))
end
def spec_l2Term.T6 : Bool × List (List Nat × List Nat) := (true, [([], []), ([0], [0]), ([], []), ([1, 2], [1, 2]), ([3], [3]), ([], []), ([], []), ([6], [6]), ([], []), ([7, 8], [7, 8]), ([5, 9], [5, 9]), ([], []), ([], []), ([4, 10, 11, 12, 9], [4, 10, 11, 12]), ([13], [13])])
def spec_l2Term.B6 : List Nat := [0, 1, 0, 7, 15, 0, 0, 64, 0, 448, 992, 0, 0, 8191, 16383]
theorem spec_l2Term.tab6 : rtab .any (opsOf Try.f83 6) = spec_l2Term.T6 := by kernel_rfl
theorem spec_l2Term.bits6 : waitsOk spec_l2Term.T6.2 spec_l2Term.B6 = true := by kernel_rfl
set_option maxHeartbeats 8000000 in
set_option maxRecDepth 100000 in
theorem spec_l2Term.calls (k : Nat) : ∀ (a0_0 : Int) (a0_1 : Int) (A0_2 : Option Addr) (c0_2 : Nat) (l0_2 : List Int) (A0_3 : Option Addr) (c0_3 : Nat) (l0_3 : List (S40)) (a1 : Int) (a2 : Int) (a3 : Bool) (r : Bool) (w : World) (hr0_2 : Kd.C (Kd.int .i64) w A0_2 l0_2.length l0_2) (hc0_2 : l0_2.length ≤ c0_2) (hr0_3 : Kd.C k40 w A0_3 l0_3.length l0_3) (hc0_3 : l0_3.length ≤ c0_3) (h : spec_l2Term.f k a0_0 a0_1 l0_2 l0_3 a1 a2 a3 = some r),
  Calls Try.prog 83 #[.agg #[.int .i64 a0_0, .int .i64 a0_1, .slice A0_2 l0_2.length c0_2, .slice A0_3 l0_3.length c0_3], .int .i64 a1, .int .i64 a2, .bool a3] w fun e w' => e = .returned (.bool r) ∧ Below w.heap.size w w' := by
 induction k using Nat.strongRecOn with
 | _ k ih =>
 intro a0_0 a0_1 A0_2 c0_2 l0_2 A0_3 c0_3 l0_3 a1 a2 a3 r w hr0_2 hc0_2 hr0_3 hc0_3 h
 cases k with
 | zero => exact absurd h (by simp [spec_l2Term.f])
 | succ k =>
 simp only [spec_l2Term.f] at h
 have hu40 := Try.underlying40
 have HR0_2 := sd_ hr0_2
 have HC0_2 := sd_ hc0_2
 clear hr0_2 hc0_2
 have HR0_3 := sd_ hr0_3
 have HC0_3 := sd_ hc0_3
 clear hr0_3 hc0_3
 have HB := sd_ (Below.refl w.heap.size w)
 have H : ((spec_l2Node.f k a0_0 a0_1 l0_2 l0_3 a1 a2 a3).bind fun t182 => (if t182 = true then (spec_l2Term.l0 k a1 a2 a3 0 a0_0 a0_1 l0_2 l0_3) else (some false))) = some r := h
 clear h
 replace H := Option.bind_eq_some_iff.mp H
 obtain ⟨t182, A50, H⟩ := H
 try dsimp only at H
 have A5 := sd_ A50
 clear A50
 by_cases c6 : t182 = true
 ·subst c6
  have H1 : (spec_l2Term.l0 k a1 a2 a3 0 a0_0 a0_1 l0_2 l0_3) = some r := by rw [if_pos rfl] at H; exact H
  clear H
  have H := H1
  clear H1
  have H' := sd_ H
  clear H
  go_enter Try.func83, Try.ntmps83
  go_wp2_with (first | ((with_reducible refine gate_dst (N := 4) rfl ?_); refine bx_ (N := 4) (cs := #[.int .i64 a0_0, .int .i64 a0_1, .slice A0_2 l0_2.length c0_2, .slice A0_3 l0_3.length c0_3]) (t := 40) ?_; intro gb181 hg w7 hbox hb; have BK181 := sd_ (hbox); have GW181 := sd_ (gs_ hg (bw0_ HB.out)); have GE181 := sd_ (gs_ hg (bw0_ HB.out)); replace HB := sd_ (below_step (bw0_ HB.out) hb); clear hb hbox hg; obtain ⟨hcz8_0, hcz8_1, hcz8_2, hcz8_3, hfz8_0, hfz8_1, hfz8_2, hfz8_3⟩ := bf4_ BK181.out) | ((with_reducible refine gate_callee (f := 111) rfl ?_); refine goesL_ (some 14) rfl rfl Try.func111 (by kernel_rfl) rfl #[.agg #[.int .i64 a0_0, .int .i64 a0_1, .slice A0_2 l0_2.length c0_2, .slice A0_3 l0_3.length c0_3], .int .i64 a1, .int .i64 a2, .bool a3] rfl la_ ?_; (with_reducible refine (spec_l2Node.calls k a0_0 a0_1 _ _ l0_2 _ _ l0_3 a1 a2 a3 true _ (kc_ HR0_2.out HB.out) HC0_2.out (kc_ HR0_3.out HB.out) HC0_3.out A5.out).mono ?_); rintro e w9 ⟨rfl, hb⟩; refine ⟨_, rfl, ?_⟩; replace BK181 := sd_ (bb_ BK181.out hb); replace HB := sd_ (below_step (bw1_ HB.out GE181.out) hb); (try clear hb)))
  go_loopg [9] k (fun kq v9 w' => ∃ (x9_1 : Int), v9 = .int .i64 x9_1 ∧ Aside0 (spec_l2Term.l0 kq a1 a2 a3 x9_1 a0_0 a0_1 l0_2 l0_3 = some r) ∧ Aside0 (kq ≤ k) ∧ Aside0 (w'.heap[gb181]? = some (.cells #[.int .i64 a0_0, .int .i64 a0_1, (.slice A0_2 l0_2.length c0_2), (.slice A0_3 l0_3.length c0_3)] 40 (0, 0))) ∧ Aside0 (Below w.heap.size w w'))
  case atStart => exact ⟨(0), sm_, H', ⟨Nat.le_refl _⟩, ⟨by exact bz_ BK181.out⟩, ⟨bw1_ HB.out GE181.out⟩⟩
  case round =>
   clear H'
   try clear c1
   try clear p2
   try clear c6
   try clear c8
   try clear hcz8_0
   try clear hcz8_1
   try clear hcz8_2
   try clear hcz8_3
   try clear hfz8_0
   try clear hfz8_1
   try clear hfz8_2
   try clear hfz8_3
   obtain ⟨x9_1, rfl, HA, HK1, BK181, HB⟩ := hrel
   cases gk with
   | zero => exact absurd HA.out (by simp [spec_l2Term.l0])
   | succ k1 =>
    have H := HA.out
    clear HA
    simp only [spec_l2Term.l0] at H
    by_cases c10 : x9_1 < (l0_3.length : Int)
    ·rw [if_pos c10] at H
     have c10b0 : decide (x9_1 < (l0_3.length : Int)) = true := decide_eq_true c10
     clear c10
     by_cases c11 : 0 ≤ x9_1
     ·rw [if_pos c11] at H
      have c11b0 : decide (0 ≤ x9_1) = true := decide_eq_true c11
      clear c11
      replace H := Option.bind_eq_some_iff.mp H
      obtain ⟨t184, A120, H⟩ := H
      try dsimp only at H
      have A12 := sd_ A120
      clear A120
      replace H := Option.bind_eq_some_iff.mp H
      obtain ⟨t185, A130, H⟩ := H
      try dsimp only at H
      have A13 := sd_ A130
      clear A130
      by_cases c14 : t185 = true
      ·subst c14
       have H1 : (spec_l2Term.l0 k1 a1 a2 a3 (wrap64 (x9_1 + 1)) a0_0 a0_1 l0_2 l0_3) = some r := by rw [if_pos rfl] at H; exact H
       clear H
       have H := H1
       clear H1
       have H' := sd_ H
       clear H
       obtain ⟨hcz15_0, hcz15_1, hcz15_2, hcz15_3, hfz15_0, hfz15_1, hfz15_2, hfz15_3⟩ := bf4_ BK181.out
       try go_wp2
       replace BK181 := sd_ (blk_drew BK181.out)
       replace HB := sd_ (below_drew1 HB.out)
       have p183 : 0 ≤ (x9_1 : Int) := dt_
       have q183 : x9_1 < (l0_3.length : Int) := dt_
       obtain ⟨ad183, A183_2, c183_2, A183_3, c183_3, e183, hx183_0, hx183_1, hx183_2, hx183_3, hl183_2, hi183_2, hl183_3, hi183_3⟩ := at_T40 HR0_3.out x9_1 p183 q183
       have hw183_3 := hx183_3
       have hw183_2 := hx183_2
       have hw183_1 := hx183_1
       have hw183_0 := hx183_0
       cases e183
       replace hx183_0 := (HB.out.cell (World.block_lt_of_cell? w _ hx183_0)).trans hx183_0
       replace hx183_1 := (HB.out.cell (World.block_lt_of_cell? w _ hx183_1)).trans hx183_1
       replace hx183_2 := (HB.out.cell (World.block_lt_of_cell? w _ hx183_2)).trans hx183_2
       replace hx183_3 := (HB.out.cell (World.block_lt_of_cell? w _ hx183_3)).trans hx183_3
       have HR183_2 := sd_ hi183_2
       have HC183_2 := sd_ hl183_2
       clear hi183_2 hl183_2
       have HR183_3 := sd_ hi183_3
       have HC183_3 := sd_ hl183_3
       clear hi183_3 hl183_3
       replace p183 := eq_true p183
       replace q183 := eq_true q183
       refine start_ (n := 15) (S := fun w' => w'.cell? ⟨gb181, 0, none⟩ = some (.int .i64 a0_0) ∧ w'.cell? ⟨gb181, 1, none⟩ = some (.int .i64 a0_1) ∧ w'.cell? ⟨gb181, 2, none⟩ = some (.slice A0_2 l0_2.length c0_2) ∧ w'.cell? ⟨gb181, 3, none⟩ = some (.slice (some ad183) l0_3.length c0_3) ∧ w'.cell? (ad183.add ((x9_1).toNat * 4)) = some (.int .i64 ((rd_T40 l0_3 x9_1).f0)) ∧ w'.cell? ⟨(ad183.add ((x9_1).toNat * 4)).block, (ad183.add ((x9_1).toNat * 4)).off + 1, none⟩ = some (.int .i64 ((rd_T40 l0_3 x9_1).f1)) ∧ w'.cell? ⟨(ad183.add ((x9_1).toNat * 4)).block, (ad183.add ((x9_1).toNat * 4)).off + 2, none⟩ = some (.slice A183_2 ((rd_T40 l0_3 x9_1).f2).length c183_2) ∧ w'.cell? ⟨(ad183.add ((x9_1).toNat * 4)).block, (ad183.add ((x9_1).toNat * 4)).off + 3, none⟩ = some (.slice A183_3 ((rd_T40 l0_3 x9_1).f3).length c183_3)) (ds := []) #[false, false, false, false, false, false, false, false, false, false, false, false, false, false, false] (by kernel_rfl) rfl rfl ⟨(blk_cell BK181.out 0).trans rfl, (blk_cell BK181.out 1).trans rfl, (blk_cell BK181.out 2).trans rfl, (blk_cell BK181.out 3).trans rfl, ((HB.out.cell (World.block_lt_of_cell? w _ hw183_0)).trans hw183_0), ((HB.out.cell (World.block_lt_of_cell? w _ hw183_1)).trans hw183_1), ((HB.out.cell (World.block_lt_of_cell? w _ hw183_2)).trans hw183_2), ((HB.out.cell (World.block_lt_of_cell? w _ hw183_3)).trans hw183_3)⟩ (fun hHeld => ?_); refine with_tabW spec_l2Term.tab6 spec_l2Term.bits6 (fun HT_ HW_ => ?_)
       generalize wr.drew = w16 at BK181 HB HR183_2 HR183_3 hx183_0 hx183_1 hx183_2 hx183_3 hHeld ⊢
       refine pure_ (i := 0) (N := some 23) (v := ?_) (a' := ?_) #[true, false, false, false, false, false, false, false, false, false, false, false, false, false, false] rfl rfl (any_of HT_.out (by kernel_rfl)) (fun _ _ _ h => h) (Or.inl ⟨by rfl, ?_⟩) ?_ ?_
       rotate_left
       ·intro w'
        go_simp
        with_reducible rfl
       rotate_left
       ·simp only [Act.put, List.setIfInBounds_toArray, List.set_cons_zero, List.set_cons_succ, i64_w, i32_w]
        rfl
       refine pure_ (i := 2) (N := some 25) (v := ?_) (a' := ?_) #[true, false, true, false, false, false, false, false, false, false, false, false, false, false, false] rfl rfl (any_of HT_.out (by kernel_rfl)) (fun _ _ _ h => h) (Or.inl ⟨by rfl, ?_⟩) ?_ ?_
       rotate_left
       ·intro w'
        go_simp
        with_reducible rfl
       rotate_left
       ·simp only [Act.put, List.setIfInBounds_toArray, List.set_cons_zero, List.set_cons_succ, i64_w, i32_w]
        rfl
       refine pure_ (i := 5) (N := some 28) (v := ?_) (a' := ?_) #[true, false, true, false, false, true, false, false, false, false, false, false, false, false, false] rfl rfl (any_of HT_.out (by kernel_rfl)) (fun _ _ _ h => h) (Or.inl ⟨by rfl, ?_⟩) ?_ ?_
       rotate_left
       ·intro w'
        go_simp
        with_reducible rfl
       rotate_left
       ·simp only [Act.put, List.setIfInBounds_toArray, List.set_cons_zero, List.set_cons_succ, i64_w, i32_w]
        rfl
       refine pure_ (i := 6) (N := some 29) (v := ?_) (a' := ?_) #[true, false, true, false, false, true, true, false, false, false, false, false, false, false, false] rfl rfl (any_of HT_.out (by kernel_rfl)) (fun _ _ _ h => h) (Or.inl ⟨by rfl, ?_⟩) ?_ ?_
       rotate_left
       ·intro w'
        go_simp
        with_reducible rfl
       rotate_left
       ·simp only [Act.put, List.setIfInBounds_toArray, List.set_cons_zero, List.set_cons_succ, i64_w, i32_w]
        rfl
       refine pure_ (i := 8) (N := some 31) (v := ?_) (a' := ?_) #[true, false, true, false, false, true, true, false, true, false, false, false, false, false, false] rfl rfl (any_of HT_.out (by kernel_rfl)) (fun _ _ _ h => h) (Or.inl ⟨by rfl, ?_⟩) ?_ ?_
       rotate_left
       ·intro w'
        go_simp
        with_reducible rfl
       rotate_left
       ·simp only [Act.put, List.setIfInBounds_toArray, List.set_cons_zero, List.set_cons_succ, i64_w, i32_w]
        rfl
       refine pure_ (i := 11) (N := some 34) (v := ?_) (a' := ?_) #[true, false, true, false, false, true, true, false, true, false, false, true, false, false, false] rfl rfl (any_of HT_.out (by kernel_rfl)) (fun _ _ _ h => h) (Or.inl ⟨by rfl, ?_⟩) ?_ ?_
       rotate_left
       ·intro w'
        go_simp
        with_reducible rfl
       rotate_left
       ·simp only [Act.put, List.setIfInBounds_toArray, List.set_cons_zero, List.set_cons_succ, i64_w, i32_w]
        rfl
       refine pure_ (i := 12) (N := some 35) (v := ?_) (a' := ?_) #[true, false, true, false, false, true, true, false, true, false, false, true, true, false, false] rfl rfl (any_of HT_.out (by kernel_rfl)) (fun _ _ _ h => h) (Or.inl ⟨by rfl, ?_⟩) ?_ ?_
       rotate_left
       ·intro w'
        go_simp
        with_reducible rfl
       rotate_left
       ·simp only [Act.put, List.setIfInBounds_toArray, List.set_cons_zero, List.set_cons_succ, i64_w, i32_w]
        rfl
       refine take_ (i := 1) (N := some 24) (v := ?_) (a' := ?_) #[true, true, true, false, false, true, true, false, true, false, false, true, true, false, false] rfl rfl (take_ofW HT_.out HW_.out (by kernel_rfl)) (fun _ _ _ h => h) (Or.inl ⟨by rfl, ?_⟩) hHeld ?_ ?_
       rotate_left
       ·rintro w' ⟨s0, s1, s2, s3, s4, s5, s6, s7⟩
        go_simp
        with_reducible rfl
       rotate_left
       ·simp only [Act.put, List.setIfInBounds_toArray, List.set_cons_zero, List.set_cons_succ, i64_w, i32_w]
        rfl
       refine pure_ (i := 3) (N := some 26) (v := ?_) (a' := ?_) #[true, true, true, true, false, true, true, false, true, false, false, true, true, false, false] rfl rfl (any_of HT_.out (by kernel_rfl)) (fun _ _ _ h => h) (Or.inl ⟨by rfl, ?_⟩) ?_ ?_
       rotate_left
       ·intro w'
        go_simp
        with_reducible rfl
       rotate_left
       ·simp only [Act.put, List.setIfInBounds_toArray, List.set_cons_zero, List.set_cons_succ, i64_w, i32_w]
        rfl
       refine take_ (i := 4) (N := some 27) (v := ?_) (a' := ?_) #[true, true, true, true, true, true, true, false, true, false, false, true, true, false, false] rfl rfl (take_ofW HT_.out HW_.out (by kernel_rfl)) (fun _ _ _ h => h) (Or.inl ⟨by rfl, ?_⟩) hHeld ?_ ?_
       rotate_left
       ·rintro w' ⟨s0, s1, s2, s3, s4, s5, s6, s7⟩
        go_simp
        with_reducible rfl
       rotate_left
       ·simp only [Act.put, List.setIfInBounds_toArray, List.set_cons_zero, List.set_cons_succ, i64_w, i32_w]
        rfl
       refine take_ (i := 7) (N := some 30) (v := ?_) (a' := ?_) #[true, true, true, true, true, true, true, true, true, false, false, true, true, false, false] rfl rfl (take_ofW HT_.out HW_.out (by kernel_rfl)) (fun _ _ _ h => h) (Or.inl ⟨by rfl, ?_⟩) hHeld ?_ ?_
       rotate_left
       ·rintro w' ⟨s0, s1, s2, s3, s4, s5, s6, s7⟩
        go_simp
        with_reducible rfl
       rotate_left
       ·simp only [Act.put, List.setIfInBounds_toArray, List.set_cons_zero, List.set_cons_succ, i64_w, i32_w]
        rfl
       refine one_ (i := 9) (N := some 32) #[true, true, true, true, true, true, true, true, true, true, false, true, true, false, false] rfl rfl (one_of HT_.out (by kernel_rfl)) (by decide) (fun K hK => ?_)
       refine goes_ Try.func93 (by kernel_rfl) rfl #[.int .i64 a0_0, .int .i64 x9_1] (by rfl) rfl rfl la_ ?_
       with_reducible refine (spec_l2Adds.calls k1 a0_0 x9_1 t184 _ A12.out).mono ?_
       rintro e w' ⟨rfl, ⟨nd, rfl⟩⟩
       refine ⟨_, rfl, ?_⟩
       refine hK.out _ _ ⟨(blk_cell BK181.out 0).trans rfl, (blk_cell BK181.out 1).trans rfl, (blk_cell BK181.out 2).trans rfl, (blk_cell BK181.out 3).trans rfl, ((HB.out.cell (World.block_lt_of_cell? w _ hw183_0)).trans hw183_0), ((HB.out.cell (World.block_lt_of_cell? w _ hw183_1)).trans hw183_1), ((HB.out.cell (World.block_lt_of_cell? w _ hw183_2)).trans hw183_2), ((HB.out.cell (World.block_lt_of_cell? w _ hw183_3)).trans hw183_3)⟩ (fun hHeld => ?_)
       clear hK K
       refine norm_ (a' := ?_) ?_ ?_
       rotate_left
       ·show Act.put _ (some 32) _ = _
        simp only [Act.put, List.setIfInBounds_toArray, List.set_cons_zero, List.set_cons_succ, i64_w, i32_w]
        rfl
       refine pure_ (i := 10) (N := some 33) (v := ?_) (a' := ?_) #[true, true, true, true, true, true, true, true, true, true, true, true, true, false, false] rfl rfl (any_of HT_.out (by kernel_rfl)) (fun _ _ _ h => h) (Or.inl ⟨by rfl, ?_⟩) ?_ ?_
       rotate_left
       ·intro w'
        go_simp
        with_reducible rfl
       rotate_left
       ·simp only [Act.put, List.setIfInBounds_toArray, List.set_cons_zero, List.set_cons_succ, i64_w, i32_w]
        rfl
       refine one_ (i := 13) (N := some 36) #[true, true, true, true, true, true, true, true, true, true, true, true, true, true, false] rfl rfl (one_of HT_.out (by kernel_rfl)) (by decide) (fun K hK => ?_)
       refine goes_ Try.func83 (by kernel_rfl) rfl #[.agg #[.int .i64 ((rd_T40 l0_3 x9_1).f0), .int .i64 ((rd_T40 l0_3 x9_1).f1), .slice A183_2 ((rd_T40 l0_3 x9_1).f2).length c183_2, .slice A183_3 ((rd_T40 l0_3 x9_1).f3).length c183_3], .int .i64 (wrap64 (a1 + t184)), .int .i64 a2, .bool a3] (by rfl) rfl rfl la_ ?_
       with_reducible refine (ih k1 (by have := HK1.out; omega) ((rd_T40 l0_3 x9_1).f0) ((rd_T40 l0_3 x9_1).f1) _ _ ((rd_T40 l0_3 x9_1).f2) _ _ ((rd_T40 l0_3 x9_1).f3) (wrap64 (a1 + t184)) a2 a3 true _ ?side1 ?side2 ?side3 ?side4 A13.out).mono ?_
       (case side1 => repeat (first | exact (Kd.C_below HR183_2.out (bw1_ HB.out GE181.out)) | (with_reducible refine Kd.C_alloc ?_ _) | (with_reducible refine Kd.C_drewN ?_ _) | (with_reducible refine Kd.C_drew ?_)))
       (case side2 => exact HC183_2.out)
       (case side3 => repeat (first | exact (Kd.C_below HR183_3.out (bw1_ HB.out GE181.out)) | (with_reducible refine Kd.C_alloc ?_ _) | (with_reducible refine Kd.C_drewN ?_ _) | (with_reducible refine Kd.C_drew ?_)))
       (case side4 => exact HC183_3.out)
       rintro e w17 ⟨rfl, hb⟩
       refine ⟨_, rfl, ?_⟩
       replace BK181 := sd_ (bb_ BK181.out hb)
       replace HB := sd_ (below_step (bw1_ HB.out GE181.out) hb)
       (try clear hb)
       (try clear hb2)
       (try clear hk)
       (try clear hi)
       refine hK.out _ _ ⟨(blk_cell BK181.out 0).trans rfl, (blk_cell BK181.out 1).trans rfl, (blk_cell BK181.out 2).trans rfl, (blk_cell BK181.out 3).trans rfl, ((HB.out.cell (World.block_lt_of_cell? w _ hw183_0)).trans hw183_0), ((HB.out.cell (World.block_lt_of_cell? w _ hw183_1)).trans hw183_1), ((HB.out.cell (World.block_lt_of_cell? w _ hw183_2)).trans hw183_2), ((HB.out.cell (World.block_lt_of_cell? w _ hw183_3)).trans hw183_3)⟩ (fun hHeld => ?_)
       clear hK K
       refine norm_ (a' := ?_) ?_ ?_
       rotate_left
       ·show Act.put _ (some 36) _ = _
        simp only [Act.put, List.setIfInBounds_toArray, List.set_cons_zero, List.set_cons_succ, i64_w, i32_w]
        rfl
       refine pure_ (i := 14) (N := some 37) (v := ?_) (a' := ?_) #[true, true, true, true, true, true, true, true, true, true, true, true, true, true, true] rfl rfl (any_of HT_.out (by kernel_rfl)) (fun _ _ _ h => h) (Or.inl ⟨by rfl, ?_⟩) ?_ ?_
       rotate_left
       ·intro w'
        go_simp
        with_reducible rfl
       rotate_left
       ·simp only [Act.put, List.setIfInBounds_toArray, List.set_cons_zero, List.set_cons_succ, i64_w, i32_w]
        rfl
       refine done_ (done_of HT_.out (by kernel_rfl)) ?_
       try go_wp2
       go_roundg k1
       case measure => have := HK1.out; omega
       case rel => exact ⟨(wrap64 (x9_1 + 1)), sm_, H', ⟨by have := HK1.out; omega⟩, ⟨by exact bz_ BK181.out⟩, ⟨bw1_ HB.out GE181.out⟩⟩
      replace c14 := Bool.eq_false_iff.mpr c14
      subst c14
      have H1 : (some false) = some r := by rw [if_neg (show ¬ (false = true) by decide)] at H; exact H
      clear H
      have H := H1
      clear H1
      obtain rfl := Option.some.inj H
      obtain ⟨hcz18_0, hcz18_1, hcz18_2, hcz18_3, hfz18_0, hfz18_1, hfz18_2, hfz18_3⟩ := bf4_ BK181.out
      try go_wp2
      replace BK181 := sd_ (blk_drew BK181.out)
      replace HB := sd_ (below_drew1 HB.out)
      have p183 : 0 ≤ (x9_1 : Int) := dt_
      have q183 : x9_1 < (l0_3.length : Int) := dt_
      obtain ⟨ad183, A183_2, c183_2, A183_3, c183_3, e183, hx183_0, hx183_1, hx183_2, hx183_3, hl183_2, hi183_2, hl183_3, hi183_3⟩ := at_T40 HR0_3.out x9_1 p183 q183
      have hw183_3 := hx183_3
      have hw183_2 := hx183_2
      have hw183_1 := hx183_1
      have hw183_0 := hx183_0
      cases e183
      replace hx183_0 := (HB.out.cell (World.block_lt_of_cell? w _ hx183_0)).trans hx183_0
      replace hx183_1 := (HB.out.cell (World.block_lt_of_cell? w _ hx183_1)).trans hx183_1
      replace hx183_2 := (HB.out.cell (World.block_lt_of_cell? w _ hx183_2)).trans hx183_2
      replace hx183_3 := (HB.out.cell (World.block_lt_of_cell? w _ hx183_3)).trans hx183_3
      have HR183_2 := sd_ hi183_2
      have HC183_2 := sd_ hl183_2
      clear hi183_2 hl183_2
      have HR183_3 := sd_ hi183_3
      have HC183_3 := sd_ hl183_3
      clear hi183_3 hl183_3
      replace p183 := eq_true p183
      replace q183 := eq_true q183
      refine start_ (n := 15) (S := fun w' => w'.cell? ⟨gb181, 0, none⟩ = some (.int .i64 a0_0) ∧ w'.cell? ⟨gb181, 1, none⟩ = some (.int .i64 a0_1) ∧ w'.cell? ⟨gb181, 2, none⟩ = some (.slice A0_2 l0_2.length c0_2) ∧ w'.cell? ⟨gb181, 3, none⟩ = some (.slice (some ad183) l0_3.length c0_3) ∧ w'.cell? (ad183.add ((x9_1).toNat * 4)) = some (.int .i64 ((rd_T40 l0_3 x9_1).f0)) ∧ w'.cell? ⟨(ad183.add ((x9_1).toNat * 4)).block, (ad183.add ((x9_1).toNat * 4)).off + 1, none⟩ = some (.int .i64 ((rd_T40 l0_3 x9_1).f1)) ∧ w'.cell? ⟨(ad183.add ((x9_1).toNat * 4)).block, (ad183.add ((x9_1).toNat * 4)).off + 2, none⟩ = some (.slice A183_2 ((rd_T40 l0_3 x9_1).f2).length c183_2) ∧ w'.cell? ⟨(ad183.add ((x9_1).toNat * 4)).block, (ad183.add ((x9_1).toNat * 4)).off + 3, none⟩ = some (.slice A183_3 ((rd_T40 l0_3 x9_1).f3).length c183_3)) (ds := []) #[false, false, false, false, false, false, false, false, false, false, false, false, false, false, false] (by kernel_rfl) rfl rfl ⟨(blk_cell BK181.out 0).trans rfl, (blk_cell BK181.out 1).trans rfl, (blk_cell BK181.out 2).trans rfl, (blk_cell BK181.out 3).trans rfl, ((HB.out.cell (World.block_lt_of_cell? w _ hw183_0)).trans hw183_0), ((HB.out.cell (World.block_lt_of_cell? w _ hw183_1)).trans hw183_1), ((HB.out.cell (World.block_lt_of_cell? w _ hw183_2)).trans hw183_2), ((HB.out.cell (World.block_lt_of_cell? w _ hw183_3)).trans hw183_3)⟩ (fun hHeld => ?_); refine with_tabW spec_l2Term.tab6 spec_l2Term.bits6 (fun HT_ HW_ => ?_)
      generalize wr.drew = w19 at BK181 HB HR183_2 HR183_3 hx183_0 hx183_1 hx183_2 hx183_3 hHeld ⊢
      refine pure_ (i := 0) (N := some 23) (v := ?_) (a' := ?_) #[true, false, false, false, false, false, false, false, false, false, false, false, false, false, false] rfl rfl (any_of HT_.out (by kernel_rfl)) (fun _ _ _ h => h) (Or.inl ⟨by rfl, ?_⟩) ?_ ?_
      rotate_left
      ·intro w'
       go_simp
       with_reducible rfl
      rotate_left
      ·simp only [Act.put, List.setIfInBounds_toArray, List.set_cons_zero, List.set_cons_succ, i64_w, i32_w]
       rfl
      refine pure_ (i := 2) (N := some 25) (v := ?_) (a' := ?_) #[true, false, true, false, false, false, false, false, false, false, false, false, false, false, false] rfl rfl (any_of HT_.out (by kernel_rfl)) (fun _ _ _ h => h) (Or.inl ⟨by rfl, ?_⟩) ?_ ?_
      rotate_left
      ·intro w'
       go_simp
       with_reducible rfl
      rotate_left
      ·simp only [Act.put, List.setIfInBounds_toArray, List.set_cons_zero, List.set_cons_succ, i64_w, i32_w]
       rfl
      refine pure_ (i := 5) (N := some 28) (v := ?_) (a' := ?_) #[true, false, true, false, false, true, false, false, false, false, false, false, false, false, false] rfl rfl (any_of HT_.out (by kernel_rfl)) (fun _ _ _ h => h) (Or.inl ⟨by rfl, ?_⟩) ?_ ?_
      rotate_left
      ·intro w'
       go_simp
       with_reducible rfl
      rotate_left
      ·simp only [Act.put, List.setIfInBounds_toArray, List.set_cons_zero, List.set_cons_succ, i64_w, i32_w]
       rfl
      refine pure_ (i := 6) (N := some 29) (v := ?_) (a' := ?_) #[true, false, true, false, false, true, true, false, false, false, false, false, false, false, false] rfl rfl (any_of HT_.out (by kernel_rfl)) (fun _ _ _ h => h) (Or.inl ⟨by rfl, ?_⟩) ?_ ?_
      rotate_left
      ·intro w'
       go_simp
       with_reducible rfl
      rotate_left
      ·simp only [Act.put, List.setIfInBounds_toArray, List.set_cons_zero, List.set_cons_succ, i64_w, i32_w]
       rfl
      refine pure_ (i := 8) (N := some 31) (v := ?_) (a' := ?_) #[true, false, true, false, false, true, true, false, true, false, false, false, false, false, false] rfl rfl (any_of HT_.out (by kernel_rfl)) (fun _ _ _ h => h) (Or.inl ⟨by rfl, ?_⟩) ?_ ?_
      rotate_left
      ·intro w'
       go_simp
       with_reducible rfl
      rotate_left
      ·simp only [Act.put, List.setIfInBounds_toArray, List.set_cons_zero, List.set_cons_succ, i64_w, i32_w]
       rfl
      refine pure_ (i := 11) (N := some 34) (v := ?_) (a' := ?_) #[true, false, true, false, false, true, true, false, true, false, false, true, false, false, false] rfl rfl (any_of HT_.out (by kernel_rfl)) (fun _ _ _ h => h) (Or.inl ⟨by rfl, ?_⟩) ?_ ?_
      rotate_left
      ·intro w'
       go_simp
       with_reducible rfl
      rotate_left
      ·simp only [Act.put, List.setIfInBounds_toArray, List.set_cons_zero, List.set_cons_succ, i64_w, i32_w]
       rfl
      refine pure_ (i := 12) (N := some 35) (v := ?_) (a' := ?_) #[true, false, true, false, false, true, true, false, true, false, false, true, true, false, false] rfl rfl (any_of HT_.out (by kernel_rfl)) (fun _ _ _ h => h) (Or.inl ⟨by rfl, ?_⟩) ?_ ?_
      rotate_left
      ·intro w'
       go_simp
       with_reducible rfl
      rotate_left
      ·simp only [Act.put, List.setIfInBounds_toArray, List.set_cons_zero, List.set_cons_succ, i64_w, i32_w]
       rfl
      refine take_ (i := 1) (N := some 24) (v := ?_) (a' := ?_) #[true, true, true, false, false, true, true, false, true, false, false, true, true, false, false] rfl rfl (take_ofW HT_.out HW_.out (by kernel_rfl)) (fun _ _ _ h => h) (Or.inl ⟨by rfl, ?_⟩) hHeld ?_ ?_
      rotate_left
      ·rintro w' ⟨s0, s1, s2, s3, s4, s5, s6, s7⟩
       go_simp
       with_reducible rfl
      rotate_left
      ·simp only [Act.put, List.setIfInBounds_toArray, List.set_cons_zero, List.set_cons_succ, i64_w, i32_w]
       rfl
      refine pure_ (i := 3) (N := some 26) (v := ?_) (a' := ?_) #[true, true, true, true, false, true, true, false, true, false, false, true, true, false, false] rfl rfl (any_of HT_.out (by kernel_rfl)) (fun _ _ _ h => h) (Or.inl ⟨by rfl, ?_⟩) ?_ ?_
      rotate_left
      ·intro w'
       go_simp
       with_reducible rfl
      rotate_left
      ·simp only [Act.put, List.setIfInBounds_toArray, List.set_cons_zero, List.set_cons_succ, i64_w, i32_w]
       rfl
      refine take_ (i := 4) (N := some 27) (v := ?_) (a' := ?_) #[true, true, true, true, true, true, true, false, true, false, false, true, true, false, false] rfl rfl (take_ofW HT_.out HW_.out (by kernel_rfl)) (fun _ _ _ h => h) (Or.inl ⟨by rfl, ?_⟩) hHeld ?_ ?_
      rotate_left
      ·rintro w' ⟨s0, s1, s2, s3, s4, s5, s6, s7⟩
       go_simp
       with_reducible rfl
      rotate_left
      ·simp only [Act.put, List.setIfInBounds_toArray, List.set_cons_zero, List.set_cons_succ, i64_w, i32_w]
       rfl
      refine take_ (i := 7) (N := some 30) (v := ?_) (a' := ?_) #[true, true, true, true, true, true, true, true, true, false, false, true, true, false, false] rfl rfl (take_ofW HT_.out HW_.out (by kernel_rfl)) (fun _ _ _ h => h) (Or.inl ⟨by rfl, ?_⟩) hHeld ?_ ?_
      rotate_left
      ·rintro w' ⟨s0, s1, s2, s3, s4, s5, s6, s7⟩
       go_simp
       with_reducible rfl
      rotate_left
      ·simp only [Act.put, List.setIfInBounds_toArray, List.set_cons_zero, List.set_cons_succ, i64_w, i32_w]
       rfl
      refine one_ (i := 9) (N := some 32) #[true, true, true, true, true, true, true, true, true, true, false, true, true, false, false] rfl rfl (one_of HT_.out (by kernel_rfl)) (by decide) (fun K hK => ?_)
      refine goes_ Try.func93 (by kernel_rfl) rfl #[.int .i64 a0_0, .int .i64 x9_1] (by rfl) rfl rfl la_ ?_
      with_reducible refine (spec_l2Adds.calls k1 a0_0 x9_1 t184 _ A12.out).mono ?_
      rintro e w' ⟨rfl, ⟨nd, rfl⟩⟩
      refine ⟨_, rfl, ?_⟩
      refine hK.out _ _ ⟨(blk_cell BK181.out 0).trans rfl, (blk_cell BK181.out 1).trans rfl, (blk_cell BK181.out 2).trans rfl, (blk_cell BK181.out 3).trans rfl, ((HB.out.cell (World.block_lt_of_cell? w _ hw183_0)).trans hw183_0), ((HB.out.cell (World.block_lt_of_cell? w _ hw183_1)).trans hw183_1), ((HB.out.cell (World.block_lt_of_cell? w _ hw183_2)).trans hw183_2), ((HB.out.cell (World.block_lt_of_cell? w _ hw183_3)).trans hw183_3)⟩ (fun hHeld => ?_)
      clear hK K
      refine norm_ (a' := ?_) ?_ ?_
      rotate_left
      ·show Act.put _ (some 32) _ = _
       simp only [Act.put, List.setIfInBounds_toArray, List.set_cons_zero, List.set_cons_succ, i64_w, i32_w]
       rfl
      refine pure_ (i := 10) (N := some 33) (v := ?_) (a' := ?_) #[true, true, true, true, true, true, true, true, true, true, true, true, true, false, false] rfl rfl (any_of HT_.out (by kernel_rfl)) (fun _ _ _ h => h) (Or.inl ⟨by rfl, ?_⟩) ?_ ?_
      rotate_left
      ·intro w'
       go_simp
       with_reducible rfl
      rotate_left
      ·simp only [Act.put, List.setIfInBounds_toArray, List.set_cons_zero, List.set_cons_succ, i64_w, i32_w]
       rfl
      refine one_ (i := 13) (N := some 36) #[true, true, true, true, true, true, true, true, true, true, true, true, true, true, false] rfl rfl (one_of HT_.out (by kernel_rfl)) (by decide) (fun K hK => ?_)
      refine goes_ Try.func83 (by kernel_rfl) rfl #[.agg #[.int .i64 ((rd_T40 l0_3 x9_1).f0), .int .i64 ((rd_T40 l0_3 x9_1).f1), .slice A183_2 ((rd_T40 l0_3 x9_1).f2).length c183_2, .slice A183_3 ((rd_T40 l0_3 x9_1).f3).length c183_3], .int .i64 (wrap64 (a1 + t184)), .int .i64 a2, .bool a3] (by rfl) rfl rfl la_ ?_
      with_reducible refine (ih k1 (by have := HK1.out; omega) ((rd_T40 l0_3 x9_1).f0) ((rd_T40 l0_3 x9_1).f1) _ _ ((rd_T40 l0_3 x9_1).f2) _ _ ((rd_T40 l0_3 x9_1).f3) (wrap64 (a1 + t184)) a2 a3 false _ ?side1 ?side2 ?side3 ?side4 A13.out).mono ?_
      (case side1 => repeat (first | exact (Kd.C_below HR183_2.out (bw1_ HB.out GE181.out)) | (with_reducible refine Kd.C_alloc ?_ _) | (with_reducible refine Kd.C_drewN ?_ _) | (with_reducible refine Kd.C_drew ?_)))
      (case side2 => exact HC183_2.out)
      (case side3 => repeat (first | exact (Kd.C_below HR183_3.out (bw1_ HB.out GE181.out)) | (with_reducible refine Kd.C_alloc ?_ _) | (with_reducible refine Kd.C_drewN ?_ _) | (with_reducible refine Kd.C_drew ?_)))
      (case side4 => exact HC183_3.out)
      rintro e w20 ⟨rfl, hb⟩
      refine ⟨_, rfl, ?_⟩
      replace BK181 := sd_ (bb_ BK181.out hb)
      replace HB := sd_ (below_step (bw1_ HB.out GE181.out) hb)
      (try clear hb)
      (try clear hb2)
      (try clear hk)
      (try clear hi)
      refine hK.out _ _ ⟨(blk_cell BK181.out 0).trans rfl, (blk_cell BK181.out 1).trans rfl, (blk_cell BK181.out 2).trans rfl, (blk_cell BK181.out 3).trans rfl, ((HB.out.cell (World.block_lt_of_cell? w _ hw183_0)).trans hw183_0), ((HB.out.cell (World.block_lt_of_cell? w _ hw183_1)).trans hw183_1), ((HB.out.cell (World.block_lt_of_cell? w _ hw183_2)).trans hw183_2), ((HB.out.cell (World.block_lt_of_cell? w _ hw183_3)).trans hw183_3)⟩ (fun hHeld => ?_)
      clear hK K
      refine norm_ (a' := ?_) ?_ ?_
      rotate_left
      ·show Act.put _ (some 36) _ = _
       simp only [Act.put, List.setIfInBounds_toArray, List.set_cons_zero, List.set_cons_succ, i64_w, i32_w]
       rfl
      refine pure_ (i := 14) (N := some 37) (v := ?_) (a' := ?_) #[true, true, true, true, true, true, true, true, true, true, true, true, true, true, true] rfl rfl (any_of HT_.out (by kernel_rfl)) (fun _ _ _ h => h) (Or.inl ⟨by rfl, ?_⟩) ?_ ?_
      rotate_left
      ·intro w'
       go_simp
       with_reducible rfl
      rotate_left
      ·simp only [Act.put, List.setIfInBounds_toArray, List.set_cons_zero, List.set_cons_succ, i64_w, i32_w]
       rfl
      refine done_ (done_of HT_.out (by kernel_rfl)) ?_
      try go_wp2
      go_ret
      exact ⟨an_, bw1_ HB.out GE181.out⟩
     rw [if_neg c11] at H
     exact absurd H (by simp)
    rw [if_neg c10] at H
    have c10b0 : decide (x9_1 < (l0_3.length : Int)) = false := decide_eq_false c10
    clear c10
    obtain rfl := Option.some.inj H
    obtain ⟨hcz21_0, hcz21_1, hcz21_2, hcz21_3, hfz21_0, hfz21_1, hfz21_2, hfz21_3⟩ := bf4_ BK181.out
    go_wp2
    go_ret
    exact ⟨an_, bw1_ HB.out GE181.out⟩
 replace c6 := Bool.eq_false_iff.mpr c6
 subst c6
 have H1 : (some false) = some r := by rw [if_neg (show ¬ (false = true) by decide)] at H; exact H
 clear H
 have H := H1
 clear H1
 obtain rfl := Option.some.inj H
 go_enter Try.func83, Try.ntmps83
 go_wp2_with (first | ((with_reducible refine gate_dst (N := 4) rfl ?_); refine bx_ (N := 4) (cs := #[.int .i64 a0_0, .int .i64 a0_1, .slice A0_2 l0_2.length c0_2, .slice A0_3 l0_3.length c0_3]) (t := 40) ?_; intro gb181 hg w22 hbox hb; have BK181 := sd_ (hbox); have GW181 := sd_ (gs_ hg (bw0_ HB.out)); have GE181 := sd_ (gs_ hg (bw0_ HB.out)); replace HB := sd_ (below_step (bw0_ HB.out) hb); clear hb hbox hg; obtain ⟨hcz23_0, hcz23_1, hcz23_2, hcz23_3, hfz23_0, hfz23_1, hfz23_2, hfz23_3⟩ := bf4_ BK181.out) | ((with_reducible refine gate_callee (f := 111) rfl ?_); refine goesL_ (some 14) rfl rfl Try.func111 (by kernel_rfl) rfl #[.agg #[.int .i64 a0_0, .int .i64 a0_1, .slice A0_2 l0_2.length c0_2, .slice A0_3 l0_3.length c0_3], .int .i64 a1, .int .i64 a2, .bool a3] rfl la_ ?_; (with_reducible refine (spec_l2Node.calls k a0_0 a0_1 _ _ l0_2 _ _ l0_3 a1 a2 a3 false _ (kc_ HR0_2.out HB.out) HC0_2.out (kc_ HR0_3.out HB.out) HC0_3.out A5.out).mono ?_); rintro e w24 ⟨rfl, hb⟩; refine ⟨_, rfl, ?_⟩; replace BK181 := sd_ (bb_ BK181.out hb); replace HB := sd_ (below_step (bw1_ HB.out GE181.out) hb); (try clear hb)))
 go_ret
 exact ⟨an_, bw1_ HB.out GE181.out⟩

end Go.Proofs.Ytipfkicndjddgaa.P
