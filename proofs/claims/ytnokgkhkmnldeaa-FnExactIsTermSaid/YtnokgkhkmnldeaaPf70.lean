-- Printed by this session's own program (wip/tools/mkprint.py) out of the translation. Not trusted: Lean checks it.
import Derived.Test.YtnokgkhkmnldeaaM1
import Derived.Test.YtnokgkhkmnldeaaM9
import Derived.Test.YtnokgkhkmnldeaaPf99
/-! short words -/
namespace Go.Proofs.Ytnokgkhkmnldeaa.P
open Go.RowKit Go.Proofs.YtnokgkhkmnldeaaW.PrintWords Go.Proofs.YtnokgkhkmnldeaaW.PrintLast Go.Proofs.YtnokgkhkmnldeaaW.PrintMore
attribute [local go_sem] max2_int min2_int max_two min_two max_three min_three max_four min_four   -- for this text's walks alone
set_option linter.unusedVariables false
set_option linter.unusedSimpArgs false

/-! ### spec_l2Term: function 70 -/
mutual
def spec_l2Term.l0 : Nat → Int → Int → Bool → Int → Int → Int → List Int → List (S48) → Option (Bool)
 | 0, _, _, _, _, _, _, _, _ => none
 | k + 1, x1, x2, x3, x9, x565000, x565001, x565002, x565003 => if x9 < (x565003.length : Int) then (if 0 ≤ x9 then ((spec_l2Adds.f k x565000 x9).bind fun t567 => ((spec_l2Term.f k ((rd_T48 x565003 x9).f0) ((rd_T48 x565003 x9).f1) ((rd_T48 x565003 x9).f2) ((rd_T48 x565003 x9).f3) (wrap64 (x1 + t567)) x2 x3).bind fun t568 => (if t568 = true then (spec_l2Term.l0 k x1 x2 x3 (wrap64 (x9 + 1)) x565000 x565001 x565002 x565003) else (some false)))) else (none)) else (some true)
def spec_l2Term.f : Nat → Int → Int → List Int → List (S48) → Int → Int → Bool → Option (Bool)
 | 0, _, _, _, _, _, _, _ => none
 | k + 1, a0_0, a0_1, l0_2, l0_3, a1, a2, a3 => (spec_l2Node.f k a0_0 a0_1 l0_2 l0_3 a1 a2 a3).bind fun t565 => (if t565 = true then (spec_l2Term.l0 k a1 a2 a3 0 a0_0 a0_1 l0_2 l0_3) else (some false))
end
def spec_l2Term.T6 : Bool × List (List Nat × List Nat) := (true, [([], []), ([0], [0]), ([], []), ([1, 2], [1, 2]), ([3], [3]), ([], []), ([], []), ([6], [6]), ([], []), ([7, 8], [7, 8]), ([5, 9], [5, 9]), ([], []), ([], []), ([4, 10, 11, 12, 9], [4, 10, 11, 12]), ([13], [13])])
def spec_l2Term.B6 : List Nat := [0, 1, 0, 7, 15, 0, 0, 64, 0, 448, 992, 0, 0, 8191, 16383]
theorem spec_l2Term.tab6 : rtab .any (opsOf Try.f70 6) = spec_l2Term.T6 := by kernel_rfl
theorem spec_l2Term.bits6 : waitsOk spec_l2Term.T6.2 spec_l2Term.B6 = true := by kernel_rfl
set_option maxHeartbeats 8000000 in
set_option maxRecDepth 100000 in
theorem spec_l2Term.calls (k : Nat) : ∀ (a0_0 : Int) (a0_1 : Int) (A0_2 : Option Addr) (c0_2 : Nat) (l0_2 : List Int) (A0_3 : Option Addr) (c0_3 : Nat) (l0_3 : List (S48)) (a1 : Int) (a2 : Int) (a3 : Bool) (r : Bool) (w : World) (hr0_2 : Kd.C (Kd.int .i64) w A0_2 l0_2.length l0_2) (hc0_2 : l0_2.length ≤ c0_2) (hr0_3 : Kd.C k48 w A0_3 l0_3.length l0_3) (hc0_3 : l0_3.length ≤ c0_3) (h : spec_l2Term.f k a0_0 a0_1 l0_2 l0_3 a1 a2 a3 = some r),
  Calls Try.prog 70 #[.agg #[.int .i64 a0_0, .int .i64 a0_1, .slice A0_2 l0_2.length c0_2, .slice A0_3 l0_3.length c0_3], .int .i64 a1, .int .i64 a2, .bool a3] w fun e w' => e = .returned (.bool r) ∧ Below w.heap.size w w' := by
 induction k using Nat.strongRecOn with
 | _ k ih =>
 intro a0_0 a0_1 A0_2 c0_2 l0_2 A0_3 c0_3 l0_3 a1 a2 a3 r w hr0_2 hc0_2 hr0_3 hc0_3 h
 cases k with
 | zero => exact absurd h (by simp [spec_l2Term.f])
 | succ k =>
 simp only [spec_l2Term.f] at h
 have hu48 := Try.underlying48
 have HR0_2 := sd_ hr0_2
 have HC0_2 := sd_ hc0_2
 clear hr0_2 hc0_2
 have HR0_3 := sd_ hr0_3
 have HC0_3 := sd_ hc0_3
 clear hr0_3 hc0_3
 have HB := sd_ (Below.refl w.heap.size w)
 have H : ((spec_l2Node.f k a0_0 a0_1 l0_2 l0_3 a1 a2 a3).bind fun t565 => (if t565 = true then (spec_l2Term.l0 k a1 a2 a3 0 a0_0 a0_1 l0_2 l0_3) else (some false))) = some r := h
 clear h
 replace H := Option.bind_eq_some_iff.mp H
 obtain ⟨t565, A50, H⟩ := H
 try dsimp only at H
 have A5 := sd_ A50
 clear A50
 by_cases c6 : t565 = true
 ·subst c6
  have H1 : (spec_l2Term.l0 k a1 a2 a3 0 a0_0 a0_1 l0_2 l0_3) = some r := by rw [if_pos rfl] at H; exact H
  clear H
  have H := H1
  clear H1
  have H' := sd_ H
  clear H
  go_enter Try.func70, Try.ntmps70
  go_wp2_with (first | ((with_reducible refine gate_dst (N := 4) rfl ?_); refine box_event ?hg (N := 4) ?hd (cs := #[.int .i64 a0_0, .int .i64 a0_1, .slice A0_2 l0_2.length c0_2, .slice A0_3 l0_3.length c0_3]) (t := 48) ?hr ?_; (case hd => rfl); (case hg => rfl); (case hr => first | (go_simp; done) | (go_simp; rfl)); intro gb564 hg w7 hbox hb; have BK564 := sd_ (hbox); have GW564 := sd_ ((by rw [hg]; exact (below_size (bw0_ HB.out)) : w.heap.size ≤ gb564)); have GE564 := sd_ ((by rw [hg]; exact (below_size (bw0_ HB.out)) : w.heap.size ≤ gb564)); replace HB := sd_ (below_step (bw0_ HB.out) hb); clear hb hbox hg; have hcz8_0 : w7.cell? ⟨gb564, 0, none⟩ = some (.int .i64 a0_0) := (blk_cell BK564.out 0).trans rfl; have hcz8_1 : w7.cell? ⟨gb564, 1, none⟩ = some (.int .i64 a0_1) := (blk_cell BK564.out 1).trans rfl; have hcz8_2 : w7.cell? ⟨gb564, 2, none⟩ = some (.slice A0_2 l0_2.length c0_2) := (blk_cell BK564.out 2).trans rfl; have hcz8_3 : w7.cell? ⟨gb564, 3, none⟩ = some (.slice A0_3 l0_3.length c0_3) := (blk_cell BK564.out 3).trans rfl; have hfz8_0 := blk_frozen BK564.out 0; have hfz8_1 := blk_frozen BK564.out 1; have hfz8_2 := blk_frozen BK564.out 2; have hfz8_3 := blk_frozen BK564.out 3) | ((with_reducible refine gate_callee (f := 99) rfl ?_); refine goesL_ (some 14) rfl rfl Try.func99 (by kernel_rfl) rfl #[.agg #[.int .i64 a0_0, .int .i64 a0_1, .slice A0_2 l0_2.length c0_2, .slice A0_3 l0_3.length c0_3], .int .i64 a1, .int .i64 a2, .bool a3] rfl (by (try simp only [List.map_toArray, List.map_cons, List.map_nil]); first | done | rfl | (simp only [List.length_drop, List.length_take]; rfl)) ?_; (with_reducible refine (spec_l2Node.calls k a0_0 a0_1 _ _ l0_2 _ _ l0_3 a1 a2 a3 true _ ?side1 ?side2 ?side3 ?side4 A5.out).mono ?_); (case side1 => exact kc_ HR0_2.out HB.out); (case side2 => exact HC0_2.out); (case side3 => exact kc_ HR0_3.out HB.out); (case side4 => exact HC0_3.out); rintro e w9 ⟨rfl, hb⟩; refine ⟨_, rfl, ?_⟩; replace BK564 := sd_ (bb_ BK564.out hb); replace HB := sd_ (below_step (bw1_ HB.out GE564.out) hb); (try clear hb); (try clear hb2); (try clear hk); (try clear hi)))
  go_loopg [9] k (fun kq v9 w' => ∃ (x9_1 : Int), v9 = .int .i64 x9_1 ∧ Aside0 (spec_l2Term.l0 kq a1 a2 a3 x9_1 a0_0 a0_1 l0_2 l0_3 = some r) ∧ Aside0 (kq ≤ k) ∧ Aside0 (w'.heap[gb564]? = some (.cells #[.int .i64 a0_0, .int .i64 a0_1, (.slice A0_2 l0_2.length c0_2), (.slice A0_3 l0_3.length c0_3)] 48 (0, 0))) ∧ Aside0 (Below w.heap.size w w'))
  case atStart => exact ⟨(0), (by first | rfl | (simp; done) | (simp [*]; done)), H', ⟨Nat.le_refl _⟩, ⟨by (with_reducible repeat (first | refine blk_drewN ?_ _ | refine blk_drew ?_ | refine blk_alloc ?_ _)); exact BK564.out⟩, ⟨bw1_ HB.out GE564.out⟩⟩
  case round =>
   clear H'
   try clear p2
   try clear c6
   try clear c7
   try clear c9
   try clear hcz8_0
   try clear hcz8_1
   try clear hcz8_2
   try clear hcz8_3
   try clear hfz8_0
   try clear hfz8_1
   try clear hfz8_2
   try clear hfz8_3
   obtain ⟨x9_1, rfl, HA, HK1, BK564, HB⟩ := hrel
   cases gk with
   | zero => exact absurd HA.out (by simp [spec_l2Term.l0])
   | succ k1 =>
    have H := HA.out
    clear HA
    simp only [spec_l2Term.l0] at H
    by_cases c10 : x9_1 < (l0_3.length : Int)
    ·rw [if_pos c10] at H
     have c10b0 : decide (x9_1 < (l0_3.length : Int)) = true := decide_eq_true c10
     clear c10
     by_cases c11 : 0 ≤ x9_1
     ·rw [if_pos c11] at H
      have c11b0 : decide (0 ≤ x9_1) = true := decide_eq_true c11
      clear c11
      replace H := Option.bind_eq_some_iff.mp H
      obtain ⟨t567, A120, H⟩ := H
      try dsimp only at H
      have A12 := sd_ A120
      clear A120
      replace H := Option.bind_eq_some_iff.mp H
      obtain ⟨t568, A130, H⟩ := H
      try dsimp only at H
      have A13 := sd_ A130
      clear A130
      by_cases c14 : t568 = true
      ·subst c14
       have H1 : (spec_l2Term.l0 k1 a1 a2 a3 (wrap64 (x9_1 + 1)) a0_0 a0_1 l0_2 l0_3) = some r := by rw [if_pos rfl] at H; exact H
       clear H
       have H := H1
       clear H1
       have H' := sd_ H
       clear H
       have hcz15_0 : wr.cell? ⟨gb564, 0, none⟩ = some (.int .i64 a0_0) := (blk_cell BK564.out 0).trans rfl
       have hcz15_1 : wr.cell? ⟨gb564, 1, none⟩ = some (.int .i64 a0_1) := (blk_cell BK564.out 1).trans rfl
       have hcz15_2 : wr.cell? ⟨gb564, 2, none⟩ = some (.slice A0_2 l0_2.length c0_2) := (blk_cell BK564.out 2).trans rfl
       have hcz15_3 : wr.cell? ⟨gb564, 3, none⟩ = some (.slice A0_3 l0_3.length c0_3) := (blk_cell BK564.out 3).trans rfl
       have hfz15_0 := blk_frozen BK564.out 0
       have hfz15_1 := blk_frozen BK564.out 1
       have hfz15_2 := blk_frozen BK564.out 2
       have hfz15_3 := blk_frozen BK564.out 3
       try go_wp2
       replace BK564 := sd_ (blk_drew BK564.out)
       replace HB := sd_ (below_drew1 HB.out)
       have p566 : 0 ≤ (x9_1 : Int) := of_decide_eq_true (by first | (with_reducible assumption) | assumption)
       have q566 : x9_1 < (l0_3.length : Int) := of_decide_eq_true (by first | (with_reducible assumption) | assumption)
       obtain ⟨ad566, A566_2, c566_2, A566_3, c566_3, e566, hx566_0, hx566_1, hx566_2, hx566_3, hl566_2, hi566_2, hl566_3, hi566_3⟩ := at_T48 HR0_3.out x9_1 p566 q566
       have hw566_3 := hx566_3
       have hw566_2 := hx566_2
       have hw566_1 := hx566_1
       have hw566_0 := hx566_0
       cases e566
       replace hx566_0 := (HB.out.cell (World.block_lt_of_cell? w _ hx566_0)).trans hx566_0
       replace hx566_1 := (HB.out.cell (World.block_lt_of_cell? w _ hx566_1)).trans hx566_1
       replace hx566_2 := (HB.out.cell (World.block_lt_of_cell? w _ hx566_2)).trans hx566_2
       replace hx566_3 := (HB.out.cell (World.block_lt_of_cell? w _ hx566_3)).trans hx566_3
       have HR566_2 := sd_ hi566_2
       have HC566_2 := sd_ hl566_2
       clear hi566_2 hl566_2
       have HR566_3 := sd_ hi566_3
       have HC566_3 := sd_ hl566_3
       clear hi566_3 hl566_3
       replace p566 := eq_true p566
       replace q566 := eq_true q566
       refine start_ (n := 15) (S := fun w' => w'.cell? ⟨gb564, 0, none⟩ = some (.int .i64 a0_0) ∧ w'.cell? ⟨gb564, 1, none⟩ = some (.int .i64 a0_1) ∧ w'.cell? ⟨gb564, 2, none⟩ = some (.slice A0_2 l0_2.length c0_2) ∧ w'.cell? ⟨gb564, 3, none⟩ = some (.slice (some ad566) l0_3.length c0_3) ∧ w'.cell? (ad566.add ((x9_1).toNat * 4)) = some (.int .i64 ((rd_T48 l0_3 x9_1).f0)) ∧ w'.cell? ⟨(ad566.add ((x9_1).toNat * 4)).block, (ad566.add ((x9_1).toNat * 4)).off + 1, none⟩ = some (.int .i64 ((rd_T48 l0_3 x9_1).f1)) ∧ w'.cell? ⟨(ad566.add ((x9_1).toNat * 4)).block, (ad566.add ((x9_1).toNat * 4)).off + 2, none⟩ = some (.slice A566_2 ((rd_T48 l0_3 x9_1).f2).length c566_2) ∧ w'.cell? ⟨(ad566.add ((x9_1).toNat * 4)).block, (ad566.add ((x9_1).toNat * 4)).off + 3, none⟩ = some (.slice A566_3 ((rd_T48 l0_3 x9_1).f3).length c566_3)) (ds := []) #[false, false, false, false, false, false, false, false, false, false, false, false, false, false, false] (by kernel_rfl) rfl rfl ⟨(blk_cell BK564.out 0).trans rfl, (blk_cell BK564.out 1).trans rfl, (blk_cell BK564.out 2).trans rfl, (blk_cell BK564.out 3).trans rfl, ((HB.out.cell (World.block_lt_of_cell? w _ hw566_0)).trans hw566_0), ((HB.out.cell (World.block_lt_of_cell? w _ hw566_1)).trans hw566_1), ((HB.out.cell (World.block_lt_of_cell? w _ hw566_2)).trans hw566_2), ((HB.out.cell (World.block_lt_of_cell? w _ hw566_3)).trans hw566_3)⟩ (fun hHeld => ?_); refine with_tabW spec_l2Term.tab6 spec_l2Term.bits6 (fun HT_ HW_ => ?_)
       generalize wr.drew = w16 at BK564 HB HR566_2 HR566_3 hx566_0 hx566_1 hx566_2 hx566_3 hHeld ⊢
       refine pure_ (i := 0) (N := some 23) (v := ?_) (a' := ?_) #[true, false, false, false, false, false, false, false, false, false, false, false, false, false, false] rfl rfl (any_of HT_.out (by kernel_rfl)) (fun _ _ _ h => h) (Or.inl ⟨by rfl, ?_⟩) ?_ ?_
       rotate_left
       ·intro w'
        go_simp
        with_reducible rfl
       rotate_left
       ·simp only [Act.put, List.setIfInBounds_toArray, List.set_cons_zero, List.set_cons_succ, i64_w, i32_w]
        rfl
       refine pure_ (i := 2) (N := some 25) (v := ?_) (a' := ?_) #[true, false, true, false, false, false, false, false, false, false, false, false, false, false, false] rfl rfl (any_of HT_.out (by kernel_rfl)) (fun _ _ _ h => h) (Or.inl ⟨by rfl, ?_⟩) ?_ ?_
       rotate_left
       ·intro w'
        go_simp
        with_reducible rfl
       rotate_left
       ·simp only [Act.put, List.setIfInBounds_toArray, List.set_cons_zero, List.set_cons_succ, i64_w, i32_w]
        rfl
       refine pure_ (i := 5) (N := some 28) (v := ?_) (a' := ?_) #[true, false, true, false, false, true, false, false, false, false, false, false, false, false, false] rfl rfl (any_of HT_.out (by kernel_rfl)) (fun _ _ _ h => h) (Or.inl ⟨by rfl, ?_⟩) ?_ ?_
       rotate_left
       ·intro w'
        go_simp
        with_reducible rfl
       rotate_left
       ·simp only [Act.put, List.setIfInBounds_toArray, List.set_cons_zero, List.set_cons_succ, i64_w, i32_w]
        rfl
       refine pure_ (i := 6) (N := some 29) (v := ?_) (a' := ?_) #[true, false, true, false, false, true, true, false, false, false, false, false, false, false, false] rfl rfl (any_of HT_.out (by kernel_rfl)) (fun _ _ _ h => h) (Or.inl ⟨by rfl, ?_⟩) ?_ ?_
       rotate_left
       ·intro w'
        go_simp
        with_reducible rfl
       rotate_left
       ·simp only [Act.put, List.setIfInBounds_toArray, List.set_cons_zero, List.set_cons_succ, i64_w, i32_w]
        rfl
       refine pure_ (i := 8) (N := some 31) (v := ?_) (a' := ?_) #[true, false, true, false, false, true, true, false, true, false, false, false, false, false, false] rfl rfl (any_of HT_.out (by kernel_rfl)) (fun _ _ _ h => h) (Or.inl ⟨by rfl, ?_⟩) ?_ ?_
       rotate_left
       ·intro w'
        go_simp
        with_reducible rfl
       rotate_left
       ·simp only [Act.put, List.setIfInBounds_toArray, List.set_cons_zero, List.set_cons_succ, i64_w, i32_w]
        rfl
       refine pure_ (i := 11) (N := some 34) (v := ?_) (a' := ?_) #[true, false, true, false, false, true, true, false, true, false, false, true, false, false, false] rfl rfl (any_of HT_.out (by kernel_rfl)) (fun _ _ _ h => h) (Or.inl ⟨by rfl, ?_⟩) ?_ ?_
       rotate_left
       ·intro w'
        go_simp
        with_reducible rfl
       rotate_left
       ·simp only [Act.put, List.setIfInBounds_toArray, List.set_cons_zero, List.set_cons_succ, i64_w, i32_w]
        rfl
       refine pure_ (i := 12) (N := some 35) (v := ?_) (a' := ?_) #[true, false, true, false, false, true, true, false, true, false, false, true, true, false, false] rfl rfl (any_of HT_.out (by kernel_rfl)) (fun _ _ _ h => h) (Or.inl ⟨by rfl, ?_⟩) ?_ ?_
       rotate_left
       ·intro w'
        go_simp
        with_reducible rfl
       rotate_left
       ·simp only [Act.put, List.setIfInBounds_toArray, List.set_cons_zero, List.set_cons_succ, i64_w, i32_w]
        rfl
       refine take_ (i := 1) (N := some 24) (v := ?_) (a' := ?_) #[true, true, true, false, false, true, true, false, true, false, false, true, true, false, false] rfl rfl (take_ofW HT_.out HW_.out (by kernel_rfl)) (fun _ _ _ h => h) (Or.inl ⟨by rfl, ?_⟩) hHeld ?_ ?_
       rotate_left
       ·rintro w' ⟨s0, s1, s2, s3, s4, s5, s6, s7⟩
        go_simp
        with_reducible rfl
       rotate_left
       ·simp only [Act.put, List.setIfInBounds_toArray, List.set_cons_zero, List.set_cons_succ, i64_w, i32_w]
        rfl
       refine pure_ (i := 3) (N := some 26) (v := ?_) (a' := ?_) #[true, true, true, true, false, true, true, false, true, false, false, true, true, false, false] rfl rfl (any_of HT_.out (by kernel_rfl)) (fun _ _ _ h => h) (Or.inl ⟨by rfl, ?_⟩) ?_ ?_
       rotate_left
       ·intro w'
        go_simp
        with_reducible rfl
       rotate_left
       ·simp only [Act.put, List.setIfInBounds_toArray, List.set_cons_zero, List.set_cons_succ, i64_w, i32_w]
        rfl
       refine take_ (i := 4) (N := some 27) (v := ?_) (a' := ?_) #[true, true, true, true, true, true, true, false, true, false, false, true, true, false, false] rfl rfl (take_ofW HT_.out HW_.out (by kernel_rfl)) (fun _ _ _ h => h) (Or.inl ⟨by rfl, ?_⟩) hHeld ?_ ?_
       rotate_left
       ·rintro w' ⟨s0, s1, s2, s3, s4, s5, s6, s7⟩
        go_simp
        with_reducible rfl
       rotate_left
       ·simp only [Act.put, List.setIfInBounds_toArray, List.set_cons_zero, List.set_cons_succ, i64_w, i32_w]
        rfl
       refine take_ (i := 7) (N := some 30) (v := ?_) (a' := ?_) #[true, true, true, true, true, true, true, true, true, false, false, true, true, false, false] rfl rfl (take_ofW HT_.out HW_.out (by kernel_rfl)) (fun _ _ _ h => h) (Or.inl ⟨by rfl, ?_⟩) hHeld ?_ ?_
       rotate_left
       ·rintro w' ⟨s0, s1, s2, s3, s4, s5, s6, s7⟩
        go_simp
        with_reducible rfl
       rotate_left
       ·simp only [Act.put, List.setIfInBounds_toArray, List.set_cons_zero, List.set_cons_succ, i64_w, i32_w]
        rfl
       refine one_ (i := 9) (N := some 32) #[true, true, true, true, true, true, true, true, true, true, false, true, true, false, false] rfl rfl (one_of HT_.out (by kernel_rfl)) (by decide) (fun K hK => ?_)
       refine goes_ Try.func100 (by kernel_rfl) rfl #[.int .i64 a0_0, .int .i64 x9_1] (by rfl) rfl rfl (by (try simp only [List.map_toArray, List.map_cons, List.map_nil]); first | done | rfl | (simp only [List.length_drop, List.length_take]; rfl)) ?_
       with_reducible refine (spec_l2Adds.calls k1 a0_0 x9_1 t567 _ A12.out).mono ?_
       rintro e w' ⟨rfl, ⟨nd, rfl⟩⟩
       refine ⟨_, rfl, ?_⟩
       refine hK.out _ _ ⟨(blk_cell BK564.out 0).trans rfl, (blk_cell BK564.out 1).trans rfl, (blk_cell BK564.out 2).trans rfl, (blk_cell BK564.out 3).trans rfl, ((HB.out.cell (World.block_lt_of_cell? w _ hw566_0)).trans hw566_0), ((HB.out.cell (World.block_lt_of_cell? w _ hw566_1)).trans hw566_1), ((HB.out.cell (World.block_lt_of_cell? w _ hw566_2)).trans hw566_2), ((HB.out.cell (World.block_lt_of_cell? w _ hw566_3)).trans hw566_3)⟩ (fun hHeld => ?_)
       clear hK K
       refine norm_ (a' := ?_) ?_ ?_
       rotate_left
       ·show Act.put _ (some 32) _ = _
        simp only [Act.put, List.setIfInBounds_toArray, List.set_cons_zero, List.set_cons_succ, i64_w, i32_w]
        rfl
       refine pure_ (i := 10) (N := some 33) (v := ?_) (a' := ?_) #[true, true, true, true, true, true, true, true, true, true, true, true, true, false, false] rfl rfl (any_of HT_.out (by kernel_rfl)) (fun _ _ _ h => h) (Or.inl ⟨by rfl, ?_⟩) ?_ ?_
       rotate_left
       ·intro w'
        go_simp
        with_reducible rfl
       rotate_left
       ·simp only [Act.put, List.setIfInBounds_toArray, List.set_cons_zero, List.set_cons_succ, i64_w, i32_w]
        rfl
       refine one_ (i := 13) (N := some 36) #[true, true, true, true, true, true, true, true, true, true, true, true, true, true, false] rfl rfl (one_of HT_.out (by kernel_rfl)) (by decide) (fun K hK => ?_)
       refine goes_ Try.func70 (by kernel_rfl) rfl #[.agg #[.int .i64 ((rd_T48 l0_3 x9_1).f0), .int .i64 ((rd_T48 l0_3 x9_1).f1), .slice A566_2 ((rd_T48 l0_3 x9_1).f2).length c566_2, .slice A566_3 ((rd_T48 l0_3 x9_1).f3).length c566_3], .int .i64 (wrap64 (a1 + t567)), .int .i64 a2, .bool a3] (by rfl) rfl rfl (by (try simp only [List.map_toArray, List.map_cons, List.map_nil]); first | done | rfl | (simp only [List.length_drop, List.length_take]; rfl)) ?_
       with_reducible refine (ih k1 (by have := HK1.out; omega) ((rd_T48 l0_3 x9_1).f0) ((rd_T48 l0_3 x9_1).f1) _ _ ((rd_T48 l0_3 x9_1).f2) _ _ ((rd_T48 l0_3 x9_1).f3) (wrap64 (a1 + t567)) a2 a3 true _ ?side1 ?side2 ?side3 ?side4 A13.out).mono ?_
       (case side1 => repeat (first | exact (Kd.C_below HR566_2.out (bw1_ HB.out GE564.out)) | (with_reducible refine Kd.C_alloc ?_ _) | (with_reducible refine Kd.C_drewN ?_ _) | (with_reducible refine Kd.C_drew ?_)))
       (case side2 => exact HC566_2.out)
       (case side3 => repeat (first | exact (Kd.C_below HR566_3.out (bw1_ HB.out GE564.out)) | (with_reducible refine Kd.C_alloc ?_ _) | (with_reducible refine Kd.C_drewN ?_ _) | (with_reducible refine Kd.C_drew ?_)))
       (case side4 => exact HC566_3.out)
       rintro e w17 ⟨rfl, hb⟩
       refine ⟨_, rfl, ?_⟩
       replace BK564 := sd_ (bb_ BK564.out hb)
       replace HB := sd_ (below_step (bw1_ HB.out GE564.out) hb)
       (try clear hb)
       (try clear hb2)
       (try clear hk)
       (try clear hi)
       refine hK.out _ _ ⟨(blk_cell BK564.out 0).trans rfl, (blk_cell BK564.out 1).trans rfl, (blk_cell BK564.out 2).trans rfl, (blk_cell BK564.out 3).trans rfl, ((HB.out.cell (World.block_lt_of_cell? w _ hw566_0)).trans hw566_0), ((HB.out.cell (World.block_lt_of_cell? w _ hw566_1)).trans hw566_1), ((HB.out.cell (World.block_lt_of_cell? w _ hw566_2)).trans hw566_2), ((HB.out.cell (World.block_lt_of_cell? w _ hw566_3)).trans hw566_3)⟩ (fun hHeld => ?_)
       clear hK K
       refine norm_ (a' := ?_) ?_ ?_
       rotate_left
       ·show Act.put _ (some 36) _ = _
        simp only [Act.put, List.setIfInBounds_toArray, List.set_cons_zero, List.set_cons_succ, i64_w, i32_w]
        rfl
       refine pure_ (i := 14) (N := some 37) (v := ?_) (a' := ?_) #[true, true, true, true, true, true, true, true, true, true, true, true, true, true, true] rfl rfl (any_of HT_.out (by kernel_rfl)) (fun _ _ _ h => h) (Or.inl ⟨by rfl, ?_⟩) ?_ ?_
       rotate_left
       ·intro w'
        go_simp
        with_reducible rfl
       rotate_left
       ·simp only [Act.put, List.setIfInBounds_toArray, List.set_cons_zero, List.set_cons_succ, i64_w, i32_w]
        rfl
       refine done_ (done_of HT_.out (by kernel_rfl)) ?_
       try go_wp2
       go_roundg k1
       case measure => have := HK1.out; omega
       case rel => exact ⟨(wrap64 (x9_1 + 1)), (by first | rfl | (simp; done) | (simp [*]; done)), H', ⟨by have := HK1.out; omega⟩, ⟨by (with_reducible repeat (first | refine blk_drewN ?_ _ | refine blk_drew ?_ | refine blk_alloc ?_ _)); exact BK564.out⟩, ⟨bw1_ HB.out GE564.out⟩⟩
      ·replace c14 := Bool.eq_false_iff.mpr c14
       subst c14
       have H1 : (some false) = some r := by rw [if_neg (show ¬ (false = true) by decide)] at H; exact H
       clear H
       have H := H1
       clear H1
       obtain rfl := Option.some.inj H
       have hcz18_0 : wr.cell? ⟨gb564, 0, none⟩ = some (.int .i64 a0_0) := (blk_cell BK564.out 0).trans rfl
       have hcz18_1 : wr.cell? ⟨gb564, 1, none⟩ = some (.int .i64 a0_1) := (blk_cell BK564.out 1).trans rfl
       have hcz18_2 : wr.cell? ⟨gb564, 2, none⟩ = some (.slice A0_2 l0_2.length c0_2) := (blk_cell BK564.out 2).trans rfl
       have hcz18_3 : wr.cell? ⟨gb564, 3, none⟩ = some (.slice A0_3 l0_3.length c0_3) := (blk_cell BK564.out 3).trans rfl
       have hfz18_0 := blk_frozen BK564.out 0
       have hfz18_1 := blk_frozen BK564.out 1
       have hfz18_2 := blk_frozen BK564.out 2
       have hfz18_3 := blk_frozen BK564.out 3
       try go_wp2
       replace BK564 := sd_ (blk_drew BK564.out)
       replace HB := sd_ (below_drew1 HB.out)
       have p566 : 0 ≤ (x9_1 : Int) := of_decide_eq_true (by first | (with_reducible assumption) | assumption)
       have q566 : x9_1 < (l0_3.length : Int) := of_decide_eq_true (by first | (with_reducible assumption) | assumption)
       obtain ⟨ad566, A566_2, c566_2, A566_3, c566_3, e566, hx566_0, hx566_1, hx566_2, hx566_3, hl566_2, hi566_2, hl566_3, hi566_3⟩ := at_T48 HR0_3.out x9_1 p566 q566
       have hw566_3 := hx566_3
       have hw566_2 := hx566_2
       have hw566_1 := hx566_1
       have hw566_0 := hx566_0
       cases e566
       replace hx566_0 := (HB.out.cell (World.block_lt_of_cell? w _ hx566_0)).trans hx566_0
       replace hx566_1 := (HB.out.cell (World.block_lt_of_cell? w _ hx566_1)).trans hx566_1
       replace hx566_2 := (HB.out.cell (World.block_lt_of_cell? w _ hx566_2)).trans hx566_2
       replace hx566_3 := (HB.out.cell (World.block_lt_of_cell? w _ hx566_3)).trans hx566_3
       have HR566_2 := sd_ hi566_2
       have HC566_2 := sd_ hl566_2
       clear hi566_2 hl566_2
       have HR566_3 := sd_ hi566_3
       have HC566_3 := sd_ hl566_3
       clear hi566_3 hl566_3
       replace p566 := eq_true p566
       replace q566 := eq_true q566
       refine start_ (n := 15) (S := fun w' => w'.cell? ⟨gb564, 0, none⟩ = some (.int .i64 a0_0) ∧ w'.cell? ⟨gb564, 1, none⟩ = some (.int .i64 a0_1) ∧ w'.cell? ⟨gb564, 2, none⟩ = some (.slice A0_2 l0_2.length c0_2) ∧ w'.cell? ⟨gb564, 3, none⟩ = some (.slice (some ad566) l0_3.length c0_3) ∧ w'.cell? (ad566.add ((x9_1).toNat * 4)) = some (.int .i64 ((rd_T48 l0_3 x9_1).f0)) ∧ w'.cell? ⟨(ad566.add ((x9_1).toNat * 4)).block, (ad566.add ((x9_1).toNat * 4)).off + 1, none⟩ = some (.int .i64 ((rd_T48 l0_3 x9_1).f1)) ∧ w'.cell? ⟨(ad566.add ((x9_1).toNat * 4)).block, (ad566.add ((x9_1).toNat * 4)).off + 2, none⟩ = some (.slice A566_2 ((rd_T48 l0_3 x9_1).f2).length c566_2) ∧ w'.cell? ⟨(ad566.add ((x9_1).toNat * 4)).block, (ad566.add ((x9_1).toNat * 4)).off + 3, none⟩ = some (.slice A566_3 ((rd_T48 l0_3 x9_1).f3).length c566_3)) (ds := []) #[false, false, false, false, false, false, false, false, false, false, false, false, false, false, false] (by kernel_rfl) rfl rfl ⟨(blk_cell BK564.out 0).trans rfl, (blk_cell BK564.out 1).trans rfl, (blk_cell BK564.out 2).trans rfl, (blk_cell BK564.out 3).trans rfl, ((HB.out.cell (World.block_lt_of_cell? w _ hw566_0)).trans hw566_0), ((HB.out.cell (World.block_lt_of_cell? w _ hw566_1)).trans hw566_1), ((HB.out.cell (World.block_lt_of_cell? w _ hw566_2)).trans hw566_2), ((HB.out.cell (World.block_lt_of_cell? w _ hw566_3)).trans hw566_3)⟩ (fun hHeld => ?_); refine with_tabW spec_l2Term.tab6 spec_l2Term.bits6 (fun HT_ HW_ => ?_)
       generalize wr.drew = w19 at BK564 HB HR566_2 HR566_3 hx566_0 hx566_1 hx566_2 hx566_3 hHeld ⊢
       refine pure_ (i := 0) (N := some 23) (v := ?_) (a' := ?_) #[true, false, false, false, false, false, false, false, false, false, false, false, false, false, false] rfl rfl (any_of HT_.out (by kernel_rfl)) (fun _ _ _ h => h) (Or.inl ⟨by rfl, ?_⟩) ?_ ?_
       rotate_left
       ·intro w'
        go_simp
        with_reducible rfl
       rotate_left
       ·simp only [Act.put, List.setIfInBounds_toArray, List.set_cons_zero, List.set_cons_succ, i64_w, i32_w]
        rfl
       refine pure_ (i := 2) (N := some 25) (v := ?_) (a' := ?_) #[true, false, true, false, false, false, false, false, false, false, false, false, false, false, false] rfl rfl (any_of HT_.out (by kernel_rfl)) (fun _ _ _ h => h) (Or.inl ⟨by rfl, ?_⟩) ?_ ?_
       rotate_left
       ·intro w'
        go_simp
        with_reducible rfl
       rotate_left
       ·simp only [Act.put, List.setIfInBounds_toArray, List.set_cons_zero, List.set_cons_succ, i64_w, i32_w]
        rfl
       refine pure_ (i := 5) (N := some 28) (v := ?_) (a' := ?_) #[true, false, true, false, false, true, false, false, false, false, false, false, false, false, false] rfl rfl (any_of HT_.out (by kernel_rfl)) (fun _ _ _ h => h) (Or.inl ⟨by rfl, ?_⟩) ?_ ?_
       rotate_left
       ·intro w'
        go_simp
        with_reducible rfl
       rotate_left
       ·simp only [Act.put, List.setIfInBounds_toArray, List.set_cons_zero, List.set_cons_succ, i64_w, i32_w]
        rfl
       refine pure_ (i := 6) (N := some 29) (v := ?_) (a' := ?_) #[true, false, true, false, false, true, true, false, false, false, false, false, false, false, false] rfl rfl (any_of HT_.out (by kernel_rfl)) (fun _ _ _ h => h) (Or.inl ⟨by rfl, ?_⟩) ?_ ?_
       rotate_left
       ·intro w'
        go_simp
        with_reducible rfl
       rotate_left
       ·simp only [Act.put, List.setIfInBounds_toArray, List.set_cons_zero, List.set_cons_succ, i64_w, i32_w]
        rfl
       refine pure_ (i := 8) (N := some 31) (v := ?_) (a' := ?_) #[true, false, true, false, false, true, true, false, true, false, false, false, false, false, false] rfl rfl (any_of HT_.out (by kernel_rfl)) (fun _ _ _ h => h) (Or.inl ⟨by rfl, ?_⟩) ?_ ?_
       rotate_left
       ·intro w'
        go_simp
        with_reducible rfl
       rotate_left
       ·simp only [Act.put, List.setIfInBounds_toArray, List.set_cons_zero, List.set_cons_succ, i64_w, i32_w]
        rfl
       refine pure_ (i := 11) (N := some 34) (v := ?_) (a' := ?_) #[true, false, true, false, false, true, true, false, true, false, false, true, false, false, false] rfl rfl (any_of HT_.out (by kernel_rfl)) (fun _ _ _ h => h) (Or.inl ⟨by rfl, ?_⟩) ?_ ?_
       rotate_left
       ·intro w'
        go_simp
        with_reducible rfl
       rotate_left
       ·simp only [Act.put, List.setIfInBounds_toArray, List.set_cons_zero, List.set_cons_succ, i64_w, i32_w]
        rfl
       refine pure_ (i := 12) (N := some 35) (v := ?_) (a' := ?_) #[true, false, true, false, false, true, true, false, true, false, false, true, true, false, false] rfl rfl (any_of HT_.out (by kernel_rfl)) (fun _ _ _ h => h) (Or.inl ⟨by rfl, ?_⟩) ?_ ?_
       rotate_left
       ·intro w'
        go_simp
        with_reducible rfl
       rotate_left
       ·simp only [Act.put, List.setIfInBounds_toArray, List.set_cons_zero, List.set_cons_succ, i64_w, i32_w]
        rfl
       refine take_ (i := 1) (N := some 24) (v := ?_) (a' := ?_) #[true, true, true, false, false, true, true, false, true, false, false, true, true, false, false] rfl rfl (take_ofW HT_.out HW_.out (by kernel_rfl)) (fun _ _ _ h => h) (Or.inl ⟨by rfl, ?_⟩) hHeld ?_ ?_
       rotate_left
       ·rintro w' ⟨s0, s1, s2, s3, s4, s5, s6, s7⟩
        go_simp
        with_reducible rfl
       rotate_left
       ·simp only [Act.put, List.setIfInBounds_toArray, List.set_cons_zero, List.set_cons_succ, i64_w, i32_w]
        rfl
       refine pure_ (i := 3) (N := some 26) (v := ?_) (a' := ?_) #[true, true, true, true, false, true, true, false, true, false, false, true, true, false, false] rfl rfl (any_of HT_.out (by kernel_rfl)) (fun _ _ _ h => h) (Or.inl ⟨by rfl, ?_⟩) ?_ ?_
       rotate_left
       ·intro w'
        go_simp
        with_reducible rfl
       rotate_left
       ·simp only [Act.put, List.setIfInBounds_toArray, List.set_cons_zero, List.set_cons_succ, i64_w, i32_w]
        rfl
       refine take_ (i := 4) (N := some 27) (v := ?_) (a' := ?_) #[true, true, true, true, true, true, true, false, true, false, false, true, true, false, false] rfl rfl (take_ofW HT_.out HW_.out (by kernel_rfl)) (fun _ _ _ h => h) (Or.inl ⟨by rfl, ?_⟩) hHeld ?_ ?_
       rotate_left
       ·rintro w' ⟨s0, s1, s2, s3, s4, s5, s6, s7⟩
        go_simp
        with_reducible rfl
       rotate_left
       ·simp only [Act.put, List.setIfInBounds_toArray, List.set_cons_zero, List.set_cons_succ, i64_w, i32_w]
        rfl
       refine take_ (i := 7) (N := some 30) (v := ?_) (a' := ?_) #[true, true, true, true, true, true, true, true, true, false, false, true, true, false, false] rfl rfl (take_ofW HT_.out HW_.out (by kernel_rfl)) (fun _ _ _ h => h) (Or.inl ⟨by rfl, ?_⟩) hHeld ?_ ?_
       rotate_left
       ·rintro w' ⟨s0, s1, s2, s3, s4, s5, s6, s7⟩
        go_simp
        with_reducible rfl
       rotate_left
       ·simp only [Act.put, List.setIfInBounds_toArray, List.set_cons_zero, List.set_cons_succ, i64_w, i32_w]
        rfl
       refine one_ (i := 9) (N := some 32) #[true, true, true, true, true, true, true, true, true, true, false, true, true, false, false] rfl rfl (one_of HT_.out (by kernel_rfl)) (by decide) (fun K hK => ?_)
       refine goes_ Try.func100 (by kernel_rfl) rfl #[.int .i64 a0_0, .int .i64 x9_1] (by rfl) rfl rfl (by (try simp only [List.map_toArray, List.map_cons, List.map_nil]); first | done | rfl | (simp only [List.length_drop, List.length_take]; rfl)) ?_
       with_reducible refine (spec_l2Adds.calls k1 a0_0 x9_1 t567 _ A12.out).mono ?_
       rintro e w' ⟨rfl, ⟨nd, rfl⟩⟩
       refine ⟨_, rfl, ?_⟩
       refine hK.out _ _ ⟨(blk_cell BK564.out 0).trans rfl, (blk_cell BK564.out 1).trans rfl, (blk_cell BK564.out 2).trans rfl, (blk_cell BK564.out 3).trans rfl, ((HB.out.cell (World.block_lt_of_cell? w _ hw566_0)).trans hw566_0), ((HB.out.cell (World.block_lt_of_cell? w _ hw566_1)).trans hw566_1), ((HB.out.cell (World.block_lt_of_cell? w _ hw566_2)).trans hw566_2), ((HB.out.cell (World.block_lt_of_cell? w _ hw566_3)).trans hw566_3)⟩ (fun hHeld => ?_)
       clear hK K
       refine norm_ (a' := ?_) ?_ ?_
       rotate_left
       ·show Act.put _ (some 32) _ = _
        simp only [Act.put, List.setIfInBounds_toArray, List.set_cons_zero, List.set_cons_succ, i64_w, i32_w]
        rfl
       refine pure_ (i := 10) (N := some 33) (v := ?_) (a' := ?_) #[true, true, true, true, true, true, true, true, true, true, true, true, true, false, false] rfl rfl (any_of HT_.out (by kernel_rfl)) (fun _ _ _ h => h) (Or.inl ⟨by rfl, ?_⟩) ?_ ?_
       rotate_left
       ·intro w'
        go_simp
        with_reducible rfl
       rotate_left
       ·simp only [Act.put, List.setIfInBounds_toArray, List.set_cons_zero, List.set_cons_succ, i64_w, i32_w]
        rfl
       refine one_ (i := 13) (N := some 36) #[true, true, true, true, true, true, true, true, true, true, true, true, true, true, false] rfl rfl (one_of HT_.out (by kernel_rfl)) (by decide) (fun K hK => ?_)
       refine goes_ Try.func70 (by kernel_rfl) rfl #[.agg #[.int .i64 ((rd_T48 l0_3 x9_1).f0), .int .i64 ((rd_T48 l0_3 x9_1).f1), .slice A566_2 ((rd_T48 l0_3 x9_1).f2).length c566_2, .slice A566_3 ((rd_T48 l0_3 x9_1).f3).length c566_3], .int .i64 (wrap64 (a1 + t567)), .int .i64 a2, .bool a3] (by rfl) rfl rfl (by (try simp only [List.map_toArray, List.map_cons, List.map_nil]); first | done | rfl | (simp only [List.length_drop, List.length_take]; rfl)) ?_
       with_reducible refine (ih k1 (by have := HK1.out; omega) ((rd_T48 l0_3 x9_1).f0) ((rd_T48 l0_3 x9_1).f1) _ _ ((rd_T48 l0_3 x9_1).f2) _ _ ((rd_T48 l0_3 x9_1).f3) (wrap64 (a1 + t567)) a2 a3 false _ ?side1 ?side2 ?side3 ?side4 A13.out).mono ?_
       (case side1 => repeat (first | exact (Kd.C_below HR566_2.out (bw1_ HB.out GE564.out)) | (with_reducible refine Kd.C_alloc ?_ _) | (with_reducible refine Kd.C_drewN ?_ _) | (with_reducible refine Kd.C_drew ?_)))
       (case side2 => exact HC566_2.out)
       (case side3 => repeat (first | exact (Kd.C_below HR566_3.out (bw1_ HB.out GE564.out)) | (with_reducible refine Kd.C_alloc ?_ _) | (with_reducible refine Kd.C_drewN ?_ _) | (with_reducible refine Kd.C_drew ?_)))
       (case side4 => exact HC566_3.out)
       rintro e w20 ⟨rfl, hb⟩
       refine ⟨_, rfl, ?_⟩
       replace BK564 := sd_ (bb_ BK564.out hb)
       replace HB := sd_ (below_step (bw1_ HB.out GE564.out) hb)
       (try clear hb)
       (try clear hb2)
       (try clear hk)
       (try clear hi)
       refine hK.out _ _ ⟨(blk_cell BK564.out 0).trans rfl, (blk_cell BK564.out 1).trans rfl, (blk_cell BK564.out 2).trans rfl, (blk_cell BK564.out 3).trans rfl, ((HB.out.cell (World.block_lt_of_cell? w _ hw566_0)).trans hw566_0), ((HB.out.cell (World.block_lt_of_cell? w _ hw566_1)).trans hw566_1), ((HB.out.cell (World.block_lt_of_cell? w _ hw566_2)).trans hw566_2), ((HB.out.cell (World.block_lt_of_cell? w _ hw566_3)).trans hw566_3)⟩ (fun hHeld => ?_)
       clear hK K
       refine norm_ (a' := ?_) ?_ ?_
       rotate_left
       ·show Act.put _ (some 36) _ = _
        simp only [Act.put, List.setIfInBounds_toArray, List.set_cons_zero, List.set_cons_succ, i64_w, i32_w]
        rfl
       refine pure_ (i := 14) (N := some 37) (v := ?_) (a' := ?_) #[true, true, true, true, true, true, true, true, true, true, true, true, true, true, true] rfl rfl (any_of HT_.out (by kernel_rfl)) (fun _ _ _ h => h) (Or.inl ⟨by rfl, ?_⟩) ?_ ?_
       rotate_left
       ·intro w'
        go_simp
        with_reducible rfl
       rotate_left
       ·simp only [Act.put, List.setIfInBounds_toArray, List.set_cons_zero, List.set_cons_succ, i64_w, i32_w]
        rfl
       refine done_ (done_of HT_.out (by kernel_rfl)) ?_
       try go_wp2
       go_ret
       exact ⟨an_, bw1_ HB.out GE564.out⟩
     ·rw [if_neg c11] at H
      exact absurd H (by simp)
    ·rw [if_neg c10] at H
     have c10b0 : decide (x9_1 < (l0_3.length : Int)) = false := decide_eq_false c10
     clear c10
     obtain rfl := Option.some.inj H
     have hcz21_0 : wr.cell? ⟨gb564, 0, none⟩ = some (.int .i64 a0_0) := (blk_cell BK564.out 0).trans rfl
     have hcz21_1 : wr.cell? ⟨gb564, 1, none⟩ = some (.int .i64 a0_1) := (blk_cell BK564.out 1).trans rfl
     have hcz21_2 : wr.cell? ⟨gb564, 2, none⟩ = some (.slice A0_2 l0_2.length c0_2) := (blk_cell BK564.out 2).trans rfl
     have hcz21_3 : wr.cell? ⟨gb564, 3, none⟩ = some (.slice A0_3 l0_3.length c0_3) := (blk_cell BK564.out 3).trans rfl
     have hfz21_0 := blk_frozen BK564.out 0
     have hfz21_1 := blk_frozen BK564.out 1
     have hfz21_2 := blk_frozen BK564.out 2
     have hfz21_3 := blk_frozen BK564.out 3
     go_wp2
     go_ret
     exact ⟨an_, bw1_ HB.out GE564.out⟩
 ·replace c6 := Bool.eq_false_iff.mpr c6
  subst c6
  have H1 : (some false) = some r := by rw [if_neg (show ¬ (false = true) by decide)] at H; exact H
  clear H
  have H := H1
  clear H1
  obtain rfl := Option.some.inj H
  go_enter Try.func70, Try.ntmps70
  go_wp2_with (first | ((with_reducible refine gate_dst (N := 4) rfl ?_); refine box_event ?hg (N := 4) ?hd (cs := #[.int .i64 a0_0, .int .i64 a0_1, .slice A0_2 l0_2.length c0_2, .slice A0_3 l0_3.length c0_3]) (t := 48) ?hr ?_; (case hd => rfl); (case hg => rfl); (case hr => first | (go_simp; done) | (go_simp; rfl)); intro gb564 hg w22 hbox hb; have BK564 := sd_ (hbox); have GW564 := sd_ ((by rw [hg]; exact (below_size (bw0_ HB.out)) : w.heap.size ≤ gb564)); have GE564 := sd_ ((by rw [hg]; exact (below_size (bw0_ HB.out)) : w.heap.size ≤ gb564)); replace HB := sd_ (below_step (bw0_ HB.out) hb); clear hb hbox hg; have hcz23_0 : w22.cell? ⟨gb564, 0, none⟩ = some (.int .i64 a0_0) := (blk_cell BK564.out 0).trans rfl; have hcz23_1 : w22.cell? ⟨gb564, 1, none⟩ = some (.int .i64 a0_1) := (blk_cell BK564.out 1).trans rfl; have hcz23_2 : w22.cell? ⟨gb564, 2, none⟩ = some (.slice A0_2 l0_2.length c0_2) := (blk_cell BK564.out 2).trans rfl; have hcz23_3 : w22.cell? ⟨gb564, 3, none⟩ = some (.slice A0_3 l0_3.length c0_3) := (blk_cell BK564.out 3).trans rfl; have hfz23_0 := blk_frozen BK564.out 0; have hfz23_1 := blk_frozen BK564.out 1; have hfz23_2 := blk_frozen BK564.out 2; have hfz23_3 := blk_frozen BK564.out 3) | ((with_reducible refine gate_callee (f := 99) rfl ?_); refine goesL_ (some 14) rfl rfl Try.func99 (by kernel_rfl) rfl #[.agg #[.int .i64 a0_0, .int .i64 a0_1, .slice A0_2 l0_2.length c0_2, .slice A0_3 l0_3.length c0_3], .int .i64 a1, .int .i64 a2, .bool a3] rfl (by (try simp only [List.map_toArray, List.map_cons, List.map_nil]); first | done | rfl | (simp only [List.length_drop, List.length_take]; rfl)) ?_; (with_reducible refine (spec_l2Node.calls k a0_0 a0_1 _ _ l0_2 _ _ l0_3 a1 a2 a3 false _ ?side1 ?side2 ?side3 ?side4 A5.out).mono ?_); (case side1 => exact kc_ HR0_2.out HB.out); (case side2 => exact HC0_2.out); (case side3 => exact kc_ HR0_3.out HB.out); (case side4 => exact HC0_3.out); rintro e w24 ⟨rfl, hb⟩; refine ⟨_, rfl, ?_⟩; replace BK564 := sd_ (bb_ BK564.out hb); replace HB := sd_ (below_step (bw1_ HB.out GE564.out) hb); (try clear hb); (try clear hb2); (try clear hk); (try clear hi)))
  go_ret
  exact ⟨an_, bw1_ HB.out GE564.out⟩

end Go.Proofs.Ytnokgkhkmnldeaa.P
