-- Several texts in one (wip/tools/merge2.py).
import Derived.Test.YtcdmnofomoadlaaM1
import Derived.Test.YtcdmnofomoadlaaM3
import Derived.Test.YtcdmnofomoadlaaM5
import Derived.Test.YtcdmnofomoadlaaM2
import Derived.Test.YtcdmnofomoadlaaM4
section
namespace Go.Proofs.Ytcdmnofomoadlaa.P
open Go.RowKit Go.Proofs.YtcdmnofomoadlaaW.PrintWords Go.Proofs.YtcdmnofomoadlaaW.PrintLast Go.Proofs.YtcdmnofomoadlaaW.PrintMore
attribute [local go_sem] max2_int min2_int max_two min_two max_three min_three max_four min_four   -- for this text's walks alone
set_option linter.unusedVariables false
set_option linter.unusedSimpArgs false
/-! ### spec_LevelSystem: function 114 -/
mutual
def spec_LevelSystem.l0 : Nat → Int → Int → Int → List Int → List Int → List Bool → Option (Int × List Int × List Int × List Bool)
 | 0, _, _, _, _, _, _ => none
 | k + 1, x0, x4, x261000, x261001, x261002, x261003 => if x4 ≤ x0 then (spec_LevelSystem.l1 k x0 x4 0 x261000 x261001 x261002 x261003) else (some (x261000, x261001, x261002, x261003))
def spec_LevelSystem.l1 : Nat → Int → Int → Int → Int → List Int → List Int → List Bool → Option (Int × List Int × List Int × List Bool)
 | 0, _, _, _, _, _, _, _ => none
 | k + 1, x0, x4, x5, x261000, x261001, x261002, x261003 => if x5 ≤ x0 then (if (wrap64 (x0 + 1)) = 0 then (none) else ((spec_l1Max.f (Int.tmod (wrap64 ((wrap64 (x0 + 1)) - x4)) (wrap64 (x0 + 1))) (Int.tmod (wrap64 ((wrap64 (x0 + 1)) - x5)) (wrap64 (x0 + 1)))).bind fun t261 => ((spec_l1Min.f (Int.tmod (wrap64 ((wrap64 (x0 + 1)) - x4)) (wrap64 (x0 + 1))) (Int.tmod (wrap64 ((wrap64 (x0 + 1)) - x5)) (wrap64 (x0 + 1)))).bind fun t262 => (if x261001.length < 17592186044416 then (if x261002.length < 17592186044416 then (if x261003.length < 140737488355328 then (spec_LevelSystem.l1 k x0 x4 (wrap64 (x5 + 1)) x261000 (x261001 ++ [Int.tmod (wrap64 ((wrap64 (x0 + 1)) - t261)) (wrap64 (x0 + 1))]) (x261002 ++ [Int.tmod (wrap64 ((wrap64 (x0 + 1)) - t262)) (wrap64 (x0 + 1))]) (x261003 ++ [decide ((Int.tmod (wrap64 ((wrap64 (x0 + 1)) - x4)) (wrap64 (x0 + 1))) ≤ (Int.tmod (wrap64 ((wrap64 (x0 + 1)) - x5)) (wrap64 (x0 + 1))))])) else (none)) else (none)) else (none))))) else (spec_LevelSystem.l0 k x0 (wrap64 (x4 + 1)) x261000 x261001 x261002 x261003)
end
def spec_LevelSystem.f (k : Nat) (a0 : Int) : Option (Int × List Int × List Int × List Bool) := (spec_l1In.f a0 1 15).bind fun t259 => (if t259 = true then (spec_LevelSystem.l0 k a0 0 (wrap64 (a0 + 1)) ([] : List Int) ([] : List Int) ([] : List Bool)) else (some (0, ([] : List Int), ([] : List Int), ([] : List Bool))))
set_option maxHeartbeats 8000000 in
set_option maxRecDepth 100000 in
theorem spec_LevelSystem.calls (k : Nat) (a0 : Int) (r1 : Int) (r2 : List Int) (r3 : List Int) (r4 : List Bool) (w : World) (h : spec_LevelSystem.f k a0 = some (r1, r2, r3, r4)) :
  Calls Try.prog 114 #[.int .i64 a0] w fun e w' => ∃ v1_ v2_ v3_ : Value, e = .returned (.agg #[.int .i64 r1, v1_, v2_, v3_]) ∧ Kd.R (Kd.int .i64) 3 w' w.heap.size (fun k_ => some k_ ≠ (v2_ : Value).ownBlock) v1_ r2 ∧ Kd.R (Kd.int .i64) 3 w' w.heap.size (fun k_ => some k_ ≠ (v1_ : Value).ownBlock) v2_ r3 ∧ Kd.R Kd.bool 4 w' w.heap.size (fun _ => True) v3_ r4 ∧ Below w.heap.size w w' := by
 have hu27 := Try.underlying27
 have HB := sd_ (Below.refl w.heap.size w)
 have H : ((spec_l1In.f a0 1 15).bind fun t259 => (if t259 = true then (spec_LevelSystem.l0 k a0 0 (wrap64 (a0 + 1)) ([] : List Int) ([] : List Int) ([] : List Bool)) else (some (0, ([] : List Int), ([] : List Int), ([] : List Bool))))) = some (r1, r2, r3, r4) := h
 clear h
 replace H := Option.bind_eq_some_iff.mp H
 obtain ⟨t259, A20, H⟩ := H
 try dsimp only at H
 have A2 := sd_ A20
 clear A20
 have HP3 := sd_ H
 clear H
 go_enter Try.func114, Try.ntmps114
 go_upto_if 12 with (first | ((with_reducible refine gate_dst (N := 2) rfl ?_); refine bx_ (N := 2) (cs := #[.int .i64 0, .slice none 0 0, .slice none 0 0, .slice none 0 0]) (t := 27) ?_; intro gb258 hg w4 hbox hb; have BK258 := sd_ (hbox); have GW258 := sd_ (gs_ hg (bw0_ HB.out)); have GE258 := sd_ (gs_ hg (bw0_ HB.out)); replace HB := sd_ (below_step (bw0_ HB.out) hb); clear hb hbox hg) | ((with_reducible refine gate_callee (f := 80) rfl ?_); refine goesL_ (some 11) rfl rfl Try.func80 (by kernel_rfl) rfl #[.int .i64 a0, .int .i64 1, .int .i64 15] rfl la_ ?_; (with_reducible refine (spec_l1In.calls a0 1 15 t259 _ A2.out).mono ?_); rintro e w' ⟨rfl, ⟨nd, rfl⟩⟩; refine ⟨_, rfl, ?_⟩))
 have H := HP3.out
 clear HP3
 by_cases c5 : t259 = true
 ·subst c5
  have H1 : (spec_LevelSystem.l0 k a0 0 (wrap64 (a0 + 1)) ([] : List Int) ([] : List Int) ([] : List Bool)) = some (r1, r2, r3, r4) := by rw [if_pos rfl] at H; exact H
  clear H
  have H := H1
  clear H1
  have H' := sd_ H
  clear H
  go_wp2_with (first | ((with_reducible refine gate_dst (N := 3) rfl ?_); refine bx_ (N := 3) (cs := #[.int .i64 0, .slice none 0 0, .slice none 0 0, .slice none 0 0]) (t := 27) ?_; intro gb260 hg w6 hbox hb; have BK260 := sd_ (hbox); have GW260 := sd_ (gs_ hg (bw1_ HB.out GE258.out)); have GE260 := sd_ (gs_ hg (bw1_ HB.out GE258.out)); replace HB := sd_ (below_step (bw1_ HB.out GE258.out) hb); have NB258_260 := sd_ (nl_ hg (bl_ BK258.out)); have NB260_258 := sd_ (ng_ hg (bl_ BK258.out)); replace BK258 := sd_ (bb_ BK258.out hb); clear hb hbox hg; have hnb7 := NB260_258.out; have hnc7 := NB258_260.out; obtain ⟨hcz8_0, hcz8_1, hcz8_2, hcz8_3, hfz8_0, hfz8_1, hfz8_2, hfz8_3⟩ := bf4_ BK260.out))
  go_loopg [4] k (fun kq v4 w' => ∃ (x4_1 : Int) (x261001_1 : List Int) (x261002_1 : List Int) (x261003_1 : List Bool) (u261001 : Value) (u261002 : Value) (u261003 : Value), v4 = .int .i64 x4_1 ∧ Aside0 (spec_LevelSystem.l0 kq a0 x4_1 (wrap64 (a0 + 1)) x261001_1 x261002_1 x261003_1 = some (r1, r2, r3, r4)) ∧ Aside0 (kq ≤ k) ∧ Aside0 (Kd.R (Kd.int .i64) 3 w' w.heap.size (fun k_ => some k_ ≠ (u261002 : Value).ownBlock) u261001 x261001_1) ∧ Aside0 (Kd.R (Kd.int .i64) 3 w' w.heap.size (fun k_ => some k_ ≠ (u261001 : Value).ownBlock) u261002 x261002_1) ∧ Aside0 (Kd.R Kd.bool 4 w' w.heap.size (fun _ => True) u261003 x261003_1) ∧ Aside0 (w'.heap[gb258]? = some (.cells #[.int .i64 0, (.slice none 0 0), (.slice none 0 0), (.slice none 0 0)] 27 (0, 0))) ∧ Aside0 (w'.heap[gb260]? = some (.cells #[.int .i64 (wrap64 (a0 + 1)), u261001, u261002, u261003] 27 (0, 0))) ∧ Aside0 (Below w.heap.size w w'))
  case atStart => exact ⟨(0), (([] : List Int)), (([] : List Int)), (([] : List Bool)), (.slice none 0 0), (.slice none 0 0), (.slice none 0 0), sm_, H', ⟨Nat.le_refl _⟩, ⟨by first | exact Kd.R_nil _ _ _ _ _ | exact Kd.N_nil _ _ _ _ _ | exact Kd.V_nil _ _ _ _ _ | exact Kd.Q_nil _ _ _ _ _ | exact Kd.S_nil _ _ _ _ _⟩, ⟨by first | exact Kd.R_nil _ _ _ _ _ | exact Kd.N_nil _ _ _ _ _ | exact Kd.V_nil _ _ _ _ _ | exact Kd.Q_nil _ _ _ _ _ | exact Kd.S_nil _ _ _ _ _⟩, ⟨by first | exact Kd.R_nil _ _ _ _ _ | exact Kd.N_nil _ _ _ _ _ | exact Kd.V_nil _ _ _ _ _ | exact Kd.Q_nil _ _ _ _ _ | exact Kd.S_nil _ _ _ _ _⟩, ⟨by (with_reducible repeat (first | refine blk_drewN ?_ _ | refine blk_drew ?_ | refine blk_alloc ?_ _)); refine blk_far ?_ NB258_260.out _; (with_reducible repeat (first | refine blk_drewN ?_ _ | refine blk_drew ?_ | refine blk_alloc ?_ _)); refine blk_far ?_ NB258_260.out _; (with_reducible repeat (first | refine blk_drewN ?_ _ | refine blk_drew ?_ | refine blk_alloc ?_ _)); refine blk_far ?_ NB258_260.out _; (with_reducible repeat (first | refine blk_drewN ?_ _ | refine blk_drew ?_ | refine blk_alloc ?_ _)); refine blk_far ?_ NB258_260.out _; (with_reducible repeat (first | refine blk_drewN ?_ _ | refine blk_drew ?_ | refine blk_alloc ?_ _)); exact BK258.out⟩, ⟨by (with_reducible repeat (first | refine blk_drewN ?_ _ | refine blk_drew ?_ | refine blk_alloc ?_ _)); refine blk_put (cs := #[.int .i64 (wrap64 (a0 + 1)), .slice none 0 0, .slice none 0 0, .slice none 0 0]) ?_ 3 _ rfl; (with_reducible repeat (first | refine blk_drewN ?_ _ | refine blk_drew ?_ | refine blk_alloc ?_ _)); refine blk_put (cs := #[.int .i64 (wrap64 (a0 + 1)), .slice none 0 0, .slice none 0 0, .slice none 0 0]) ?_ 2 _ rfl; (with_reducible repeat (first | refine blk_drewN ?_ _ | refine blk_drew ?_ | refine blk_alloc ?_ _)); refine blk_put (cs := #[.int .i64 (wrap64 (a0 + 1)), .slice none 0 0, .slice none 0 0, .slice none 0 0]) ?_ 1 _ rfl; (with_reducible repeat (first | refine blk_drewN ?_ _ | refine blk_drew ?_ | refine blk_alloc ?_ _)); refine blk_put (cs := #[.int .i64 0, .slice none 0 0, .slice none 0 0, .slice none 0 0]) ?_ 0 _ rfl; exact bz_ BK260.out⟩, ⟨bw2_ HB.out GE258.out GE260.out⟩⟩
  case round =>
   clear H'
   try clear c1
   try clear p2
   try clear c5
   try clear p6
   try clear c7
   try clear c8
   try clear hcz8_0
   try clear hcz8_1
   try clear hcz8_2
   try clear hcz8_3
   try clear hfz8_0
   try clear hfz8_1
   try clear hfz8_2
   try clear hfz8_3
   obtain ⟨x4_1, x261001_1, x261002_1, x261003_1, u261001, u261002, u261003, rfl, HA, HK1, HO_261001, HO_261002, HO_261003, BK258, BK260, HB⟩ := hrel
   cases gk with
   | zero => exact absurd HA.out (by simp [spec_LevelSystem.l0])
   | succ k1 =>
    have H := HA.out
    clear HA
    simp only [spec_LevelSystem.l0] at H
    by_cases c9 : x4_1 ≤ a0
    ·rw [if_pos c9] at H
     have c9b0 : decide (x4_1 ≤ a0) = true := decide_eq_true c9
     clear c9
     (first | rw [c9b0] | (simp only [i64_w, i32_w]; rw [c9b0]) | skip)
     have H' := sd_ H
     clear H
     go_wp2
     go_loopg [5] k1 (fun kq v5 w' => ∃ (x5_2 : Int) (x261001_2 : List Int) (x261002_2 : List Int) (x261003_2 : List Bool) (u261001 : Value) (u261002 : Value) (u261003 : Value), v5 = .int .i64 x5_2 ∧ Aside0 (spec_LevelSystem.l1 kq a0 x4_1 x5_2 (wrap64 (a0 + 1)) x261001_2 x261002_2 x261003_2 = some (r1, r2, r3, r4)) ∧ Aside0 (kq ≤ k1) ∧ Aside0 (Kd.R (Kd.int .i64) 3 w' w.heap.size (fun k_ => some k_ ≠ (u261002 : Value).ownBlock) u261001 x261001_2) ∧ Aside0 (Kd.R (Kd.int .i64) 3 w' w.heap.size (fun k_ => some k_ ≠ (u261001 : Value).ownBlock) u261002 x261002_2) ∧ Aside0 (Kd.R Kd.bool 4 w' w.heap.size (fun _ => True) u261003 x261003_2) ∧ Aside0 (w'.heap[gb258]? = some (.cells #[.int .i64 0, (.slice none 0 0), (.slice none 0 0), (.slice none 0 0)] 27 (0, 0))) ∧ Aside0 (w'.heap[gb260]? = some (.cells #[.int .i64 (wrap64 (a0 + 1)), u261001, u261002, u261003] 27 (0, 0))) ∧ Aside0 (Below w.heap.size w w'))
     case atStart => exact ⟨(0), (x261001_1), (x261002_1), (x261003_1), (u261001), (u261002), (u261003), sm_, H', ⟨Nat.le_refl _⟩, ⟨by (with_reducible repeat (first | apply Kd.R_alloc | apply Kd.R_drewN | apply Kd.R_drew)); exact HO_261001.out⟩, ⟨by (with_reducible repeat (first | apply Kd.R_alloc | apply Kd.R_drewN | apply Kd.R_drew)); exact HO_261002.out⟩, ⟨by (with_reducible repeat (first | apply Kd.R_alloc | apply Kd.R_drewN | apply Kd.R_drew)); exact HO_261003.out⟩, ⟨by exact bz_ BK258.out⟩, ⟨by exact bz_ BK260.out⟩, ⟨bw2_ HB.out GE258.out GE260.out⟩⟩
     case round =>
      clear H'
      try clear c1
      try clear p2
      try clear c5
      try clear p6
      try clear c7
      try clear c8
      try clear c9
      try clear c9b0
      try clear hcz8_0
      try clear hcz8_1
      try clear hcz8_2
      try clear hcz8_3
      try clear hfz8_0
      try clear hfz8_1
      try clear hfz8_2
      try clear hfz8_3
      try clear p2
      try clear p6
      obtain ⟨x5_2, x261001_2, x261002_2, x261003_2, u261001, u261002, u261003, rfl, HA, HK2, HO_261001, HO_261002, HO_261003, BK258, BK260, HB⟩ := hrel
      cases gk with
      | zero => exact absurd HA.out (by simp [spec_LevelSystem.l1])
      | succ k2 =>
       have H := HA.out
       clear HA
       simp only [spec_LevelSystem.l1] at H
       by_cases c10 : x5_2 ≤ a0
       ·rw [if_pos c10] at H
        have c10b0 : decide (x5_2 ≤ a0) = true := decide_eq_true c10
        clear c10
        by_cases c11 : (wrap64 (a0 + 1)) = 0
        ·rw [if_pos c11] at H
         exact absurd H (by simp)
        rw [if_neg c11] at H
        have c11b0 : ((wrap64 (a0 + 1)) == 0) = false := beq_eq_false_iff_ne.mpr c11
        have c11b1 : ((wrap64 (a0 + 1)) != 0) = true := bne_iff_ne.mpr c11
        replace H := Option.bind_eq_some_iff.mp H
        obtain ⟨t261, A120, H⟩ := H
        try dsimp only at H
        have A12 := sd_ A120
        clear A120
        replace H := Option.bind_eq_some_iff.mp H
        obtain ⟨t262, A130, H⟩ := H
        try dsimp only at H
        have A13 := sd_ A130
        clear A130
        by_cases c14 : x261001_2.length < 17592186044416
        ·rw [if_pos c14] at H
         have LMc14 := sd_ c14
         clear c14
         obtain ⟨y263, hy263⟩ : ∃ y_ : List Int, y_ = (x261001_2 ++ [Int.tmod (wrap64 ((wrap64 (a0 + 1)) - t261)) (wrap64 (a0 + 1))]) := ⟨_, rfl⟩
         replace H : (if x261002_2.length < 17592186044416 then (if x261003_2.length < 140737488355328 then (spec_LevelSystem.l1 k2 a0 x4_1 (wrap64 (x5_2 + 1)) (wrap64 (a0 + 1)) y263 (x261002_2 ++ [Int.tmod (wrap64 ((wrap64 (a0 + 1)) - t262)) (wrap64 (a0 + 1))]) (x261003_2 ++ [decide ((Int.tmod (wrap64 ((wrap64 (a0 + 1)) - x4_1)) (wrap64 (a0 + 1))) ≤ (Int.tmod (wrap64 ((wrap64 (a0 + 1)) - x5_2)) (wrap64 (a0 + 1))))])) else (none)) else (none)) = some (r1, r2, r3, r4) := by first | (rw [hy263]; with_reducible exact H) | (have H2_ := (Option.bind_some _ _).symm.trans H; rw [hy263]; with_reducible exact H2_) | (have H2_ := (Option.bind_some _ _).symm.trans H; with_reducible exact H2_) | with_reducible exact H | (rw [hy263]; exact H) | exact H
         have Ny263 := sd_ hy263
         clear hy263
         by_cases c15 : x261002_2.length < 17592186044416
         ·rw [if_pos c15] at H
          have LMc15 := sd_ c15
          clear c15
          obtain ⟨y266, hy266⟩ : ∃ y_ : List Int, y_ = (x261002_2 ++ [Int.tmod (wrap64 ((wrap64 (a0 + 1)) - t262)) (wrap64 (a0 + 1))]) := ⟨_, rfl⟩
          replace H : (if x261003_2.length < 140737488355328 then (spec_LevelSystem.l1 k2 a0 x4_1 (wrap64 (x5_2 + 1)) (wrap64 (a0 + 1)) y263 y266 (x261003_2 ++ [decide ((Int.tmod (wrap64 ((wrap64 (a0 + 1)) - x4_1)) (wrap64 (a0 + 1))) ≤ (Int.tmod (wrap64 ((wrap64 (a0 + 1)) - x5_2)) (wrap64 (a0 + 1))))])) else (none)) = some (r1, r2, r3, r4) := by first | (rw [hy266]; with_reducible exact H) | (have H2_ := (Option.bind_some _ _).symm.trans H; rw [hy266]; with_reducible exact H2_) | (have H2_ := (Option.bind_some _ _).symm.trans H; with_reducible exact H2_) | with_reducible exact H | (rw [hy266]; exact H) | exact H
          have Ny266 := sd_ hy266
          clear hy266
          by_cases c16 : x261003_2.length < 140737488355328
          ·rw [if_pos c16] at H
           have LMc16 := sd_ c16
           clear c16
           obtain ⟨y269, hy269⟩ : ∃ y_ : List Bool, y_ = (x261003_2 ++ [decide ((Int.tmod (wrap64 ((wrap64 (a0 + 1)) - x4_1)) (wrap64 (a0 + 1))) ≤ (Int.tmod (wrap64 ((wrap64 (a0 + 1)) - x5_2)) (wrap64 (a0 + 1))))]) := ⟨_, rfl⟩
           replace H : (spec_LevelSystem.l1 k2 a0 x4_1 (wrap64 (x5_2 + 1)) (wrap64 (a0 + 1)) y263 y266 y269) = some (r1, r2, r3, r4) := by first | (rw [hy269]; with_reducible exact H) | (have H2_ := (Option.bind_some _ _).symm.trans H; rw [hy269]; with_reducible exact H2_) | (have H2_ := (Option.bind_some _ _).symm.trans H; with_reducible exact H2_) | with_reducible exact H | (rw [hy269]; exact H) | exact H
           have Ny269 := sd_ hy269
           clear hy269
           have H' := sd_ H
           clear H
           go_wp2_with (first | ((with_reducible refine gate_callee (f := 132) rfl ?_); refine goesL_ (some 45) rfl rfl Try.func132 (by kernel_rfl) rfl #[.int .i64 (Int.tmod (wrap64 ((wrap64 (a0 + 1)) - x4_1)) (wrap64 (a0 + 1))), .int .i64 (Int.tmod (wrap64 ((wrap64 (a0 + 1)) - x5_2)) (wrap64 (a0 + 1)))] rfl la_ ?_; (with_reducible refine (spec_l1Max.calls (Int.tmod (wrap64 ((wrap64 (a0 + 1)) - x4_1)) (wrap64 (a0 + 1))) (Int.tmod (wrap64 ((wrap64 (a0 + 1)) - x5_2)) (wrap64 (a0 + 1))) t261 _ A12.out).mono ?_); rintro e w' ⟨rfl, ⟨nd, rfl⟩⟩; refine ⟨_, rfl, ?_⟩; (try (rw [drewN_self wr]; generalize hq_ : World.drewN wr _ = wr; have n0_ : Aside0 (Kd.R (Kd.int .i64) 3 wr w.heap.size (fun k_ => some k_ ≠ (u261002 : Value).ownBlock) u261001 x261001_2) := ⟨by rw [← hq_]; exact (ro_ HO_261001.out)⟩; have n1_ : Aside0 (Kd.R (Kd.int .i64) 3 wr w.heap.size (fun k_ => some k_ ≠ (u261001 : Value).ownBlock) u261002 x261002_2) := ⟨by rw [← hq_]; exact (ro_ HO_261002.out)⟩; have n2_ : Aside0 (Kd.R Kd.bool 4 wr w.heap.size (fun _ => True) u261003 x261003_2) := ⟨by rw [← hq_]; exact (ro_ HO_261003.out)⟩; have n3_ : Aside0 (wr.heap[gb258]? = some (.cells #[.int .i64 0, .slice none 0 0, .slice none 0 0, .slice none 0 0] 27 (0, 0))) := ⟨by rw [← hq_]; exact (bz_ BK258.out)⟩; have n4_ : Aside0 (wr.heap[gb260]? = some (.cells #[.int .i64 (wrap64 (a0 + 1)), u261001, u261002, u261003] 27 (0, 0))) := ⟨by rw [← hq_]; exact (bz_ BK260.out)⟩; have n5_ : Aside0 (Below w.heap.size w wr) := ⟨by rw [← hq_]; exact (bw2_ HB.out GE258.out GE260.out)⟩; clear HO_261001 HO_261002 HO_261003 BK258 BK260 HB hq_; have HO_261001 := n0_; have HO_261002 := n1_; have HO_261003 := n2_; have BK258 := n3_; have BK260 := n4_; have HB := n5_; clear n0_ n1_ n2_ n3_ n4_ n5_))) | ((with_reducible refine gate_callee (f := 113) rfl ?_); refine goesL_ (some 54) rfl rfl Try.func113 (by kernel_rfl) rfl #[.int .i64 (Int.tmod (wrap64 ((wrap64 (a0 + 1)) - x4_1)) (wrap64 (a0 + 1))), .int .i64 (Int.tmod (wrap64 ((wrap64 (a0 + 1)) - x5_2)) (wrap64 (a0 + 1)))] rfl la_ ?_; (with_reducible refine (spec_l1Min.calls (Int.tmod (wrap64 ((wrap64 (a0 + 1)) - x4_1)) (wrap64 (a0 + 1))) (Int.tmod (wrap64 ((wrap64 (a0 + 1)) - x5_2)) (wrap64 (a0 + 1))) t262 _ A13.out).mono ?_); rintro e w' ⟨rfl, ⟨nd, rfl⟩⟩; refine ⟨_, rfl, ?_⟩; (try (rw [drewN_self wr]; generalize hq_ : World.drewN wr _ = wr; have n0_ : Aside0 (Kd.R (Kd.int .i64) 3 wr w.heap.size (fun k_ => some k_ ≠ (u261002 : Value).ownBlock) u261001 x261001_2) := ⟨by rw [← hq_]; exact (ro_ HO_261001.out)⟩; have n1_ : Aside0 (Kd.R (Kd.int .i64) 3 wr w.heap.size (fun k_ => some k_ ≠ (u261001 : Value).ownBlock) u261002 x261002_2) := ⟨by rw [← hq_]; exact (ro_ HO_261002.out)⟩; have n2_ : Aside0 (Kd.R Kd.bool 4 wr w.heap.size (fun _ => True) u261003 x261003_2) := ⟨by rw [← hq_]; exact (ro_ HO_261003.out)⟩; have n3_ : Aside0 (wr.heap[gb258]? = some (.cells #[.int .i64 0, .slice none 0 0, .slice none 0 0, .slice none 0 0] 27 (0, 0))) := ⟨by rw [← hq_]; exact (bz_ BK258.out)⟩; have n4_ : Aside0 (wr.heap[gb260]? = some (.cells #[.int .i64 (wrap64 (a0 + 1)), u261001, u261002, u261003] 27 (0, 0))) := ⟨by rw [← hq_]; exact (bz_ BK260.out)⟩; have n5_ : Aside0 (Below w.heap.size w wr) := ⟨by rw [← hq_]; exact (bw2_ HB.out GE258.out GE260.out)⟩; clear HO_261001 HO_261002 HO_261003 BK258 BK260 HB hq_; have HO_261001 := n0_; have HO_261002 := n1_; have HO_261003 := n2_; have BK258 := n3_; have BK260 := n4_; have HB := n5_; clear n0_ n1_ n2_ n3_ n4_ n5_)); have hnb17 := NB260_258.out; have hnc17 := NB258_260.out; obtain ⟨hcz18_0, hcz18_1, hcz18_2, hcz18_3, hfz18_0, hfz18_1, hfz18_2, hfz18_3⟩ := bf4_ BK260.out) | ((with_reducible refine gate_builtin (b := .append) (xs := #[.tmp 60, .tmp 62]) rfl ?_); at_builtin; refine Kd.R_append (Kd.int .i64) (w0 := w) w.heap.size rfl (.tmp 60) (.tmp 62) 24 3 (.int .i64 0) 8 rfl Try.underlying24 info3 rfl (by decide) (by omega) u261001 x261001_2 (Int.tmod (wrap64 ((wrap64 (a0 + 1)) - t261)) (wrap64 (a0 + 1))) [.int .i64 (Int.tmod (wrap64 ((wrap64 (a0 + 1)) - t261)) (wrap64 (a0 + 1)))] (fun k_ => some k_ ≠ (u261002 : Value).ownBlock) (fun _ => False) rfl rfl ?aP (fun _ hk => hk.elim) ?aF ?aO ?aB ?aS ?aL ?_; (case aP => exact rfl); (case aB => exact (bw2_ HB.out GE258.out GE260.out)); (case aF => exact (fun k_ hk => Kd.fresh' (Kd.R_lt (ro_ HO_261002.out)) k_ hk)); (case aO => exact (ro_ HO_261001.out)); (case aS => exact (below_size (bw2_ HB.out GE258.out GE260.out))); (case aL => have := LMc14.out; omega); intro v264 w19 ho hb hg hat; rw [← Ny263.out] at ho; have n0_ := sd_ (Kd.R_after (ok := (fun _ => True)) (by (with_reducible repeat (first | apply Kd.R_alloc | apply Kd.R_drewN | apply Kd.R_drew)); exact Kd.R_mono HO_261002.out (fun _ hk => ⟨trivial, hk⟩)) hg hat); have n1_ := sd_ (Kd.R_over' (ro_ HO_261003.out) (Kd.R_typed (ro_ HO_261001.out)) (by decide) hg); have n2_ := sd_ (blk_grown (g := gb258) (o := .cells #[.int .i64 0, .slice none 0 0, .slice none 0 0, .slice none 0 0] 27 (0, 0)) (bz_ BK258.out) hg (Kd.R_ne HO_261001.out BK258.out (by decide))); have n3_ := sd_ (blk_grown (g := gb260) (o := .cells #[.int .i64 (wrap64 (a0 + 1)), u261001, u261002, u261003] 27 (0, 0)) (bz_ BK260.out) hg (Kd.R_ne HO_261001.out BK260.out (by decide))); have n4_ := sd_ (hb); have n5_ := sd_ (ho); clear HO_261002; clear HO_261003; clear BK258; clear BK260; clear HB; clear HO_261001; have HO_261002 := n0_; have HO_261003 := n1_; have BK258 := n2_; have BK260 := n3_; have HB := n4_; have HO265 := n5_; clear n0_ n1_ n2_ n3_ n4_ n5_; clear ho hb hg hat; obtain ⟨Ao20, co20, eo20⟩ := Kd.R_slice HO265.out; subst eo20; obtain ⟨hcz21_0, hcz21_1, hcz21_2, hcz21_3, hfz21_0, hfz21_1, hfz21_2, hfz21_3⟩ := bf4_ BK260.out) | ((with_reducible refine gate_builtin (b := .append) (xs := #[.tmp 66, .tmp 68]) rfl ?_); at_builtin; refine Kd.R_append (Kd.int .i64) (w0 := w) w.heap.size rfl (.tmp 66) (.tmp 68) 24 3 (.int .i64 0) 8 rfl Try.underlying24 info3 rfl (by decide) (by omega) u261002 x261002_2 (Int.tmod (wrap64 ((wrap64 (a0 + 1)) - t262)) (wrap64 (a0 + 1))) [.int .i64 (Int.tmod (wrap64 ((wrap64 (a0 + 1)) - t262)) (wrap64 (a0 + 1)))] (fun k_ => some k_ ≠ (.slice Ao20 y263.length co20 : Value).ownBlock) (fun _ => False) rfl (by first | (go_simp; done) | (go_simp; rfl)) ?aP (fun _ hk => hk.elim) ?aF ?aO ?aB ?aS ?aL ?_; (case aP => exact rfl); (case aB => exact (bw2_ HB.out GE258.out GE260.out)); (case aF => exact (fun k_ hk => Kd.fresh' (Kd.R_lt (by (with_reducible repeat (first | apply Kd.R_alloc | apply Kd.R_drewN | apply Kd.R_drew)); exact (Kd.R_mono (Kd.R_far (p := ⟨gb260, 1, none⟩) (Kd.R_types HO265.out BK260.out (by decide)) (fun _ hk => hk.2) (.slice Ao20 y263.length co20)) (fun _ h_ => h_.1)))) k_ hk)); (case aO => exact (by (with_reducible repeat (first | apply Kd.R_alloc | apply Kd.R_drewN | apply Kd.R_drew)); exact Kd.R_mono (Kd.R_far (p := ⟨gb260, 1, none⟩) (Kd.R_types HO_261002.out BK260.out (by decide)) (fun _ hk => hk.2) (.slice Ao20 y263.length co20)) (fun _ hk => hk.1.2))); (case aS => exact (below_size (bw2_ HB.out GE258.out GE260.out))); (case aL => have := LMc15.out; omega); intro v267 w22 ho hb hg hat; rw [← Ny266.out] at ho; have n0_ := sd_ (Kd.R_over' (by (with_reducible repeat (first | apply Kd.R_alloc | apply Kd.R_drewN | apply Kd.R_drew)); exact (Kd.R_mono (Kd.R_far (p := ⟨gb260, 1, none⟩) (Kd.R_types HO_261003.out BK260.out (by decide)) (fun _ hk => hk.2) (.slice Ao20 y263.length co20)) (fun _ h_ => h_.1))) (Kd.R_typed (by (with_reducible repeat (first | apply Kd.R_alloc | apply Kd.R_drewN | apply Kd.R_drew)); exact (Kd.R_mono (Kd.R_far (p := ⟨gb260, 1, none⟩) (Kd.R_types HO_261002.out BK260.out (by decide)) (fun _ hk => hk.2) (.slice Ao20 y263.length co20)) (fun _ h_ => h_.1)))) (by decide) hg); have n1_ := sd_ (blk_grown (g := gb258) (o := .cells #[.int .i64 0, .slice none 0 0, .slice none 0 0, .slice none 0 0] 27 (0, 0)) (by (with_reducible repeat (first | refine blk_drewN ?_ _ | refine blk_drew ?_ | refine blk_alloc ?_ _)); refine blk_far ?_ NB258_260.out _; (with_reducible repeat (first | refine blk_drewN ?_ _ | refine blk_drew ?_ | refine blk_alloc ?_ _)); exact BK258.out) hg (Kd.R_ne HO_261002.out BK258.out (by decide))); have n2_ := sd_ (blk_grown (g := gb260) (o := .cells #[.int .i64 (wrap64 (a0 + 1)), .slice Ao20 y263.length co20, u261002, u261003] 27 (0, 0)) (by (with_reducible repeat (first | refine blk_drewN ?_ _ | refine blk_drew ?_ | refine blk_alloc ?_ _)); refine blk_put (cs := #[.int .i64 (wrap64 (a0 + 1)), u261001, u261002, u261003]) ?_ 1 _ rfl; exact bz_ BK260.out) hg (Kd.R_ne HO_261002.out BK260.out (by decide))); have n3_ := sd_ (Kd.R_after (ok := (fun _ => True)) (by (with_reducible repeat (first | apply Kd.R_alloc | apply Kd.R_drewN | apply Kd.R_drew)); exact Kd.R_mono (Kd.R_far (p := ⟨gb260, 1, none⟩) (Kd.R_types HO265.out BK260.out (by decide)) (fun _ hk => hk.2) (.slice Ao20 y263.length co20)) (fun _ hk => ⟨trivial, hk.1⟩)) hg hat); have n4_ := sd_ (hb); have n5_ := sd_ (ho); clear HO_261003; clear BK258; clear BK260; clear HO265; clear HB; clear HO_261002; have HO_261003 := n0_; have BK258 := n1_; have BK260 := n2_; have HO265 := n3_; have HB := n4_; have HO268 := n5_; clear n0_ n1_ n2_ n3_ n4_ n5_; clear ho hb hg hat; obtain ⟨Ao23, co23, eo23⟩ := Kd.R_slice HO268.out; subst eo23; obtain ⟨hcz24_0, hcz24_1, hcz24_2, hcz24_3, hfz24_0, hfz24_1, hfz24_2, hfz24_3⟩ := bf4_ BK260.out) | ((with_reducible refine gate_builtin (b := .append) (xs := #[.tmp 72, .tmp 76]) rfl ?_); at_builtin; refine Kd.R_append Kd.bool (w0 := w) w.heap.size rfl (.tmp 72) (.tmp 76) 25 4 (.bool false) 1 rfl Try.underlying25 info4 rfl (by decide) (by omega) u261003 x261003_2 (decide ((Int.tmod (wrap64 ((wrap64 (a0 + 1)) - x4_1)) (wrap64 (a0 + 1))) ≤ (Int.tmod (wrap64 ((wrap64 (a0 + 1)) - x5_2)) (wrap64 (a0 + 1))))) [.bool (decide ((Int.tmod (wrap64 ((wrap64 (a0 + 1)) - x4_1)) (wrap64 (a0 + 1))) ≤ (Int.tmod (wrap64 ((wrap64 (a0 + 1)) - x5_2)) (wrap64 (a0 + 1)))))] (fun _ => True) (fun _ => False) rfl (by first | (go_simp; done) | (go_simp; rfl)) ?aP (fun _ hk => hk.elim) ?aF ?aO ?aB ?aS ?aL ?_; (case aP => exact rfl); (case aB => exact (bw2_ HB.out GE258.out GE260.out)); (case aF => exact (fun _ _ => trivial)); (case aO => exact (by (with_reducible repeat (first | apply Kd.R_alloc | apply Kd.R_drewN | apply Kd.R_drew)); exact Kd.R_mono (Kd.R_far (p := ⟨gb260, 2, none⟩) (Kd.R_types HO_261003.out BK260.out (by decide)) (fun _ hk => hk.2) (.slice Ao23 y266.length co23)) (fun _ hk => trivial))); (case aS => exact (below_size (bw2_ HB.out GE258.out GE260.out))); (case aL => have := LMc16.out; omega); intro v270 w25 ho hb hg hat; rw [← Ny269.out] at ho; have n0_ := sd_ (blk_grown (g := gb258) (o := .cells #[.int .i64 0, .slice none 0 0, .slice none 0 0, .slice none 0 0] 27 (0, 0)) (by (with_reducible repeat (first | refine blk_drewN ?_ _ | refine blk_drew ?_ | refine blk_alloc ?_ _)); refine blk_far ?_ NB258_260.out _; (with_reducible repeat (first | refine blk_drewN ?_ _ | refine blk_drew ?_ | refine blk_alloc ?_ _)); exact BK258.out) hg (Kd.R_ne HO_261003.out BK258.out (by decide))); have n1_ := sd_ (blk_grown (g := gb260) (o := .cells #[.int .i64 (wrap64 (a0 + 1)), .slice Ao20 y263.length co20, .slice Ao23 y266.length co23, u261003] 27 (0, 0)) (by (with_reducible repeat (first | refine blk_drewN ?_ _ | refine blk_drew ?_ | refine blk_alloc ?_ _)); refine blk_put (cs := #[.int .i64 (wrap64 (a0 + 1)), .slice Ao20 y263.length co20, u261002, u261003]) ?_ 2 _ rfl; exact bz_ BK260.out) hg (Kd.R_ne HO_261003.out BK260.out (by decide))); have n2_ := sd_ (Kd.R_over' (by (with_reducible repeat (first | apply Kd.R_alloc | apply Kd.R_drewN | apply Kd.R_drew)); exact (Kd.R_mono (Kd.R_far (p := ⟨gb260, 2, none⟩) (Kd.R_types HO265.out BK260.out (by decide)) (fun _ hk => hk.2) (.slice Ao23 y266.length co23)) (fun _ h_ => h_.1))) (Kd.R_typed (by (with_reducible repeat (first | apply Kd.R_alloc | apply Kd.R_drewN | apply Kd.R_drew)); exact (Kd.R_mono (Kd.R_far (p := ⟨gb260, 2, none⟩) (Kd.R_types HO_261003.out BK260.out (by decide)) (fun _ hk => hk.2) (.slice Ao23 y266.length co23)) (fun _ h_ => h_.1)))) (by decide) hg); have n3_ := sd_ (Kd.R_over' (by (with_reducible repeat (first | apply Kd.R_alloc | apply Kd.R_drewN | apply Kd.R_drew)); exact (Kd.R_mono (Kd.R_far (p := ⟨gb260, 2, none⟩) (Kd.R_types HO268.out BK260.out (by decide)) (fun _ hk => hk.2) (.slice Ao23 y266.length co23)) (fun _ h_ => h_.1))) (Kd.R_typed (by (with_reducible repeat (first | apply Kd.R_alloc | apply Kd.R_drewN | apply Kd.R_drew)); exact (Kd.R_mono (Kd.R_far (p := ⟨gb260, 2, none⟩) (Kd.R_types HO_261003.out BK260.out (by decide)) (fun _ hk => hk.2) (.slice Ao23 y266.length co23)) (fun _ h_ => h_.1)))) (by decide) hg); have n4_ := sd_ (hb); have n5_ := sd_ (ho); clear BK258; clear BK260; clear HO265; clear HO268; clear HB; clear HO_261003; have BK258 := n0_; have BK260 := n1_; have HO265 := n2_; have HO268 := n3_; have HB := n4_; have HO271 := n5_; clear n0_ n1_ n2_ n3_ n4_ n5_; clear ho hb hg hat; obtain ⟨Ao26, co26, eo26⟩ := Kd.R_slice HO271.out; subst eo26; obtain ⟨hcz27_0, hcz27_1, hcz27_2, hcz27_3, hfz27_0, hfz27_1, hfz27_2, hfz27_3⟩ := bf4_ BK260.out))
           go_roundg k2
           case measure => have := HK1.out; have := HK2.out; omega
           case rel => exact ⟨(wrap64 (x5_2 + 1)), (y263), (y266), (y269), (.slice Ao20 y263.length co20), (.slice Ao23 y266.length co23), (.slice Ao26 y269.length co26), sm_, H', ⟨by have := HK1.out; have := HK2.out; omega⟩, ⟨by (with_reducible repeat (first | apply Kd.R_alloc | apply Kd.R_drewN | apply Kd.R_drew)); exact Kd.R_mono (Kd.R_far (p := ⟨gb260, 3, none⟩) (Kd.R_types HO265.out BK260.out (by decide)) (fun _ hk => hk.2) (.slice Ao26 y269.length co26)) (fun _ hk => hk.1.2)⟩, ⟨by (with_reducible repeat (first | apply Kd.R_alloc | apply Kd.R_drewN | apply Kd.R_drew)); exact Kd.R_mono (Kd.R_far (p := ⟨gb260, 3, none⟩) (Kd.R_types HO268.out BK260.out (by decide)) (fun _ hk => hk.2) (.slice Ao26 y269.length co26)) (fun _ hk => hk.1)⟩, ⟨by (with_reducible repeat (first | apply Kd.R_alloc | apply Kd.R_drewN | apply Kd.R_drew)); exact Kd.R_mono (Kd.R_far (p := ⟨gb260, 3, none⟩) (Kd.R_types HO271.out BK260.out (by decide)) (fun _ hk => hk.2) (.slice Ao26 y269.length co26)) (fun _ hk => trivial)⟩, ⟨by (with_reducible repeat (first | refine blk_drewN ?_ _ | refine blk_drew ?_ | refine blk_alloc ?_ _)); refine blk_far ?_ NB258_260.out _; (with_reducible repeat (first | refine blk_drewN ?_ _ | refine blk_drew ?_ | refine blk_alloc ?_ _)); exact BK258.out⟩, ⟨by (with_reducible repeat (first | refine blk_drewN ?_ _ | refine blk_drew ?_ | refine blk_alloc ?_ _)); refine blk_put (cs := #[.int .i64 (wrap64 (a0 + 1)), .slice Ao20 y263.length co20, .slice Ao23 y266.length co23, u261003]) ?_ 3 _ rfl; exact bz_ BK260.out⟩, ⟨bw2_ HB.out GE258.out GE260.out⟩⟩
          rw [if_neg c16] at H
          exact absurd H (by simp)
         rw [if_neg c15] at H
         exact absurd H (by simp)
        rw [if_neg c14] at H
        exact absurd H (by simp)
       rw [if_neg c10] at H
       have c10b0 : decide (x5_2 ≤ a0) = false := decide_eq_false c10
       clear c10
       have H' := sd_ H
       clear H
       go_wp2
       go_roundg k2
       case measure => have := HK1.out; have := HK2.out; omega
       case rel => exact ⟨(wrap64 (x4_1 + 1)), (x261001_2), (x261002_2), (x261003_2), (u261001), (u261002), (u261003), sm_, H', ⟨by have := HK1.out; have := HK2.out; omega⟩, ⟨by (with_reducible repeat (first | apply Kd.R_alloc | apply Kd.R_drewN | apply Kd.R_drew)); exact HO_261001.out⟩, ⟨by (with_reducible repeat (first | apply Kd.R_alloc | apply Kd.R_drewN | apply Kd.R_drew)); exact HO_261002.out⟩, ⟨by (with_reducible repeat (first | apply Kd.R_alloc | apply Kd.R_drewN | apply Kd.R_drew)); exact HO_261003.out⟩, ⟨by exact bz_ BK258.out⟩, ⟨by exact bz_ BK260.out⟩, ⟨bw2_ HB.out GE258.out GE260.out⟩⟩
    rw [if_neg c9] at H
    have c9b0 : decide (x4_1 ≤ a0) = false := decide_eq_false c9
    clear c9
    (first | rw [c9b0] | (simp only [i64_w, i32_w]; rw [c9b0]) | skip)
    simp only [Option.some.injEq, Prod.mk.injEq] at H
    obtain ⟨rfl, rfl, rfl, rfl⟩ := H
    have hnb28 := NB260_258.out
    have hnc28 := NB258_260.out
    obtain ⟨hcz29_0, hcz29_1, hcz29_2, hcz29_3, hfz29_0, hfz29_1, hfz29_2, hfz29_3⟩ := bf4_ BK260.out
    obtain ⟨hcz30_0, hcz30_1, hcz30_2, hcz30_3, hfz30_0, hfz30_1, hfz30_2, hfz30_3⟩ := bf4_ BK258.out
    obtain ⟨Ao31, co31, eo31⟩ := Kd.R_slice HO_261001.out
    subst eo31
    obtain ⟨Ao32, co32, eo32⟩ := Kd.R_slice HO_261002.out
    subst eo32
    obtain ⟨Ao33, co33, eo33⟩ := Kd.R_slice HO_261003.out
    subst eo33
    go_wp2
    refine bodyPost_ret (results_cell_row rfl _ _ gb258 27 #[.int .i64 (wrap64 (a0 + 1)), .slice Ao31 x261001_1.length co31, .slice Ao32 x261002_1.length co32, .slice Ao33 x261003_1.length co33] (0, 0) _ rfl (by (with_reducible repeat (first | refine blk_drewN ?_ _ | refine blk_drew ?_ | refine blk_alloc ?_ _)); refine blk_put (cs := #[.int .i64 (wrap64 (a0 + 1)), .slice Ao31 x261001_1.length co31, .slice Ao32 x261002_1.length co32, .slice none 0 0]) ?_ 3 _ rfl; (with_reducible repeat (first | refine blk_drewN ?_ _ | refine blk_drew ?_ | refine blk_alloc ?_ _)); refine blk_put (cs := #[.int .i64 (wrap64 (a0 + 1)), .slice Ao31 x261001_1.length co31, .slice none 0 0, .slice none 0 0]) ?_ 2 _ rfl; (with_reducible repeat (first | refine blk_drewN ?_ _ | refine blk_drew ?_ | refine blk_alloc ?_ _)); refine blk_put (cs := #[.int .i64 (wrap64 (a0 + 1)), .slice none 0 0, .slice none 0 0, .slice none 0 0]) ?_ 1 _ rfl; (with_reducible repeat (first | refine blk_drewN ?_ _ | refine blk_drew ?_ | refine blk_alloc ?_ _)); refine blk_put (cs := #[.int .i64 0, .slice none 0 0, .slice none 0 0, .slice none 0 0]) ?_ 0 _ rfl; exact bz_ BK258.out) Try.underlying27 rfl (by kernel_rfl)) rfl ?_
    exact ⟨_, _, _, an_, by (with_reducible repeat (first | apply Kd.R_alloc | apply Kd.R_drewN | apply Kd.R_drew)); exact Kd.R_mono (Kd.R_far (p := ⟨gb258, 3, none⟩) (Kd.R_far (p := ⟨gb258, 2, none⟩) (Kd.R_far (p := ⟨gb258, 1, none⟩) (Kd.R_far (p := ⟨gb258, 0, none⟩) (Kd.R_types HO_261001.out BK258.out (by decide)) (fun _ hk => hk.2) (.int .i64 (wrap64 (a0 + 1)))) (fun _ hk => hk.2) (.slice Ao31 x261001_1.length co31)) (fun _ hk => hk.2) (.slice Ao32 x261002_1.length co32)) (fun _ hk => hk.2) (.slice Ao33 x261003_1.length co33)) (fun _ hk => hk.1), by (with_reducible repeat (first | apply Kd.R_alloc | apply Kd.R_drewN | apply Kd.R_drew)); exact Kd.R_mono (Kd.R_far (p := ⟨gb258, 3, none⟩) (Kd.R_far (p := ⟨gb258, 2, none⟩) (Kd.R_far (p := ⟨gb258, 1, none⟩) (Kd.R_far (p := ⟨gb258, 0, none⟩) (Kd.R_types HO_261002.out BK258.out (by decide)) (fun _ hk => hk.2) (.int .i64 (wrap64 (a0 + 1)))) (fun _ hk => hk.2) (.slice Ao31 x261001_1.length co31)) (fun _ hk => hk.2) (.slice Ao32 x261002_1.length co32)) (fun _ hk => hk.2) (.slice Ao33 x261003_1.length co33)) (fun _ hk => hk.1), by (with_reducible repeat (first | apply Kd.R_alloc | apply Kd.R_drewN | apply Kd.R_drew)); exact Kd.R_mono (Kd.R_far (p := ⟨gb258, 3, none⟩) (Kd.R_far (p := ⟨gb258, 2, none⟩) (Kd.R_far (p := ⟨gb258, 1, none⟩) (Kd.R_far (p := ⟨gb258, 0, none⟩) (Kd.R_types HO_261003.out BK258.out (by decide)) (fun _ hk => hk.2) (.int .i64 (wrap64 (a0 + 1)))) (fun _ hk => hk.2) (.slice Ao31 x261001_1.length co31)) (fun _ hk => hk.2) (.slice Ao32 x261002_1.length co32)) (fun _ hk => hk.2) (.slice Ao33 x261003_1.length co33)) (fun _ hk => trivial), bw2_ HB.out GE258.out GE260.out⟩
 replace c5 := Bool.eq_false_iff.mpr c5
 subst c5
 have H1 : (some (0, ([] : List Int), ([] : List Int), ([] : List Bool))) = some (r1, r2, r3, r4) := by rw [if_neg (show ¬ (false = true) by decide)] at H; exact H
 clear H
 have H := H1
 clear H1
 simp only [Option.some.injEq, Prod.mk.injEq] at H
 obtain ⟨rfl, rfl, rfl, rfl⟩ := H
 obtain ⟨hcz34_0, hcz34_1, hcz34_2, hcz34_3, hfz34_0, hfz34_1, hfz34_2, hfz34_3⟩ := bf4_ BK258.out
 go_wp2
 refine bodyPost_ret (results_cell_row rfl _ _ gb258 27 #[.int .i64 0, .slice none 0 0, .slice none 0 0, .slice none 0 0] (0, 0) _ rfl (by (with_reducible repeat (first | refine blk_drewN ?_ _ | refine blk_drew ?_ | refine blk_alloc ?_ _)); refine blk_put (cs := #[.int .i64 0, .slice none 0 0, .slice none 0 0, .slice none 0 0]) ?_ 3 _ rfl; (with_reducible repeat (first | refine blk_drewN ?_ _ | refine blk_drew ?_ | refine blk_alloc ?_ _)); refine blk_put (cs := #[.int .i64 0, .slice none 0 0, .slice none 0 0, .slice none 0 0]) ?_ 2 _ rfl; (with_reducible repeat (first | refine blk_drewN ?_ _ | refine blk_drew ?_ | refine blk_alloc ?_ _)); refine blk_put (cs := #[.int .i64 0, .slice none 0 0, .slice none 0 0, .slice none 0 0]) ?_ 1 _ rfl; (with_reducible repeat (first | refine blk_drewN ?_ _ | refine blk_drew ?_ | refine blk_alloc ?_ _)); refine blk_put (cs := #[.int .i64 0, .slice none 0 0, .slice none 0 0, .slice none 0 0]) ?_ 0 _ rfl; exact bz_ BK258.out) Try.underlying27 rfl (by kernel_rfl)) rfl ?_
 exact ⟨_, _, _, an_, by first | exact Kd.R_nil _ _ _ _ _ | exact Kd.N_nil _ _ _ _ _ | exact Kd.V_nil _ _ _ _ _ | exact Kd.Q_nil _ _ _ _ _ | exact Kd.S_nil _ _ _ _ _, by first | exact Kd.R_nil _ _ _ _ _ | exact Kd.N_nil _ _ _ _ _ | exact Kd.V_nil _ _ _ _ _ | exact Kd.Q_nil _ _ _ _ _ | exact Kd.S_nil _ _ _ _ _, by first | exact Kd.R_nil _ _ _ _ _ | exact Kd.N_nil _ _ _ _ _ | exact Kd.V_nil _ _ _ _ _ | exact Kd.Q_nil _ _ _ _ _ | exact Kd.S_nil _ _ _ _ _, bw1_ HB.out GE258.out⟩


/-! ### spec_l1PickInt: function 135 -/
def spec_l1PickInt.f (s0_0 : List Int) (s0_1 : Int) (s0_2 : Int) (l1 : List Int) : Option (Int × Int × Int) := (spec_l1Below.f s0_0 s0_1 s0_2 (l1.length : Int)).bind fun bt389 => (if 0 ≤ bt389.1 then (if bt389.1 < (l1.length : Int) then (some (rd l1 bt389.1, bt389.2.1, bt389.2.2)) else (none)) else (none))
set_option maxHeartbeats 8000000 in
set_option maxRecDepth 100000 in
theorem spec_l1PickInt.calls (g : Nat) (s0_0 : List Int) (s0_1 : Int) (s0_2 : Int) (A1 : Option Addr) (c1 : Nat) (l1 : List Int) (r1 : Int) (r2 : Int) (r3 : Int) (w0 w : World) (hI : IsS96 w0 w g s0_0 s0_1 s0_2) (hB : Below w0.heap.size w0 w) (hr1 : Kd.C (Kd.int .i64) w A1 l1.length l1) (hc1 : l1.length ≤ c1) (hf1 : ∀ ad, A1 = some ad → 0 < l1.length → ad.block ≠ g) (h : spec_l1PickInt.f s0_0 s0_1 s0_2 l1 = some (r1, r2, r3)) :
  Calls Try.prog 135 #[.pointer (some ⟨g, 0, none⟩), .slice A1 l1.length c1] w fun e w' => e = .returned (.int .i64 r1) ∧ IsS96 w0 w' g s0_0 r2 r3 ∧ Below w0.heap.size w0 w' ∧ KeepBut w w' g none := by
 have HR1 := sd_ hr1
 have HC1 := sd_ hc1
 clear hr1 hc1
 have HI0 := sd_ hI
 have HK := sd_ (KeepBut.refl w g none)
 have HL := sd_ hB.size
 clear hI
 have HW0 := sd_ hB.size
 have HB := sd_ hB
 clear hB
 have H : ((spec_l1Below.f s0_0 s0_1 s0_2 (l1.length : Int)).bind fun bt389 => (if 0 ≤ bt389.1 then (if bt389.1 < (l1.length : Int) then (some (rd l1 bt389.1, bt389.2.1, bt389.2.2)) else (none)) else (none))) = some (r1, r2, r3) := h
 clear h
 replace H := Option.bind_eq_some_iff.mp H
 obtain ⟨⟨t389, t390, t391⟩, A30, H⟩ := H
 try dsimp only at H
 have A3 := sd_ A30
 clear A30
 by_cases c4 : 0 ≤ t389
 ·rw [if_pos c4] at H
  have c4b0 : decide (0 ≤ t389) = true := decide_eq_true c4
  clear c4
  by_cases c5 : t389 < (l1.length : Int)
  ·rw [if_pos c5] at H
   have c5b0 : decide (t389 < (l1.length : Int)) = true := decide_eq_true c5
   clear c5
   simp only [Option.some.injEq, Prod.mk.injEq] at H
   obtain ⟨rfl, rfl, rfl⟩ := H
   go_enter Try.func135, Try.ntmps135
   go_wp2_with (first | ((with_reducible refine gate_callee (f := 112) rfl ?_); refine goesL_ (some 9) rfl rfl Try.func112 (by kernel_rfl) rfl #[.pointer (some ⟨g, 0, none⟩), .int .i64 (l1.length : Int)] rfl la_ ?_; (with_reducible refine (spec_l1Below.calls g s0_0 s0_1 s0_2 (l1.length : Int) t389 t390 t391 w0 _ ?side1 ?side2 A3.out).mono ?_); (case side1 => repeat (first | (with_reducible first | exact HI0.out | apply IsS96.alloc | apply IsS96.drewN | apply IsS96.drew | apply IsS96.set_1 | apply IsS96.set_2) | exact HI0.out)); (case side2 => repeat (first | (with_reducible first | exact HB.out | apply below_alloc | apply pw_below_drewN | apply below_drew1 | refine below_set ?_ (IsS96.ge HI0.out)) | exact HB.out)); rintro e w6 ⟨rfl, hi, hb, hk⟩; refine ⟨_, rfl, ?_⟩; replace HK := sd_ (KeepBut.trans (by repeat (first | (with_reducible first | exact HK.out | apply KeepBut.set_ | apply keep_drewN | apply keep_drew | apply keep_alloc) | exact HK.out)) hk (.inl rfl)); replace HB := sd_ (hb); replace HI0 := sd_ (hi); (try clear hb); (try clear hk); (try clear hi); have p392 : 0 ≤ (t389 : Int) := dt_; have q392 : t389 < (l1.length : Int) := dt_; obtain ⟨ad392, e392, hx392_0⟩ := Kd.at_int HR1.out t389 p392 q392; cases e392; replace hx392_0 := keep_cell HK.out hx392_0 (by first | (rw [add_block]; exact hf1 _ rfl (by omega)) | exact hf1 _ rfl (by omega) | exact hf1 ad392 rfl (by omega)); replace p392 := eq_true p392; replace q392 := eq_true q392))
   go_ret
   exact ⟨an_, by repeat (first | (with_reducible first | exact HI0.out | apply IsS96.alloc | apply IsS96.drewN | apply IsS96.drew | apply IsS96.set_1 | apply IsS96.set_2) | exact HI0.out), by repeat (first | (with_reducible first | exact HB.out | apply below_alloc | apply pw_below_drewN | apply below_drew1 | refine below_set ?_ (IsS96.ge HI0.out)) | exact HB.out), by repeat (first | (with_reducible first | exact HK.out | apply KeepBut.set_ | apply keep_drewN | apply keep_drew | apply keep_alloc) | exact HK.out)⟩
  rw [if_neg c5] at H
  exact absurd H (by simp)
 rw [if_neg c4] at H
 exact absurd H (by simp)


/-! ### spec_dBent: function 124 -/
def spec_dBent.f (s0_0 : List Int) (s0_1 : Int) (s0_2 : Int) : Option (Int × Int × Int) := (spec_l1PickInt.f s0_0 s0_1 s0_2 (([(-1), 0, 1, 2, 3, 7, 8, 15, 16, 17, 40, 9223372036854775807, (-9223372036854775808)] : List Int))).bind fun bt396 => (some (bt396.1, bt396.2.1, bt396.2.2))
set_option maxHeartbeats 8000000 in
set_option maxRecDepth 100000 in
theorem spec_dBent.calls (g : Nat) (s0_0 : List Int) (s0_1 : Int) (s0_2 : Int) (r1 : Int) (r2 : Int) (r3 : Int) (w0 w : World) (hI : IsS96 w0 w g s0_0 s0_1 s0_2) (hB : Below w0.heap.size w0 w) (h : spec_dBent.f s0_0 s0_1 s0_2 = some (r1, r2, r3)) :
  Calls Try.prog 124 #[.pointer (some ⟨g, 0, none⟩)] w fun e w' => e = .returned (.int .i64 r1) ∧ IsS96 w0 w' g s0_0 r2 r3 ∧ Below w0.heap.size w0 w' ∧ KeepBut w w' g none := by
 have HI0 := sd_ hI
 have HK := sd_ (KeepBut.refl w g none)
 have HL := sd_ hB.size
 clear hI
 have HW0 := sd_ hB.size
 have HB := sd_ hB
 clear hB
 have H : ((spec_l1PickInt.f s0_0 s0_1 s0_2 (([(-1), 0, 1, 2, 3, 7, 8, 15, 16, 17, 40, 9223372036854775807, (-9223372036854775808)] : List Int))).bind fun bt396 => (some (bt396.1, bt396.2.1, bt396.2.2))) = some (r1, r2, r3) := h
 clear h
 obtain ⟨y393, hy393⟩ : ∃ y_ : List Int, y_ = (([(-1), 0, 1, 2, 3, 7, 8, 15, 16, 17, 40, 9223372036854775807, (-9223372036854775808)] : List Int)) := ⟨_, rfl⟩
 replace H : ((spec_l1PickInt.f s0_0 s0_1 s0_2 y393).bind fun bt396 => (some (bt396.1, bt396.2.1, bt396.2.2))) = some (r1, r2, r3) := by first | (rw [hy393]; with_reducible exact H) | (have H2_ := (Option.bind_some _ _).symm.trans H; rw [hy393]; with_reducible exact H2_) | (have H2_ := (Option.bind_some _ _).symm.trans H; with_reducible exact H2_) | with_reducible exact H | (rw [hy393]; exact H) | exact H
 have Ny393 := sd_ hy393
 clear hy393
 replace H := Option.bind_eq_some_iff.mp H
 obtain ⟨⟨t396, t397, t398⟩, A20, H⟩ := H
 try dsimp only at H
 have A2 := sd_ A20
 clear A20
 simp only [Option.some.injEq, Prod.mk.injEq] at H
 obtain ⟨rfl, rfl, rfl⟩ := H
 go_enter Try.func124, Try.ntmps124
 go_wp2_with (first | ((with_reducible refine gate_dst (N := 4) rfl ?_); refine Kd.R_lit (Kd.int .i64) _ 3 ?hg (N := 4) ?hd (xs := ([(-1), 0, 1, 2, 3, 7, 8, 15, 16, 17, 40, 9223372036854775807, (-9223372036854775808)] : List Int)) (inner := [.int .i64 (-1), .int .i64 0, .int .i64 1, .int .i64 2, .int .i64 3, .int .i64 7, .int .i64 8, .int .i64 15, .int .i64 16, .int .i64 17, .int .i64 40, .int .i64 9223372036854775807, .int .i64 (-9223372036854775808)]) (ok := fun _ => True) (okp := fun _ => True) ?hr ?hp (fun _ hk => hk) trivial (Below.refl _ _) (Nat.le_refl _) (by simp) ?_; (case hd => rfl); (case hg => rfl); (case hr => first | (go_simp; done) | (go_simp; rfl)); (case hp => exact (Reps.one (show Kd.M (Kd.int .i64) _ _ _ (-1) [.int .i64 (-1)] from rfl) (Reps.one (show Kd.M (Kd.int .i64) _ _ _ 0 [.int .i64 0] from rfl) (Reps.one (show Kd.M (Kd.int .i64) _ _ _ 1 [.int .i64 1] from rfl) (Reps.one (show Kd.M (Kd.int .i64) _ _ _ 2 [.int .i64 2] from rfl) (Reps.one (show Kd.M (Kd.int .i64) _ _ _ 3 [.int .i64 3] from rfl) (Reps.one (show Kd.M (Kd.int .i64) _ _ _ 7 [.int .i64 7] from rfl) (Reps.one (show Kd.M (Kd.int .i64) _ _ _ 8 [.int .i64 8] from rfl) (Reps.one (show Kd.M (Kd.int .i64) _ _ _ 15 [.int .i64 15] from rfl) (Reps.one (show Kd.M (Kd.int .i64) _ _ _ 16 [.int .i64 16] from rfl) (Reps.one (show Kd.M (Kd.int .i64) _ _ _ 17 [.int .i64 17] from rfl) (Reps.one (show Kd.M (Kd.int .i64) _ _ _ 40 [.int .i64 40] from rfl) (Reps.one (show Kd.M (Kd.int .i64) _ _ _ 9223372036854775807 [.int .i64 9223372036854775807] from rfl) (Reps.one (show Kd.M (Kd.int .i64) _ _ _ (-9223372036854775808) [.int .i64 (-9223372036854775808)] from rfl) (Reps.none _ _))))))))))))))); intro v394 w3 ho4 hb hg_ hnew_; clear hg_ hnew_; (first | rw [← Ny393.out] at ho4 | (simp only [Int.reduceToNat] at ho4; rw [← Ny393.out] at ho4)); have HO395 := sd_ (Kd.R_lower ho4 (keep_size (w := w) (g := g) (row := none) (by repeat (first | (with_reducible first | exact HK.out | apply KeepBut.set_ | apply keep_drewN | apply keep_drew | apply keep_alloc) | exact HK.out)))); replace HK := sd_ (KeepBut.trans (by repeat (first | (with_reducible first | exact HK.out | apply KeepBut.set_ | apply keep_drewN | apply keep_drew | apply keep_alloc) | exact HK.out)) (KeepBut.of_below hb g none) (.inl rfl)); replace HB := sd_ (below_step (by repeat (first | (with_reducible first | exact HB.out | apply below_alloc | apply pw_below_drewN | apply below_drew1 | refine below_set ?_ (IsS96.ge HI0.out)) | exact HB.out)) hb); replace HI0 := sd_ (IsS96.below (by repeat (first | (with_reducible first | exact HI0.out | apply IsS96.alloc | apply IsS96.drewN | apply IsS96.drew | apply IsS96.set_1 | apply IsS96.set_2) | exact HI0.out)) hb); clear hb ho4; obtain ⟨Ao5, co5, eo5⟩ := Kd.R_slice HO395.out; subst eo5) | ((with_reducible refine gate_callee (f := 135) rfl ?_); refine goesL_ (some 5) rfl rfl Try.func135 (by kernel_rfl) rfl #[.pointer (some ⟨g, 0, none⟩), .slice Ao5 y393.length co5] rfl la_ ?_; (with_reducible refine (spec_l1PickInt.calls g s0_0 s0_1 s0_2 _ _ y393 t396 t397 t398 w0 _ ?side1 ?side2 ?side3 ?side4 ?side5 A2.out).mono ?_); (case side1 => repeat (first | (with_reducible first | exact HI0.out | apply IsS96.alloc | apply IsS96.drewN | apply IsS96.drew | apply IsS96.set_1 | apply IsS96.set_2) | exact HI0.out)); (case side2 => repeat (first | (with_reducible first | exact HB.out | apply below_alloc | apply pw_below_drewN | apply below_drew1 | refine below_set ?_ (IsS96.ge HI0.out)) | exact HB.out)); (case side3 => exact kp_ (Kd.R_reads' HO395.out).2.2); (case side4 => exact (Kd.R_reads' HO395.out).2.1); (case side5 => exact far_slice (IsS96.own_ne HI0.out HO395.out (by decide))); rintro e w6 ⟨rfl, hi, hb, hk⟩; refine ⟨_, rfl, ?_⟩; replace HO395 := sd_ (Kd.R_mono (Kd.R_keep (IsS96.apart (show IsS96 w0 _ g s0_0 s0_1 s0_2 from by repeat (first | (with_reducible first | exact HI0.out | apply IsS96.alloc | apply IsS96.drewN | apply IsS96.drew | apply IsS96.set_1 | apply IsS96.set_2) | exact HI0.out)) (ro_ HO395.out) (by decide)) hk (fun _ h => h.2)) (fun _ h => h.1)); replace HK := sd_ (KeepBut.trans (by repeat (first | (with_reducible first | exact HK.out | apply KeepBut.set_ | apply keep_drewN | apply keep_drew | apply keep_alloc) | exact HK.out)) hk (.inl rfl)); replace HB := sd_ (hb); replace HI0 := sd_ (hi); (try clear hb); (try clear hk); (try clear hi)))
 go_ret
 exact ⟨an_, by repeat (first | (with_reducible first | exact HI0.out | apply IsS96.alloc | apply IsS96.drewN | apply IsS96.drew | apply IsS96.set_1 | apply IsS96.set_2) | exact HI0.out), by repeat (first | (with_reducible first | exact HB.out | apply below_alloc | apply pw_below_drewN | apply below_drew1 | refine below_set ?_ (IsS96.ge HI0.out)) | exact HB.out), by repeat (first | (with_reducible first | exact HK.out | apply KeepBut.set_ | apply keep_drewN | apply keep_drew | apply keep_alloc) | exact HK.out)⟩

end Go.Proofs.Ytcdmnofomoadlaa.P
end
