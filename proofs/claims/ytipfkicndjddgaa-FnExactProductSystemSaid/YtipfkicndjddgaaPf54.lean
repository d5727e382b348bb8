-- Printed by this session's own program (wip/tools/mkprint.py) out of the translation. Not trusted: Lean checks it.
import Derived.Test.YtipfkicndjddgaaM1
import Derived.Laws.EntriesVeiled
/-! short words -/
namespace Go.Proofs.Ytipfkicndjddgaa.P
open Go.RowKit Go.Proofs.YtipfkicndjddgaaW.PrintWords Go.Proofs.YtipfkicndjddgaaW.PrintLast Go.Proofs.YtipfkicndjddgaaW.PrintMore
attribute [local go_sem] max2_int min2_int max_two min_two max_three min_three max_four min_four   -- for this text's walks alone
set_option linter.unusedVariables false
set_option linter.unusedSimpArgs false

/-! ### impl_tabled: function 54 -/
mutual
def impl_tabled.l0 : Nat → Int → (Int → Int → Option (Int)) → (Int → Int → Option (Int)) → (Int → Int → Option (Bool)) → Int → Int → List Int → List Int → List Bool → Option (Int × List Int × List Int × List Bool)
 | 0, _, _, _, _, _, _, _, _, _ => none
 | k + 1, x0, x1, x2, x3, x10, x335000, x335001, x335002, x335003 => if x10 < x0 then (impl_tabled.l1 k x0 x1 x2 x3 x10 0 x335000 x335001 x335002 x335003) else (some (x335000, x335001, x335002, x335003))
def impl_tabled.l1 : Nat → Int → (Int → Int → Option (Int)) → (Int → Int → Option (Int)) → (Int → Int → Option (Bool)) → Int → Int → Int → List Int → List Int → List Bool → Option (Int × List Int × List Int × List Bool)
 | 0, _, _, _, _, _, _, _, _, _, _ => none
 | k + 1, x0, x1, x2, x3, x10, x11, x335000, x335001, x335002, x335003 => if x11 < x0 then ((x1 x10 x11).bind fun t335 => (if x335001.length < 17592186044416 then ((x2 x10 x11).bind fun t339 => (if x335002.length < 17592186044416 then ((x3 x10 x11).bind fun t343 => (if x335003.length < 140737488355328 then (impl_tabled.l1 k x0 x1 x2 x3 x10 (wrap64 (x11 + 1)) x335000 (x335001 ++ [t335]) (x335002 ++ [t339]) (x335003 ++ [t343])) else (none))) else (none))) else (none))) else (impl_tabled.l0 k x0 x1 x2 x3 (wrap64 (x10 + 1)) x335000 x335001 x335002 x335003)
end
def impl_tabled.f (k : Nat) (a0 : Int) (x1 : (Int → Int → Option (Int))) (x2 : (Int → Int → Option (Int))) (x3 : (Int → Int → Option (Bool))) : Option (Int × List Int × List Int × List Bool) := impl_tabled.l0 k a0 x1 x2 x3 0 a0 ([] : List Int) ([] : List Int) ([] : List Bool)
def impl_tabled.T8 : Bool × List (List Nat × List Nat) := (true, [([], []), ([0], [0]), ([], []), ([], []), ([], []), ([2, 3, 4], [2, 3, 4]), ([5], [5]), ([1, 6, 5], [1, 6]), ([], []), ([8], [8]), ([], []), ([], []), ([], []), ([10, 11, 12, 7], [10, 11, 12]), ([13], [13]), ([9, 14, 13], [9, 14]), ([], []), ([16], [16]), ([], []), ([], []), ([], []), ([18, 19, 20, 15], [18, 19, 20]), ([21], [21]), ([17, 22, 21], [17, 22]), ([0, 1, 2, 3, 4, 5, 6, 7, 8, 9, 16, 17], []), ([24, 7, 23, 0, 1, 2, 3, 4, 5, 6, 7, 8, 9, 16, 17], [7, 24]), ([0, 1, 2, 3, 4, 5, 6, 7, 8, 9, 10, 11, 12, 13, 14, 15, 16, 17, 24, 25], []), ([26, 15, 25, 0, 1, 2, 3, 4, 5, 6, 7, 8, 9, 10, 11, 12, 13, 14, 15, 16, 17, 24, 25], [15, 26]), ([0, 1, 2, 3, 4, 5, 6, 7, 8, 9, 10, 11, 12, 13, 14, 15, 16, 17, 18, 19, 20, 21, 22, 23, 24, 25, 26, 27], []), ([28, 23, 27, 0, 1, 2, 3, 4, 5, 6, 7, 8, 9, 10, 11, 12, 13, 14, 15, 16, 17, 18, 19, 20, 21, 22, 23, 24, 25, 26, 27], [23, 28])])
def impl_tabled.B8 : List Nat := [0, 1, 0, 0, 0, 28, 60, 127, 0, 256, 0, 0, 0, 7423, 15615, 32767, 0, 65536, 0, 0, 0, 1900543, 3997695, 8388607, 197631, 33554431, 67108863, 134217727, 268435455, 536870911]
theorem impl_tabled.tab8 : rtab .any (opsOf Try.f54 8) = impl_tabled.T8 := by kernel_rfl
theorem impl_tabled.bits8 : waitsOk impl_tabled.T8.2 impl_tabled.B8 = true := by kernel_rfl
set_option maxHeartbeats 8000000 in
set_option maxRecDepth 100000 in
theorem impl_tabled.calls (k : Nat) (a0 : Int) (x1 : (Int → Int → Option (Int))) (K1_ : Nat) (F1_ C1_ : Array Value) (x2 : (Int → Int → Option (Int))) (K2_ : Nat) (F2_ C2_ : Array Value) (x3 : (Int → Int → Option (Bool))) (K3_ : Nat) (F3_ C3_ : Array Value) (r1 : Int) (r2 : List Int) (r3 : List Int) (r4 : List Bool) (w : World) (hG1 : OFn K1_) (hF1 : OC60 w x1 K1_ F1_ C1_) (hG2 : OFn K2_) (hF2 : OC60 w x2 K2_ F2_ C2_) (hG3 : OFn K3_) (hF3 : OC69 w x3 K3_ F3_ C3_) (h : impl_tabled.f k a0 x1 x2 x3 = some (r1, r2, r3, r4)) :
  Calls Try.prog 54 #[.int .i64 a0, .func (.func K1_) F1_ C1_, .func (.func K2_) F2_ C2_, .func (.func K3_) F3_ C3_] w fun e w' => ∃ v1_ v2_ v3_ : Value, e = .returned (.agg #[.int .i64 r1, v1_, v2_, v3_]) ∧ Kd.R (Kd.int .i64) 3 w' w.heap.size (fun k_ => some k_ ≠ (v2_ : Value).ownBlock) v1_ r2 ∧ Kd.R (Kd.int .i64) 3 w' w.heap.size (fun k_ => some k_ ≠ (v1_ : Value).ownBlock) v2_ r3 ∧ Kd.R Kd.bool 4 w' w.heap.size (fun _ => True) v3_ r4 ∧ Below w.heap.size w w' := by
 have hu27 := Try.underlying27
 have HG1 := sd_ hG1
 have HF1 := sd_ hF1
 clear hG1 hF1
 have HG2 := sd_ hG2
 have HF2 := sd_ hF2
 clear hG2 hF2
 have HG3 := sd_ hG3
 have HF3 := sd_ hF3
 clear hG3 hF3
 have HB := sd_ (Below.refl w.heap.size w)
 have H : (impl_tabled.l0 k a0 x1 x2 x3 0 a0 ([] : List Int) ([] : List Int) ([] : List Bool)) = some (r1, r2, r3, r4) := h
 clear h
 have H' := sd_ H
 clear H
 go_enter Try.func54, Try.ntmps54
 go_wp2_with (first | ((with_reducible refine gate_dst (N := 8) rfl ?_); refine bx_ (N := 8) (cs := #[.int .i64 0, .slice none 0 0, .slice none 0 0, .slice none 0 0]) (t := 27) ?_; intro gb333 hg w5 hbox hb; have BK333 := sd_ (hbox); have GW333 := sd_ (gs_ hg (bw0_ HB.out)); have GE333 := sd_ (gs_ hg (bw0_ HB.out)); replace HB := sd_ (below_step (bw0_ HB.out) hb); clear hb hbox hg) | ((with_reducible refine gate_dst (N := 9) rfl ?_); refine bx_ (N := 9) (cs := #[.int .i64 0, .slice none 0 0, .slice none 0 0, .slice none 0 0]) (t := 27) ?_; intro gb334 hg w6 hbox hb; have BK334 := sd_ (hbox); have GW334 := sd_ (gs_ hg (bw1_ HB.out GE333.out)); have GE334 := sd_ (gs_ hg (bw1_ HB.out GE333.out)); replace HB := sd_ (below_step (bw1_ HB.out GE333.out) hb); have NB333_334 := sd_ (nl_ hg (bl_ BK333.out)); have NB334_333 := sd_ (ng_ hg (bl_ BK333.out)); replace BK333 := sd_ (bb_ BK333.out hb); clear hb hbox hg; have hnb7 := NB334_333.out; have hnc7 := NB333_334.out; obtain ⟨hcz8_0, hcz8_1, hcz8_2, hcz8_3, hfz8_0, hfz8_1, hfz8_2, hfz8_3⟩ := bf4_ BK334.out))
 go_loopg [10] k (fun kq v10 w' => ∃ (x10_1 : Int) (x335001_1 : List Int) (x335002_1 : List Int) (x335003_1 : List Bool) (u335001 : Value) (u335002 : Value) (u335003 : Value), v10 = .int .i64 x10_1 ∧ Aside0 (impl_tabled.l0 kq a0 x1 x2 x3 x10_1 a0 x335001_1 x335002_1 x335003_1 = some (r1, r2, r3, r4)) ∧ Aside0 (kq ≤ k) ∧ Aside0 (Kd.R (Kd.int .i64) 3 w' w.heap.size (fun k_ => some k_ ≠ (u335002 : Value).ownBlock) u335001 x335001_1) ∧ Aside0 (Kd.R (Kd.int .i64) 3 w' w.heap.size (fun k_ => some k_ ≠ (u335001 : Value).ownBlock) u335002 x335002_1) ∧ Aside0 (Kd.R Kd.bool 4 w' w.heap.size (fun _ => True) u335003 x335003_1) ∧ Aside0 (w'.heap[gb333]? = some (.cells #[.int .i64 0, (.slice none 0 0), (.slice none 0 0), (.slice none 0 0)] 27 (0, 0))) ∧ Aside0 (w'.heap[gb334]? = some (.cells #[.int .i64 a0, u335001, u335002, u335003] 27 (0, 0))) ∧ Aside0 (Below w.heap.size w w'))
 case atStart => exact ⟨(0), (([] : List Int)), (([] : List Int)), (([] : List Bool)), (.slice none 0 0), (.slice none 0 0), (.slice none 0 0), sm_, H', ⟨Nat.le_refl _⟩, ⟨by first | exact Kd.R_nil _ _ _ _ _ | exact Kd.N_nil _ _ _ _ _ | exact Kd.V_nil _ _ _ _ _ | exact Kd.Q_nil _ _ _ _ _ | exact Kd.S_nil _ _ _ _ _⟩, ⟨by first | exact Kd.R_nil _ _ _ _ _ | exact Kd.N_nil _ _ _ _ _ | exact Kd.V_nil _ _ _ _ _ | exact Kd.Q_nil _ _ _ _ _ | exact Kd.S_nil _ _ _ _ _⟩, ⟨by first | exact Kd.R_nil _ _ _ _ _ | exact Kd.N_nil _ _ _ _ _ | exact Kd.V_nil _ _ _ _ _ | exact Kd.Q_nil _ _ _ _ _ | exact Kd.S_nil _ _ _ _ _⟩, ⟨by (with_reducible repeat (first | refine blk_drewN ?_ _ | refine blk_drew ?_ | refine blk_alloc ?_ _)); refine blk_far ?_ NB333_334.out _; (with_reducible repeat (first | refine blk_drewN ?_ _ | refine blk_drew ?_ | refine blk_alloc ?_ _)); refine blk_far ?_ NB333_334.out _; (with_reducible repeat (first | refine blk_drewN ?_ _ | refine blk_drew ?_ | refine blk_alloc ?_ _)); refine blk_far ?_ NB333_334.out _; (with_reducible repeat (first | refine blk_drewN ?_ _ | refine blk_drew ?_ | refine blk_alloc ?_ _)); refine blk_far ?_ NB333_334.out _; (with_reducible repeat (first | refine blk_drewN ?_ _ | refine blk_drew ?_ | refine blk_alloc ?_ _)); exact BK333.out⟩, ⟨by (with_reducible repeat (first | refine blk_drewN ?_ _ | refine blk_drew ?_ | refine blk_alloc ?_ _)); refine blk_put (cs := #[.int .i64 a0, .slice none 0 0, .slice none 0 0, .slice none 0 0]) ?_ 3 _ rfl; (with_reducible repeat (first | refine blk_drewN ?_ _ | refine blk_drew ?_ | refine blk_alloc ?_ _)); refine blk_put (cs := #[.int .i64 a0, .slice none 0 0, .slice none 0 0, .slice none 0 0]) ?_ 2 _ rfl; (with_reducible repeat (first | refine blk_drewN ?_ _ | refine blk_drew ?_ | refine blk_alloc ?_ _)); refine blk_put (cs := #[.int .i64 a0, .slice none 0 0, .slice none 0 0, .slice none 0 0]) ?_ 1 _ rfl; (with_reducible repeat (first | refine blk_drewN ?_ _ | refine blk_drew ?_ | refine blk_alloc ?_ _)); refine blk_put (cs := #[.int .i64 0, .slice none 0 0, .slice none 0 0, .slice none 0 0]) ?_ 0 _ rfl; exact bz_ BK334.out⟩, ⟨bw2_ HB.out GE333.out GE334.out⟩⟩
 case round =>
  clear H'
  try clear p2
  try clear c5
  try clear c7
  try clear hcz8_0
  try clear hcz8_1
  try clear hcz8_2
  try clear hcz8_3
  try clear hfz8_0
  try clear hfz8_1
  try clear hfz8_2
  try clear hfz8_3
  obtain ⟨x10_1, x335001_1, x335002_1, x335003_1, u335001, u335002, u335003, rfl, HA, HK1, HO_335001, HO_335002, HO_335003, BK333, BK334, HB⟩ := hrel
  cases gk with
  | zero => exact absurd HA.out (by simp [impl_tabled.l0])
  | succ k1 =>
   have H := HA.out
   clear HA
   simp only [impl_tabled.l0] at H
   by_cases c9 : x10_1 < a0
   ·rw [if_pos c9] at H
    have c9b0 : decide (x10_1 < a0) = true := decide_eq_true c9
    clear c9
    have H' := sd_ H
    clear H
    go_wp2
    go_loopg [11] k1 (fun kq v11 w' => ∃ (x11_2 : Int) (x335001_2 : List Int) (x335002_2 : List Int) (x335003_2 : List Bool) (u335001 : Value) (u335002 : Value) (u335003 : Value), v11 = .int .i64 x11_2 ∧ Aside0 (impl_tabled.l1 kq a0 x1 x2 x3 x10_1 x11_2 a0 x335001_2 x335002_2 x335003_2 = some (r1, r2, r3, r4)) ∧ Aside0 (kq ≤ k1) ∧ Aside0 (Kd.R (Kd.int .i64) 3 w' w.heap.size (fun k_ => some k_ ≠ (u335002 : Value).ownBlock) u335001 x335001_2) ∧ Aside0 (Kd.R (Kd.int .i64) 3 w' w.heap.size (fun k_ => some k_ ≠ (u335001 : Value).ownBlock) u335002 x335002_2) ∧ Aside0 (Kd.R Kd.bool 4 w' w.heap.size (fun _ => True) u335003 x335003_2) ∧ Aside0 (w'.heap[gb333]? = some (.cells #[.int .i64 0, (.slice none 0 0), (.slice none 0 0), (.slice none 0 0)] 27 (0, 0))) ∧ Aside0 (w'.heap[gb334]? = some (.cells #[.int .i64 a0, u335001, u335002, u335003] 27 (0, 0))) ∧ Aside0 (Below w.heap.size w w'))
    case atStart => exact ⟨(0), (x335001_1), (x335002_1), (x335003_1), (u335001), (u335002), (u335003), sm_, H', ⟨Nat.le_refl _⟩, ⟨by (with_reducible repeat (first | apply Kd.R_alloc | apply Kd.R_drewN | apply Kd.R_drew)); exact HO_335001.out⟩, ⟨by (with_reducible repeat (first | apply Kd.R_alloc | apply Kd.R_drewN | apply Kd.R_drew)); exact HO_335002.out⟩, ⟨by (with_reducible repeat (first | apply Kd.R_alloc | apply Kd.R_drewN | apply Kd.R_drew)); exact HO_335003.out⟩, ⟨by exact bz_ BK333.out⟩, ⟨by exact bz_ BK334.out⟩, ⟨bw2_ HB.out GE333.out GE334.out⟩⟩
    case round =>
     clear H'
     try clear p2
     try clear c5
     try clear c7
     try clear c9
     try clear c9b0
     try clear hcz8_0
     try clear hcz8_1
     try clear hcz8_2
     try clear hcz8_3
     try clear hfz8_0
     try clear hfz8_1
     try clear hfz8_2
     try clear hfz8_3
     try clear p2
     obtain ⟨x11_2, x335001_2, x335002_2, x335003_2, u335001, u335002, u335003, rfl, HA, HK2, HO_335001, HO_335002, HO_335003, BK333, BK334, HB⟩ := hrel
     cases gk with
     | zero => exact absurd HA.out (by simp [impl_tabled.l1])
     | succ k2 =>
      have H := HA.out
      clear HA
      simp only [impl_tabled.l1] at H
      by_cases c10 : x11_2 < a0
      ·rw [if_pos c10] at H
       have c10b0 : decide (x11_2 < a0) = true := decide_eq_true c10
       clear c10
       replace H := Option.bind_eq_some_iff.mp H
       obtain ⟨t335, A110, H⟩ := H
       try dsimp only at H
       have A11 := sd_ A110
       clear A110
       by_cases c12 : x335001_2.length < 17592186044416
       ·rw [if_pos c12] at H
        have LMc12 := sd_ c12
        clear c12
        obtain ⟨y336, hy336⟩ : ∃ y_ : List Int, y_ = (x335001_2 ++ [t335]) := ⟨_, rfl⟩
        replace H : ((x2 x10_1 x11_2).bind fun t339 => (if x335002_2.length < 17592186044416 then ((x3 x10_1 x11_2).bind fun t343 => (if x335003_2.length < 140737488355328 then (impl_tabled.l1 k2 a0 x1 x2 x3 x10_1 (wrap64 (x11_2 + 1)) a0 y336 (x335002_2 ++ [t339]) (x335003_2 ++ [t343])) else (none))) else (none))) = some (r1, r2, r3, r4) := by first | (rw [hy336]; with_reducible exact H) | (have H2_ := (Option.bind_some _ _).symm.trans H; rw [hy336]; with_reducible exact H2_) | (have H2_ := (Option.bind_some _ _).symm.trans H; with_reducible exact H2_) | with_reducible exact H | (rw [hy336]; exact H) | exact H
        have Ny336 := sd_ hy336
        clear hy336
        replace H := Option.bind_eq_some_iff.mp H
        obtain ⟨t339, A130, H⟩ := H
        try dsimp only at H
        have A13 := sd_ A130
        clear A130
        by_cases c14 : x335002_2.length < 17592186044416
        ·rw [if_pos c14] at H
         have LMc14 := sd_ c14
         clear c14
         obtain ⟨y340, hy340⟩ : ∃ y_ : List Int, y_ = (x335002_2 ++ [t339]) := ⟨_, rfl⟩
         replace H : ((x3 x10_1 x11_2).bind fun t343 => (if x335003_2.length < 140737488355328 then (impl_tabled.l1 k2 a0 x1 x2 x3 x10_1 (wrap64 (x11_2 + 1)) a0 y336 y340 (x335003_2 ++ [t343])) else (none))) = some (r1, r2, r3, r4) := by first | (rw [hy340]; with_reducible exact H) | (have H2_ := (Option.bind_some _ _).symm.trans H; rw [hy340]; with_reducible exact H2_) | (have H2_ := (Option.bind_some _ _).symm.trans H; with_reducible exact H2_) | with_reducible exact H | (rw [hy340]; exact H) | exact H
         have Ny340 := sd_ hy340
         clear hy340
         replace H := Option.bind_eq_some_iff.mp H
         obtain ⟨t343, A150, H⟩ := H
         try dsimp only at H
         have A15 := sd_ A150
         clear A150
         by_cases c16 : x335003_2.length < 140737488355328
         ·rw [if_pos c16] at H
          have LMc16 := sd_ c16
          clear c16
          obtain ⟨y344, hy344⟩ : ∃ y_ : List Bool, y_ = (x335003_2 ++ [t343]) := ⟨_, rfl⟩
          replace H : (impl_tabled.l1 k2 a0 x1 x2 x3 x10_1 (wrap64 (x11_2 + 1)) a0 y336 y340 y344) = some (r1, r2, r3, r4) := by first | (rw [hy344]; with_reducible exact H) | (have H2_ := (Option.bind_some _ _).symm.trans H; rw [hy344]; with_reducible exact H2_) | (have H2_ := (Option.bind_some _ _).symm.trans H; with_reducible exact H2_) | with_reducible exact H | (rw [hy344]; exact H) | exact H
          have Ny344 := sd_ hy344
          clear hy344
          have H' := sd_ H
          clear H
          try go_wp2
          replace HO_335001 := sd_ (Kd.R_drew HO_335001.out)
          replace HO_335002 := sd_ (Kd.R_drew HO_335002.out)
          replace HO_335003 := sd_ (Kd.R_drew HO_335003.out)
          replace BK333 := sd_ (blk_drew BK333.out)
          replace BK334 := sd_ (blk_drew BK334.out)
          replace HB := sd_ (below_drew1 HB.out)
          refine start_ (n := 30) (S := fun w' => w'.cell? ⟨gb334, 0, none⟩ = some (.int .i64 a0) ∧ w'.cell? ⟨gb334, 1, none⟩ = some (u335001) ∧ w'.cell? ⟨gb334, 2, none⟩ = some (u335002) ∧ w'.cell? ⟨gb334, 3, none⟩ = some (u335003)) (ds := [25, 27, 29]) #[false, false, false, false, false, false, false, false, false, false, false, false, false, false, false, false, false, false, false, false, false, false, false, false, false, false, false, false, false, false] (by kernel_rfl) rfl rfl ⟨(blk_cell BK334.out 0).trans rfl, (blk_cell BK334.out 1).trans rfl, (blk_cell BK334.out 2).trans rfl, (blk_cell BK334.out 3).trans rfl⟩ (fun hHeld => ?_); refine with_tabW impl_tabled.tab8 impl_tabled.bits8 (fun HT_ HW_ => ?_)
          generalize wr.drew = w17 at HO_335001 HO_335002 HO_335003 BK333 BK334 HB hHeld ⊢
          refine pure_ (i := 0) (N := some 24) (v := ?_) (a' := ?_) #[true, false, false, false, false, false, false, false, false, false, false, false, false, false, false, false, false, false, false, false, false, false, false, false, false, false, false, false, false, false] rfl rfl (any_of HT_.out (by kernel_rfl)) (fun _ _ _ h => h) (Or.inl ⟨by rfl, ?_⟩) ?_ ?_
          rotate_left
          ·intro w'
           go_simp
           with_reducible rfl
          rotate_left
          ·simp only [Act.put, List.setIfInBounds_toArray, List.set_cons_zero, List.set_cons_succ, i64_w, i32_w]
           rfl
          refine pure_ (i := 2) (N := some 26) (v := ?_) (a' := ?_) #[true, false, true, false, false, false, false, false, false, false, false, false, false, false, false, false, false, false, false, false, false, false, false, false, false, false, false, false, false, false] rfl rfl (any_of HT_.out (by kernel_rfl)) (fun _ _ _ h => h) (Or.inl ⟨by rfl, ?_⟩) ?_ ?_
          rotate_left
          ·intro w'
           go_simp
           with_reducible rfl
          rotate_left
          ·simp only [Act.put, List.setIfInBounds_toArray, List.set_cons_zero, List.set_cons_succ, i64_w, i32_w]
           rfl
          refine pure_ (i := 3) (N := some 27) (v := ?_) (a' := ?_) #[true, false, true, true, false, false, false, false, false, false, false, false, false, false, false, false, false, false, false, false, false, false, false, false, false, false, false, false, false, false] rfl rfl (any_of HT_.out (by kernel_rfl)) (fun _ _ _ h => h) (Or.inl ⟨by rfl, ?_⟩) ?_ ?_
          rotate_left
          ·intro w'
           go_simp
           with_reducible rfl
          rotate_left
          ·simp only [Act.put, List.setIfInBounds_toArray, List.set_cons_zero, List.set_cons_succ, i64_w, i32_w]
           rfl
          refine pure_ (i := 4) (N := some 28) (v := ?_) (a' := ?_) #[true, false, true, true, true, false, false, false, false, false, false, false, false, false, false, false, false, false, false, false, false, false, false, false, false, false, false, false, false, false] rfl rfl (any_of HT_.out (by kernel_rfl)) (fun _ _ _ h => h) (Or.inl ⟨by rfl, ?_⟩) ?_ ?_
          rotate_left
          ·intro w'
           go_simp
           with_reducible rfl
          rotate_left
          ·simp only [Act.put, List.setIfInBounds_toArray, List.set_cons_zero, List.set_cons_succ, i64_w, i32_w]
           rfl
          refine pure_ (i := 8) (N := some 32) (v := ?_) (a' := ?_) #[true, false, true, true, true, false, false, false, true, false, false, false, false, false, false, false, false, false, false, false, false, false, false, false, false, false, false, false, false, false] rfl rfl (any_of HT_.out (by kernel_rfl)) (fun _ _ _ h => h) (Or.inl ⟨by rfl, ?_⟩) ?_ ?_
          rotate_left
          ·intro w'
           go_simp
           with_reducible rfl
          rotate_left
          ·simp only [Act.put, List.setIfInBounds_toArray, List.set_cons_zero, List.set_cons_succ, i64_w, i32_w]
           rfl
          refine pure_ (i := 10) (N := some 34) (v := ?_) (a' := ?_) #[true, false, true, true, true, false, false, false, true, false, true, false, false, false, false, false, false, false, false, false, false, false, false, false, false, false, false, false, false, false] rfl rfl (any_of HT_.out (by kernel_rfl)) (fun _ _ _ h => h) (Or.inl ⟨by rfl, ?_⟩) ?_ ?_
          rotate_left
          ·intro w'
           go_simp
           with_reducible rfl
          rotate_left
          ·simp only [Act.put, List.setIfInBounds_toArray, List.set_cons_zero, List.set_cons_succ, i64_w, i32_w]
           rfl
          refine pure_ (i := 11) (N := some 35) (v := ?_) (a' := ?_) #[true, false, true, true, true, false, false, false, true, false, true, true, false, false, false, false, false, false, false, false, false, false, false, false, false, false, false, false, false, false] rfl rfl (any_of HT_.out (by kernel_rfl)) (fun _ _ _ h => h) (Or.inl ⟨by rfl, ?_⟩) ?_ ?_
          rotate_left
          ·intro w'
           go_simp
           with_reducible rfl
          rotate_left
          ·simp only [Act.put, List.setIfInBounds_toArray, List.set_cons_zero, List.set_cons_succ, i64_w, i32_w]
           rfl
          refine pure_ (i := 12) (N := some 36) (v := ?_) (a' := ?_) #[true, false, true, true, true, false, false, false, true, false, true, true, true, false, false, false, false, false, false, false, false, false, false, false, false, false, false, false, false, false] rfl rfl (any_of HT_.out (by kernel_rfl)) (fun _ _ _ h => h) (Or.inl ⟨by rfl, ?_⟩) ?_ ?_
          rotate_left
          ·intro w'
           go_simp
           with_reducible rfl
          rotate_left
          ·simp only [Act.put, List.setIfInBounds_toArray, List.set_cons_zero, List.set_cons_succ, i64_w, i32_w]
           rfl
          refine pure_ (i := 16) (N := some 40) (v := ?_) (a' := ?_) #[true, false, true, true, true, false, false, false, true, false, true, true, true, false, false, false, true, false, false, false, false, false, false, false, false, false, false, false, false, false] rfl rfl (any_of HT_.out (by kernel_rfl)) (fun _ _ _ h => h) (Or.inl ⟨by rfl, ?_⟩) ?_ ?_
          rotate_left
          ·intro w'
           go_simp
           with_reducible rfl
          rotate_left
          ·simp only [Act.put, List.setIfInBounds_toArray, List.set_cons_zero, List.set_cons_succ, i64_w, i32_w]
           rfl
          refine pure_ (i := 18) (N := some 42) (v := ?_) (a' := ?_) #[true, false, true, true, true, false, false, false, true, false, true, true, true, false, false, false, true, false, true, false, false, false, false, false, false, false, false, false, false, false] rfl rfl (any_of HT_.out (by kernel_rfl)) (fun _ _ _ h => h) (Or.inl ⟨by rfl, ?_⟩) ?_ ?_
          rotate_left
          ·intro w'
           go_simp
           with_reducible rfl
          rotate_left
          ·simp only [Act.put, List.setIfInBounds_toArray, List.set_cons_zero, List.set_cons_succ, i64_w, i32_w]
           rfl
          refine pure_ (i := 19) (N := some 43) (v := ?_) (a' := ?_) #[true, false, true, true, true, false, false, false, true, false, true, true, true, false, false, false, true, false, true, true, false, false, false, false, false, false, false, false, false, false] rfl rfl (any_of HT_.out (by kernel_rfl)) (fun _ _ _ h => h) (Or.inl ⟨by rfl, ?_⟩) ?_ ?_
          rotate_left
          ·intro w'
           go_simp
           with_reducible rfl
          rotate_left
          ·simp only [Act.put, List.setIfInBounds_toArray, List.set_cons_zero, List.set_cons_succ, i64_w, i32_w]
           rfl
          refine pure_ (i := 20) (N := some 44) (v := ?_) (a' := ?_) #[true, false, true, true, true, false, false, false, true, false, true, true, true, false, false, false, true, false, true, true, true, false, false, false, false, false, false, false, false, false] rfl rfl (any_of HT_.out (by kernel_rfl)) (fun _ _ _ h => h) (Or.inl ⟨by rfl, ?_⟩) ?_ ?_
          rotate_left
          ·intro w'
           go_simp
           with_reducible rfl
          rotate_left
          ·simp only [Act.put, List.setIfInBounds_toArray, List.set_cons_zero, List.set_cons_succ, i64_w, i32_w]
           rfl
          refine take_ (i := 1) (N := some 25) (v := ?_) (a' := ?_) #[true, true, true, true, true, false, false, false, true, false, true, true, true, false, false, false, true, false, true, true, true, false, false, false, false, false, false, false, false, false] rfl rfl (take_ofW HT_.out HW_.out (by kernel_rfl)) (fun _ _ _ h => h) (Or.inl ⟨by rfl, ?_⟩) hHeld ?_ ?_
          rotate_left
          ·rintro w' ⟨s0, s1, s2, s3⟩
           go_simp
           with_reducible rfl
          rotate_left
          ·simp only [Act.put, List.setIfInBounds_toArray, List.set_cons_zero, List.set_cons_succ, i64_w, i32_w]
           rfl
          refine take_ (i := 9) (N := some 33) (v := ?_) (a' := ?_) #[true, true, true, true, true, false, false, false, true, true, true, true, true, false, false, false, true, false, true, true, true, false, false, false, false, false, false, false, false, false] rfl rfl (take_ofW HT_.out HW_.out (by kernel_rfl)) (fun _ _ _ h => h) (Or.inl ⟨by rfl, ?_⟩) hHeld ?_ ?_
          rotate_left
          ·rintro w' ⟨s0, s1, s2, s3⟩
           go_simp
           with_reducible rfl
          rotate_left
          ·simp only [Act.put, List.setIfInBounds_toArray, List.set_cons_zero, List.set_cons_succ, i64_w, i32_w]
           rfl
          refine take_ (i := 17) (N := some 41) (v := ?_) (a' := ?_) #[true, true, true, true, true, false, false, false, true, true, true, true, true, false, false, false, true, true, true, true, true, false, false, false, false, false, false, false, false, false] rfl rfl (take_ofW HT_.out HW_.out (by kernel_rfl)) (fun _ _ _ h => h) (Or.inl ⟨by rfl, ?_⟩) hHeld ?_ ?_
          rotate_left
          ·rintro w' ⟨s0, s1, s2, s3⟩
           go_simp
           with_reducible rfl
          rotate_left
          ·simp only [Act.put, List.setIfInBounds_toArray, List.set_cons_zero, List.set_cons_succ, i64_w, i32_w]
           rfl
          refine one_ (i := 5) (N := some 29) #[true, true, true, true, true, true, false, false, true, true, true, true, true, false, false, false, true, true, true, true, true, false, false, false, false, false, false, false, false, false] rfl rfl (one_of HT_.out (by kernel_rfl)) (by decide) (fun K hK => ?_)
          refine goesO_ HG1.out #[.int .i64 x10_1, .int .i64 x11_2] (by rfl) rfl rfl la_ rfl ?_
          with_reducible refine (HF1.out x10_1 x11_2 t335 _ ?side1 A11.out).mono ?_
          (case side1 => exact (bw2_ HB.out GE333.out GE334.out))
          rintro e w18 ⟨rfl, hb⟩
          refine ⟨_, rfl, ?_⟩
          replace HO_335001 := sd_ (Kd.R_below (ro_ HO_335001.out) hb)
          replace HO_335002 := sd_ (Kd.R_below (ro_ HO_335002.out) hb)
          replace HO_335003 := sd_ (Kd.R_below (ro_ HO_335003.out) hb)
          replace BK333 := sd_ (bb_ BK333.out hb)
          replace BK334 := sd_ (bb_ BK334.out hb)
          replace HB := sd_ (below_step (bw2_ HB.out GE333.out GE334.out) hb)
          (try clear hb)
          (try clear hb2)
          (try clear hk)
          (try clear hi)
          refine hK.out _ _ ⟨(blk_cell BK334.out 0).trans rfl, (blk_cell BK334.out 1).trans rfl, (blk_cell BK334.out 2).trans rfl, (blk_cell BK334.out 3).trans rfl⟩ (fun hHeld => ?_)
          clear hK K
          refine norm_ (a' := ?_) ?_ ?_
          rotate_left
          ·show Act.put _ (some 29) _ = _
           simp only [Act.put, List.setIfInBounds_toArray, List.set_cons_zero, List.set_cons_succ, i64_w, i32_w]
           rfl
          refine one_ (i := 6) (N := some 30) #[true, true, true, true, true, true, true, false, true, true, true, true, true, false, false, false, true, true, true, true, true, false, false, false, false, false, false, false, false, false] rfl rfl (one_of HT_.out (by kernel_rfl)) (by decide) (fun K hK => ?_)
          refine value_ (w1 := ?_) (v := ?_) (by rfl) rfl ?_ ?_
          rotate_left 2
          ·go_simp
           constructor
           ·rfl
           rfl
          refine hK.out _ _ ⟨(blk_cell (blk_alloc BK334.out _) 0).trans rfl, (blk_cell (blk_alloc BK334.out _) 1).trans rfl, (blk_cell (blk_alloc BK334.out _) 2).trans rfl, (blk_cell (blk_alloc BK334.out _) 3).trans rfl⟩ (fun hHeld => ?_)
          clear hK K
          refine norm_ (a' := ?_) ?_ ?_
          rotate_left
          ·show Act.put _ (some 30) _ = _
           simp only [Act.put, List.setIfInBounds_toArray, List.set_cons_zero, List.set_cons_succ, i64_w, i32_w]
           rfl
          refine one_ (i := 7) (N := some 31) #[true, true, true, true, true, true, true, true, true, true, true, true, true, false, false, false, true, true, true, true, true, false, false, false, false, false, false, false, false, false] rfl rfl (one_of HT_.out (by kernel_rfl)) (by decide) (fun K hK => ?_)
          refine Kd.R_append_step (Kd.int .i64) (w0 := w) w.heap.size (by rfl) (.tmp 25) (.tmp 30) 22 3 (.int .i64 0) 8 rfl Try.underlying22 info3 rfl (by decide) (by omega) u335001 x335001_2 t335 [.int .i64 t335] (fun k_ => some k_ ≠ (u335002 : Value).ownBlock) (fun _ => False) rfl rfl ?aP (fun _ hk => hk.elim) ?aF ?aO ?aB ?aS ?aL ?_
          (case aP => exact rfl)
          (case aB => exact (bw2_ HB.out GE333.out GE334.out))
          (case aF => exact (fun k_ hk => Kd.fresh' (Kd.R_lt (ro_ HO_335002.out)) k_ hk))
          (case aO => exact (ro_ HO_335001.out))
          (case aS => exact (below_size (bw2_ HB.out GE333.out GE334.out)))
          (case aL => have := LMc12.out; omega)
          intro v337 w19 ho hb hg hat
          rw [← Ny336.out] at ho
          have n0_ := sd_ (Kd.R_after (ok := (fun _ => True)) (by (with_reducible repeat (first | apply Kd.R_alloc | apply Kd.R_drewN | apply Kd.R_drew)); exact Kd.R_mono HO_335002.out (fun _ hk => ⟨trivial, hk⟩)) hg hat)
          have n1_ := sd_ (Kd.R_over' (ro_ HO_335003.out) (Kd.R_typed (ro_ HO_335001.out)) (by decide) hg)
          have n2_ := sd_ (blk_grown (g := gb333) (o := .cells #[.int .i64 0, .slice none 0 0, .slice none 0 0, .slice none 0 0] 27 (0, 0)) (bz_ BK333.out) hg (Kd.R_ne HO_335001.out BK333.out (by decide)))
          have n3_ := sd_ (blk_grown (g := gb334) (o := .cells #[.int .i64 a0, u335001, u335002, u335003] 27 (0, 0)) (bz_ BK334.out) hg (Kd.R_ne HO_335001.out BK334.out (by decide)))
          have n4_ := sd_ (hb)
          have n5_ := sd_ (ho)
          clear HO_335002
          clear HO_335003
          clear BK333
          clear BK334
          clear HB
          clear HO_335001
          have HO_335002 := n0_
          have HO_335003 := n1_
          have BK333 := n2_
          have BK334 := n3_
          have HB := n4_
          have HO338 := n5_
          clear n0_ n1_ n2_ n3_ n4_ n5_
          clear ho hb hg hat
          refine hK.out _ _ ⟨(blk_cell BK334.out 0).trans rfl, (blk_cell BK334.out 1).trans rfl, (blk_cell BK334.out 2).trans rfl, (blk_cell BK334.out 3).trans rfl⟩ (fun hHeld => ?_)
          clear hK K
          refine norm_ (a' := ?_) ?_ ?_
          rotate_left
          ·show Act.put _ (some 31) _ = _
           simp only [Act.put, List.setIfInBounds_toArray, List.set_cons_zero, List.set_cons_succ, i64_w, i32_w]
           rfl
          refine pure_ (i := 24) (N := some 48) (v := ?_) (a' := ?_) #[true, true, true, true, true, true, true, true, true, true, true, true, true, false, false, false, true, true, true, true, true, false, false, false, true, false, false, false, false, false] rfl rfl (any_of HT_.out (by kernel_rfl)) (fun _ _ _ h => h) (Or.inl ⟨by rfl, ?_⟩) ?_ ?_
          rotate_left
          ·intro w'
           go_simp
           with_reducible rfl
          rotate_left
          ·simp only [Act.put, List.setIfInBounds_toArray, List.set_cons_zero, List.set_cons_succ, i64_w, i32_w]
           rfl
          refine one_ (i := 13) (N := some 37) #[true, true, true, true, true, true, true, true, true, true, true, true, true, true, false, false, true, true, true, true, true, false, false, false, true, false, false, false, false, false] rfl rfl (one_of HT_.out (by kernel_rfl)) (by decide) (fun K hK => ?_)
          refine goesO_ HG2.out #[.int .i64 x10_1, .int .i64 x11_2] (by rfl) rfl rfl la_ rfl ?_
          with_reducible refine (HF2.out x10_1 x11_2 t339 _ ?side1 A13.out).mono ?_
          (case side1 => exact (bw2_ HB.out GE333.out GE334.out))
          rintro e w20 ⟨rfl, hb⟩
          refine ⟨_, rfl, ?_⟩
          replace HO_335002 := sd_ (Kd.R_below (ro_ HO_335002.out) hb)
          replace HO_335003 := sd_ (Kd.R_below (ro_ HO_335003.out) hb)
          replace HO338 := sd_ (Kd.R_below (ro_ HO338.out) hb)
          replace BK333 := sd_ (bb_ BK333.out hb)
          replace BK334 := sd_ (bb_ BK334.out hb)
          replace HB := sd_ (below_step (bw2_ HB.out GE333.out GE334.out) hb)
          (try clear hb)
          (try clear hb2)
          (try clear hk)
          (try clear hi)
          refine hK.out _ _ ⟨(blk_cell BK334.out 0).trans rfl, (blk_cell BK334.out 1).trans rfl, (blk_cell BK334.out 2).trans rfl, (blk_cell BK334.out 3).trans rfl⟩ (fun hHeld => ?_)
          clear hK K
          refine norm_ (a' := ?_) ?_ ?_
          rotate_left
          ·show Act.put _ (some 37) _ = _
           simp only [Act.put, List.setIfInBounds_toArray, List.set_cons_zero, List.set_cons_succ, i64_w, i32_w]
           rfl
          refine one_ (i := 14) (N := some 38) #[true, true, true, true, true, true, true, true, true, true, true, true, true, true, true, false, true, true, true, true, true, false, false, false, true, false, false, false, false, false] rfl rfl (one_of HT_.out (by kernel_rfl)) (by decide) (fun K hK => ?_)
          refine value_ (w1 := ?_) (v := ?_) (by rfl) rfl ?_ ?_
          rotate_left 2
          ·go_simp
           constructor
           ·rfl
           rfl
          refine hK.out _ _ ⟨(blk_cell (blk_alloc BK334.out _) 0).trans rfl, (blk_cell (blk_alloc BK334.out _) 1).trans rfl, (blk_cell (blk_alloc BK334.out _) 2).trans rfl, (blk_cell (blk_alloc BK334.out _) 3).trans rfl⟩ (fun hHeld => ?_)
          clear hK K
          refine norm_ (a' := ?_) ?_ ?_
          rotate_left
          ·show Act.put _ (some 38) _ = _
           simp only [Act.put, List.setIfInBounds_toArray, List.set_cons_zero, List.set_cons_succ, i64_w, i32_w]
           rfl
          refine one_ (i := 15) (N := some 39) #[true, true, true, true, true, true, true, true, true, true, true, true, true, true, true, true, true, true, true, true, true, false, false, false, true, false, false, false, false, false] rfl rfl (one_of HT_.out (by kernel_rfl)) (by decide) (fun K hK => ?_)
          refine Kd.R_append_step (Kd.int .i64) (w0 := w) w.heap.size (by rfl) (.tmp 33) (.tmp 38) 22 3 (.int .i64 0) 8 rfl Try.underlying22 info3 rfl (by decide) (by omega) u335002 x335002_2 t339 [.int .i64 t339] (fun k_ => some k_ ≠ (v337 : Value).ownBlock) (fun _ => False) rfl rfl ?aP (fun _ hk => hk.elim) ?aF ?aO ?aB ?aS ?aL ?_
          (case aP => exact rfl)
          (case aB => exact (bw2_ HB.out GE333.out GE334.out))
          (case aF => exact (fun k_ hk => Kd.fresh' (Kd.R_lt (ro_ HO338.out)) k_ hk))
          (case aO => exact (by (with_reducible repeat (first | apply Kd.R_alloc | apply Kd.R_drewN | apply Kd.R_drew)); exact Kd.R_mono HO_335002.out (fun _ hk => hk.2)))
          (case aS => exact (below_size (bw2_ HB.out GE333.out GE334.out)))
          (case aL => have := LMc14.out; omega)
          intro v341 w21 ho hb hg hat
          rw [← Ny340.out] at ho
          have n0_ := sd_ (Kd.R_over' (ro_ HO_335003.out) (Kd.R_typed (ro_ HO_335002.out)) (by decide) hg)
          have n1_ := sd_ (blk_grown (g := gb333) (o := .cells #[.int .i64 0, .slice none 0 0, .slice none 0 0, .slice none 0 0] 27 (0, 0)) (bz_ BK333.out) hg (Kd.R_ne HO_335002.out BK333.out (by decide)))
          have n2_ := sd_ (blk_grown (g := gb334) (o := .cells #[.int .i64 a0, u335001, u335002, u335003] 27 (0, 0)) (bz_ BK334.out) hg (Kd.R_ne HO_335002.out BK334.out (by decide)))
          have n3_ := sd_ (Kd.R_after (ok := (fun _ => True)) (by (with_reducible repeat (first | apply Kd.R_alloc | apply Kd.R_drewN | apply Kd.R_drew)); exact Kd.R_mono HO338.out (fun _ hk => ⟨trivial, hk⟩)) hg hat)
          have n4_ := sd_ (hb)
          have n5_ := sd_ (ho)
          clear HO_335003
          clear BK333
          clear BK334
          clear HO338
          clear HB
          clear HO_335002
          have HO_335003 := n0_
          have BK333 := n1_
          have BK334 := n2_
          have HO338 := n3_
          have HB := n4_
          have HO342 := n5_
          clear n0_ n1_ n2_ n3_ n4_ n5_
          clear ho hb hg hat
          refine hK.out _ _ ⟨(blk_cell BK334.out 0).trans rfl, (blk_cell BK334.out 1).trans rfl, (blk_cell BK334.out 2).trans rfl, (blk_cell BK334.out 3).trans rfl⟩ (fun hHeld => ?_)
          clear hK K
          refine norm_ (a' := ?_) ?_ ?_
          rotate_left
          ·show Act.put _ (some 39) _ = _
           simp only [Act.put, List.setIfInBounds_toArray, List.set_cons_zero, List.set_cons_succ, i64_w, i32_w]
           rfl
          refine one_ (i := 21) (N := some 45) #[true, true, true, true, true, true, true, true, true, true, true, true, true, true, true, true, true, true, true, true, true, true, false, false, true, false, false, false, false, false] rfl rfl (one_of HT_.out (by kernel_rfl)) (by decide) (fun K hK => ?_)
          refine goesO_ HG3.out #[.int .i64 x10_1, .int .i64 x11_2] (by rfl) rfl rfl la_ rfl ?_
          with_reducible refine (HF3.out x10_1 x11_2 t343 _ ?side1 A15.out).mono ?_
          (case side1 => exact (bw2_ HB.out GE333.out GE334.out))
          rintro e w22 ⟨rfl, hb⟩
          refine ⟨_, rfl, ?_⟩
          replace HO_335003 := sd_ (Kd.R_below (ro_ HO_335003.out) hb)
          replace HO338 := sd_ (Kd.R_below (ro_ HO338.out) hb)
          replace HO342 := sd_ (Kd.R_below (ro_ HO342.out) hb)
          replace BK333 := sd_ (bb_ BK333.out hb)
          replace BK334 := sd_ (bb_ BK334.out hb)
          replace HB := sd_ (below_step (bw2_ HB.out GE333.out GE334.out) hb)
          (try clear hb)
          (try clear hb2)
          (try clear hk)
          (try clear hi)
          refine hK.out _ _ ⟨(blk_cell BK334.out 0).trans rfl, (blk_cell BK334.out 1).trans rfl, (blk_cell BK334.out 2).trans rfl, (blk_cell BK334.out 3).trans rfl⟩ (fun hHeld => ?_)
          clear hK K
          refine norm_ (a' := ?_) ?_ ?_
          rotate_left
          ·show Act.put _ (some 45) _ = _
           simp only [Act.put, List.setIfInBounds_toArray, List.set_cons_zero, List.set_cons_succ, i64_w, i32_w]
           rfl
          refine one_ (i := 22) (N := some 46) #[true, true, true, true, true, true, true, true, true, true, true, true, true, true, true, true, true, true, true, true, true, true, true, false, true, false, false, false, false, false] rfl rfl (one_of HT_.out (by kernel_rfl)) (by decide) (fun K hK => ?_)
          refine value_ (w1 := ?_) (v := ?_) (by rfl) rfl ?_ ?_
          rotate_left 2
          ·go_simp
           constructor
           ·rfl
           rfl
          refine hK.out _ _ ⟨(blk_cell (blk_alloc BK334.out _) 0).trans rfl, (blk_cell (blk_alloc BK334.out _) 1).trans rfl, (blk_cell (blk_alloc BK334.out _) 2).trans rfl, (blk_cell (blk_alloc BK334.out _) 3).trans rfl⟩ (fun hHeld => ?_)
          clear hK K
          refine norm_ (a' := ?_) ?_ ?_
          rotate_left
          ·show Act.put _ (some 46) _ = _
           simp only [Act.put, List.setIfInBounds_toArray, List.set_cons_zero, List.set_cons_succ, i64_w, i32_w]
           rfl
          refine one_ (i := 23) (N := some 47) #[true, true, true, true, true, true, true, true, true, true, true, true, true, true, true, true, true, true, true, true, true, true, true, true, true, false, false, false, false, false] rfl rfl (one_of HT_.out (by kernel_rfl)) (by decide) (fun K hK => ?_)
          refine Kd.R_append_step Kd.bool (w0 := w) w.heap.size (by rfl) (.tmp 41) (.tmp 46) 23 4 (.bool false) 1 rfl Try.underlying23 info4 rfl (by decide) (by omega) u335003 x335003_2 t343 [.bool t343] (fun _ => True) (fun _ => False) rfl rfl ?aP (fun _ hk => hk.elim) ?aF ?aO ?aB ?aS ?aL ?_
          (case aP => exact rfl)
          (case aB => exact (bw2_ HB.out GE333.out GE334.out))
          (case aF => exact (fun _ _ => trivial))
          (case aO => exact (ro_ HO_335003.out))
          (case aS => exact (below_size (bw2_ HB.out GE333.out GE334.out)))
          (case aL => have := LMc16.out; omega)
          intro v345 w23 ho hb hg hat
          rw [← Ny344.out] at ho
          have n0_ := sd_ (blk_grown (g := gb333) (o := .cells #[.int .i64 0, .slice none 0 0, .slice none 0 0, .slice none 0 0] 27 (0, 0)) (bz_ BK333.out) hg (Kd.R_ne HO_335003.out BK333.out (by decide)))
          have n1_ := sd_ (blk_grown (g := gb334) (o := .cells #[.int .i64 a0, u335001, u335002, u335003] 27 (0, 0)) (bz_ BK334.out) hg (Kd.R_ne HO_335003.out BK334.out (by decide)))
          have n2_ := sd_ (Kd.R_over' (ro_ HO338.out) (Kd.R_typed (ro_ HO_335003.out)) (by decide) hg)
          have n3_ := sd_ (Kd.R_over' (ro_ HO342.out) (Kd.R_typed (ro_ HO_335003.out)) (by decide) hg)
          have n4_ := sd_ (hb)
          have n5_ := sd_ (ho)
          clear BK333
          clear BK334
          clear HO338
          clear HO342
          clear HB
          clear HO_335003
          have BK333 := n0_
          have BK334 := n1_
          have HO338 := n2_
          have HO342 := n3_
          have HB := n4_
          have HO346 := n5_
          clear n0_ n1_ n2_ n3_ n4_ n5_
          clear ho hb hg hat
          obtain ⟨Ao24, co24, eo24⟩ := Kd.R_slice HO338.out
          (first | subst eo24 | (injection eo24 with f1_ f2_ f3_; have f4_ := f1_.symm; have f5_ := f3_.symm; clear f1_ f2_ f3_; subst f4_; subst f5_))
          obtain ⟨Ao26, co26, eo26⟩ := Kd.R_slice HO342.out
          (first | subst eo26 | (injection eo26 with f1_ f2_ f3_; have f4_ := f1_.symm; have f5_ := f3_.symm; clear f1_ f2_ f3_; subst f4_; subst f5_))
          obtain ⟨Ao28, co28, eo28⟩ := Kd.R_slice HO346.out
          (first | subst eo28 | (injection eo28 with f1_ f2_ f3_; have f4_ := f1_.symm; have f5_ := f3_.symm; clear f1_ f2_ f3_; subst f4_; subst f5_))
          refine hK.out _ _ ⟨(blk_cell BK334.out 0).trans rfl, (blk_cell BK334.out 1).trans rfl, (blk_cell BK334.out 2).trans rfl, (blk_cell BK334.out 3).trans rfl⟩ (fun hHeld => ?_)
          clear hK K
          refine norm_ (a' := ?_) ?_ ?_
          rotate_left
          ·show Act.put _ (some 47) _ = _
           simp only [Act.put, List.setIfInBounds_toArray, List.set_cons_zero, List.set_cons_succ, i64_w, i32_w]
           rfl
          refine last_ (i := 25) (N := none) #[true, true, true, true, true, true, true, true, true, true, true, true, true, true, true, true, true, true, true, true, true, true, true, true, true, true, false, false, false, false] rfl rfl (one_of HT_.out (by kernel_rfl)) (by decide) (fun K hK => ?_)
          have hs25 : w23.cell? ⟨gb334, 1, none⟩ = some (u335001) := (blk_cell BK334.out 1).trans rfl
          have hfs25 := blk_frozen BK334.out 1
          have hns25_0 := NB333_334.out
          have hms25_0 := NB334_333.out
          refine skip_ (w1 := ?_) (by rfl) rfl ?_ ?_
          rotate_left
          ·go_simp
           rfl
          refine hK.out _ _ ?_
          clear hK K
          refine pure_ (i := 26) (N := some 49) (v := ?_) (a' := ?_) #[true, true, true, true, true, true, true, true, true, true, true, true, true, true, true, true, true, true, true, true, true, true, true, true, true, true, true, false, false, false] rfl rfl (any_of HT_.out (by kernel_rfl)) (fun _ _ _ h => h) (Or.inl ⟨by rfl, ?_⟩) ?_ ?_
          rotate_left
          ·intro w'
           go_simp
           with_reducible rfl
          rotate_left
          ·simp only [Act.put, List.setIfInBounds_toArray, List.set_cons_zero, List.set_cons_succ, i64_w, i32_w]
           rfl
          refine last_ (i := 27) (N := none) #[true, true, true, true, true, true, true, true, true, true, true, true, true, true, true, true, true, true, true, true, true, true, true, true, true, true, true, true, false, false] rfl rfl (one_of HT_.out (by kernel_rfl)) (by decide) (fun K hK => ?_)
          have hs27 : w23.cell? ⟨gb334, 2, none⟩ = some (u335002) := (blk_cell BK334.out 2).trans rfl
          have hfs27 := blk_frozen BK334.out 2
          have hns27_0 := NB333_334.out
          have hms27_0 := NB334_333.out
          refine skip_ (w1 := ?_) (by rfl) rfl ?_ ?_
          rotate_left
          ·go_simp
           rfl
          refine hK.out _ _ ?_
          clear hK K
          refine pure_ (i := 28) (N := some 50) (v := ?_) (a' := ?_) #[true, true, true, true, true, true, true, true, true, true, true, true, true, true, true, true, true, true, true, true, true, true, true, true, true, true, true, true, true, false] rfl rfl (any_of HT_.out (by kernel_rfl)) (fun _ _ _ h => h) (Or.inl ⟨by rfl, ?_⟩) ?_ ?_
          rotate_left
          ·intro w'
           go_simp
           with_reducible rfl
          rotate_left
          ·simp only [Act.put, List.setIfInBounds_toArray, List.set_cons_zero, List.set_cons_succ, i64_w, i32_w]
           rfl
          refine last_ (i := 29) (N := none) #[true, true, true, true, true, true, true, true, true, true, true, true, true, true, true, true, true, true, true, true, true, true, true, true, true, true, true, true, true, true] rfl rfl (one_of HT_.out (by kernel_rfl)) (by decide) (fun K hK => ?_)
          have hs29 : w23.cell? ⟨gb334, 3, none⟩ = some (u335003) := (blk_cell BK334.out 3).trans rfl
          have hfs29 := blk_frozen BK334.out 3
          have hns29_0 := NB333_334.out
          have hms29_0 := NB334_333.out
          refine skip_ (w1 := ?_) (by rfl) rfl ?_ ?_
          rotate_left
          ·go_simp
           rfl
          refine hK.out _ _ ?_
          clear hK K
          refine done_ (done_of HT_.out (by kernel_rfl)) ?_
          try go_wp2
          go_roundg k2
          case measure => have := HK1.out; have := HK2.out; omega
          case rel => exact ⟨(wrap64 (x11_2 + 1)), (y336), (y340), (y344), (.slice Ao24 y336.length co24), (.slice Ao26 y340.length co26), (.slice Ao28 y344.length co28), sm_, H', ⟨by have := HK1.out; have := HK2.out; omega⟩, ⟨by (with_reducible repeat (first | apply Kd.R_alloc | apply Kd.R_drewN | apply Kd.R_drew)); exact Kd.R_mono (Kd.R_far (p := ⟨gb334, 3, none⟩) (Kd.R_far (p := ⟨gb334, 2, none⟩) (Kd.R_far (p := ⟨gb334, 1, none⟩) (Kd.R_types HO338.out BK334.out (by decide)) (fun _ hk => hk.2) (.slice Ao24 y336.length co24)) (fun _ hk => hk.2) (.slice Ao26 y340.length co26)) (fun _ hk => hk.2) (.slice Ao28 y344.length co28)) (fun _ hk => hk.1.2)⟩, ⟨by (with_reducible repeat (first | apply Kd.R_alloc | apply Kd.R_drewN | apply Kd.R_drew)); exact Kd.R_mono (Kd.R_far (p := ⟨gb334, 3, none⟩) (Kd.R_far (p := ⟨gb334, 2, none⟩) (Kd.R_far (p := ⟨gb334, 1, none⟩) (Kd.R_types HO342.out BK334.out (by decide)) (fun _ hk => hk.2) (.slice Ao24 y336.length co24)) (fun _ hk => hk.2) (.slice Ao26 y340.length co26)) (fun _ hk => hk.2) (.slice Ao28 y344.length co28)) (fun _ hk => hk.1)⟩, ⟨by (with_reducible repeat (first | apply Kd.R_alloc | apply Kd.R_drewN | apply Kd.R_drew)); exact Kd.R_mono (Kd.R_far (p := ⟨gb334, 3, none⟩) (Kd.R_far (p := ⟨gb334, 2, none⟩) (Kd.R_far (p := ⟨gb334, 1, none⟩) (Kd.R_types HO346.out BK334.out (by decide)) (fun _ hk => hk.2) (.slice Ao24 y336.length co24)) (fun _ hk => hk.2) (.slice Ao26 y340.length co26)) (fun _ hk => hk.2) (.slice Ao28 y344.length co28)) (fun _ hk => trivial)⟩, ⟨by (with_reducible repeat (first | refine blk_drewN ?_ _ | refine blk_drew ?_ | refine blk_alloc ?_ _)); refine blk_far ?_ NB333_334.out _; (with_reducible repeat (first | refine blk_drewN ?_ _ | refine blk_drew ?_ | refine blk_alloc ?_ _)); refine blk_far ?_ NB333_334.out _; (with_reducible repeat (first | refine blk_drewN ?_ _ | refine blk_drew ?_ | refine blk_alloc ?_ _)); refine blk_far ?_ NB333_334.out _; (with_reducible repeat (first | refine blk_drewN ?_ _ | refine blk_drew ?_ | refine blk_alloc ?_ _)); exact BK333.out⟩, ⟨by (with_reducible repeat (first | refine blk_drewN ?_ _ | refine blk_drew ?_ | refine blk_alloc ?_ _)); refine blk_put (cs := #[.int .i64 a0, .slice Ao24 y336.length co24, .slice Ao26 y340.length co26, u335003]) ?_ 3 _ rfl; (with_reducible repeat (first | refine blk_drewN ?_ _ | refine blk_drew ?_ | refine blk_alloc ?_ _)); refine blk_put (cs := #[.int .i64 a0, .slice Ao24 y336.length co24, u335002, u335003]) ?_ 2 _ rfl; (with_reducible repeat (first | refine blk_drewN ?_ _ | refine blk_drew ?_ | refine blk_alloc ?_ _)); refine blk_put (cs := #[.int .i64 a0, u335001, u335002, u335003]) ?_ 1 _ rfl; exact bz_ BK334.out⟩, ⟨bw2_ HB.out GE333.out GE334.out⟩⟩
         rw [if_neg c16] at H
         exact absurd H (by simp)
        rw [if_neg c14] at H
        exact absurd H (by simp)
       rw [if_neg c12] at H
       exact absurd H (by simp)
      rw [if_neg c10] at H
      have c10b0 : decide (x11_2 < a0) = false := decide_eq_false c10
      clear c10
      have H' := sd_ H
      clear H
      go_wp2
      go_roundg k2
      case measure => have := HK1.out; have := HK2.out; omega
      case rel => exact ⟨(wrap64 (x10_1 + 1)), (x335001_2), (x335002_2), (x335003_2), (u335001), (u335002), (u335003), sm_, H', ⟨by have := HK1.out; have := HK2.out; omega⟩, ⟨by (with_reducible repeat (first | apply Kd.R_alloc | apply Kd.R_drewN | apply Kd.R_drew)); exact HO_335001.out⟩, ⟨by (with_reducible repeat (first | apply Kd.R_alloc | apply Kd.R_drewN | apply Kd.R_drew)); exact HO_335002.out⟩, ⟨by (with_reducible repeat (first | apply Kd.R_alloc | apply Kd.R_drewN | apply Kd.R_drew)); exact HO_335003.out⟩, ⟨by exact bz_ BK333.out⟩, ⟨by exact bz_ BK334.out⟩, ⟨bw2_ HB.out GE333.out GE334.out⟩⟩
   rw [if_neg c9] at H
   have c9b0 : decide (x10_1 < a0) = false := decide_eq_false c9
   clear c9
   simp only [Option.some.injEq, Prod.mk.injEq] at H
   obtain ⟨rfl, rfl, rfl, rfl⟩ := H
   have hnb30 := NB334_333.out
   have hnc30 := NB333_334.out
   obtain ⟨hcz31_0, hcz31_1, hcz31_2, hcz31_3, hfz31_0, hfz31_1, hfz31_2, hfz31_3⟩ := bf4_ BK334.out
   obtain ⟨hcz32_0, hcz32_1, hcz32_2, hcz32_3, hfz32_0, hfz32_1, hfz32_2, hfz32_3⟩ := bf4_ BK333.out
   obtain ⟨Ao33, co33, eo33⟩ := Kd.R_slice HO_335001.out
   subst eo33
   obtain ⟨Ao34, co34, eo34⟩ := Kd.R_slice HO_335002.out
   subst eo34
   obtain ⟨Ao35, co35, eo35⟩ := Kd.R_slice HO_335003.out
   subst eo35
   go_wp2
   refine bodyPost_ret (results_cell_row rfl _ _ gb333 27 #[.int .i64 a0, .slice Ao33 x335001_1.length co33, .slice Ao34 x335002_1.length co34, .slice Ao35 x335003_1.length co35] (0, 0) _ rfl (by (with_reducible repeat (first | refine blk_drewN ?_ _ | refine blk_drew ?_ | refine blk_alloc ?_ _)); refine blk_put (cs := #[.int .i64 a0, .slice Ao33 x335001_1.length co33, .slice Ao34 x335002_1.length co34, .slice none 0 0]) ?_ 3 _ rfl; (with_reducible repeat (first | refine blk_drewN ?_ _ | refine blk_drew ?_ | refine blk_alloc ?_ _)); refine blk_put (cs := #[.int .i64 a0, .slice Ao33 x335001_1.length co33, .slice none 0 0, .slice none 0 0]) ?_ 2 _ rfl; (with_reducible repeat (first | refine blk_drewN ?_ _ | refine blk_drew ?_ | refine blk_alloc ?_ _)); refine blk_put (cs := #[.int .i64 a0, .slice none 0 0, .slice none 0 0, .slice none 0 0]) ?_ 1 _ rfl; (with_reducible repeat (first | refine blk_drewN ?_ _ | refine blk_drew ?_ | refine blk_alloc ?_ _)); refine blk_put (cs := #[.int .i64 0, .slice none 0 0, .slice none 0 0, .slice none 0 0]) ?_ 0 _ rfl; exact bz_ BK333.out) Try.underlying27 rfl (by kernel_rfl)) rfl ?_
   exact ⟨_, _, _, an_, by (with_reducible repeat (first | apply Kd.R_alloc | apply Kd.R_drewN | apply Kd.R_drew)); exact Kd.R_mono (Kd.R_far (p := ⟨gb333, 3, none⟩) (Kd.R_far (p := ⟨gb333, 2, none⟩) (Kd.R_far (p := ⟨gb333, 1, none⟩) (Kd.R_far (p := ⟨gb333, 0, none⟩) (Kd.R_types HO_335001.out BK333.out (by decide)) (fun _ hk => hk.2) (.int .i64 a0)) (fun _ hk => hk.2) (.slice Ao33 x335001_1.length co33)) (fun _ hk => hk.2) (.slice Ao34 x335002_1.length co34)) (fun _ hk => hk.2) (.slice Ao35 x335003_1.length co35)) (fun _ hk => hk.1), by (with_reducible repeat (first | apply Kd.R_alloc | apply Kd.R_drewN | apply Kd.R_drew)); exact Kd.R_mono (Kd.R_far (p := ⟨gb333, 3, none⟩) (Kd.R_far (p := ⟨gb333, 2, none⟩) (Kd.R_far (p := ⟨gb333, 1, none⟩) (Kd.R_far (p := ⟨gb333, 0, none⟩) (Kd.R_types HO_335002.out BK333.out (by decide)) (fun _ hk => hk.2) (.int .i64 a0)) (fun _ hk => hk.2) (.slice Ao33 x335001_1.length co33)) (fun _ hk => hk.2) (.slice Ao34 x335002_1.length co34)) (fun _ hk => hk.2) (.slice Ao35 x335003_1.length co35)) (fun _ hk => hk.1), by (with_reducible repeat (first | apply Kd.R_alloc | apply Kd.R_drewN | apply Kd.R_drew)); exact Kd.R_mono (Kd.R_far (p := ⟨gb333, 3, none⟩) (Kd.R_far (p := ⟨gb333, 2, none⟩) (Kd.R_far (p := ⟨gb333, 1, none⟩) (Kd.R_far (p := ⟨gb333, 0, none⟩) (Kd.R_types HO_335003.out BK333.out (by decide)) (fun _ hk => hk.2) (.int .i64 a0)) (fun _ hk => hk.2) (.slice Ao33 x335001_1.length co33)) (fun _ hk => hk.2) (.slice Ao34 x335002_1.length co34)) (fun _ hk => hk.2) (.slice Ao35 x335003_1.length co35)) (fun _ hk => trivial), bw2_ HB.out GE333.out GE334.out⟩

end Go.Proofs.Ytipfkicndjddgaa.P
