-- Several texts in one (wip/tools/merge.py).
import Derived.Test.YtjjkagnbdfofbaaM2
import Derived.Laws.EntriesVeiled
import Derived.Test.YtjjkagnbdfofbaaM3
section
namespace Go.Proofs.Ytjjkagnbdfofbaa.P
open Go.RowKit Go.Proofs.YtjjkagnbdfofbaaW.PrintWords Go.Proofs.YtjjkagnbdfofbaaW.PrintLast Go.Proofs.YtjjkagnbdfofbaaW.PrintMore
attribute [local go_sem] max2_int min2_int max_two min_two
set_option linter.unusedVariables false
set_option linter.unusedSimpArgs false

mutual
def impl_tabled.l0 : Nat → Int → (Int → Int → Option (Int)) → (Int → Int → Option (Int)) → (Int → Int → Option (Bool)) → Int → Int → List Int → List Int → List Bool → Option (Int × List Int × List Int × List Bool)
 | 0, _, _, _, _, _, _, _, _, _ => none
 | k + 1, x0, x1, x2, x3, x10, K3, K0, K1, K2 => if x10 < x0 then (impl_tabled.l1 k x0 x1 x2 x3 x10 0 K3 K0 K1 K2) else (some (K3, K0, K1, K2))
def impl_tabled.l1 : Nat → Int → (Int → Int → Option (Int)) → (Int → Int → Option (Int)) → (Int → Int → Option (Bool)) → Int → Int → Int → List Int → List Int → List Bool → Option (Int × List Int × List Int × List Bool)
 | 0, _, _, _, _, _, _, _, _, _, _ => none
 | k + 1, x0, x1, x2, x3, x10, x11, K3, K0, K1, K2 => if x11 < x0 then ((x1 x10 x11).bind fun K7 => (if K0.length < 17592186044416 then ((x2 x10 x11).bind fun K8 => (if K1.length < 17592186044416 then ((x3 x10 x11).bind fun K9 => (if K2.length < 140737488355328 then (impl_tabled.l1 k x0 x1 x2 x3 x10 (wrap64 (x11 + 1)) K3 (K0 ++ [K7]) (K1 ++ [K8]) (K2 ++ [K9])) else (none))) else (none))) else (none))) else (impl_tabled.l0 k x0 x1 x2 x3 (wrap64 (x10 + 1)) K3 K0 K1 K2)
end
def impl_tabled.f (k : Nat) (a0 : Int) (x1 : (Int → Int → Option (Int))) (x2 : (Int → Int → Option (Int))) (x3 : (Int → Int → Option (Bool))) : Option (Int × List Int × List Int × List Bool) := impl_tabled.l0 k a0 x1 x2 x3 0 a0 ([] : List Int) ([] : List Int) ([] : List Bool)
def impl_tabled.T8 : Bool × List (List Nat × List Nat) := (true, [([], []), ([0], [0]), ([], []), ([], []), ([], []), ([2, 3, 4], [2, 3, 4]), ([5], [5]), ([1, 6, 5], [1, 6]), ([], []), ([8], [8]), ([], []), ([], []), ([], []), ([10, 11, 12, 7], [10, 11, 12]), ([13], [13]), ([9, 14, 13], [9, 14]), ([], []), ([16], [16]), ([], []), ([], []), ([], []), ([18, 19, 20, 15], [18, 19, 20]), ([21], [21]), ([17, 22, 21], [17, 22]), ([0, 1, 2, 3, 4, 5, 6, 7, 8, 9, 16, 17], []), ([24, 7, 23, 0, 1, 2, 3, 4, 5, 6, 7, 8, 9, 16, 17], [7, 24]), ([0, 1, 2, 3, 4, 5, 6, 7, 8, 9, 10, 11, 12, 13, 14, 15, 16, 17, 24, 25], []), ([26, 15, 25, 0, 1, 2, 3, 4, 5, 6, 7, 8, 9, 10, 11, 12, 13, 14, 15, 16, 17, 24, 25], [15, 26]), ([0, 1, 2, 3, 4, 5, 6, 7, 8, 9, 10, 11, 12, 13, 14, 15, 16, 17, 18, 19, 20, 21, 22, 23, 24, 25, 26, 27], []), ([28, 23, 27, 0, 1, 2, 3, 4, 5, 6, 7, 8, 9, 10, 11, 12, 13, 14, 15, 16, 17, 18, 19, 20, 21, 22, 23, 24, 25, 26, 27], [23, 28])])
def impl_tabled.B8 : List Nat := [0, 1, 0, 0, 0, 28, 60, 127, 0, 256, 0, 0, 0, 7423, 15615, 32767, 0, 65536, 0, 0, 0, 1900543, 3997695, 8388607, 197631, 33554431, 67108863, 134217727, 268435455, 536870911]
theorem impl_tabled.tab8 : rtab .any (opsOf Try.f24 8) = impl_tabled.T8 := by kernel_rfl
theorem impl_tabled.bits8 : waitsOk impl_tabled.T8.2 impl_tabled.B8 = true := by kernel_rfl
set_option maxHeartbeats 8000000 in
set_option maxRecDepth 100000 in
theorem impl_tabled.calls (k : Nat) (a0 : Int) (x1 : (Int → Int → Option (Int))) (K1_ : Nat) (F1_ C1_ : Array Value) (x2 : (Int → Int → Option (Int))) (K2_ : Nat) (F2_ C2_ : Array Value) (x3 : (Int → Int → Option (Bool))) (K3_ : Nat) (F3_ C3_ : Array Value) (r1 : Int) (r2 : List Int) (r3 : List Int) (r4 : List Bool) (w : World) (hG1 : OFn K1_) (hF1 : OC50 w x1 K1_ F1_ C1_) (hG2 : OFn K2_) (hF2 : OC50 w x2 K2_ F2_ C2_) (hG3 : OFn K3_) (hF3 : OC51 w x3 K3_ F3_ C3_) (h : impl_tabled.f k a0 x1 x2 x3 = some (r1, r2, r3, r4)) :
  Calls Try.prog 24 #[.int .i64 a0, .func (.func K1_) F1_ C1_, .func (.func K2_) F2_ C2_, .func (.func K3_) F3_ C3_] w fun e w' => ∃ v1_ v2_ v3_ : Value, e = .returned (.agg #[.int .i64 r1, v1_, v2_, v3_]) ∧ Kd.R (Kd.int .i64) 3 w' w.heap.size (fun k_ => some k_ ≠ (v2_ : Value).ownBlock) v1_ r2 ∧ Kd.R (Kd.int .i64) 3 w' w.heap.size (fun k_ => some k_ ≠ (v1_ : Value).ownBlock) v2_ r3 ∧ Kd.R Kd.bool 4 w' w.heap.size (fun _ => True) v3_ r4 ∧ Below w.heap.size w w' := by
 have hu27 := Try.underlying27; have HG1 := sd_ hG1; have HF1 := sd_ hF1; clear hG1 hF1; have HG2 := sd_ hG2; have HF2 := sd_ hF2; clear hG2 hF2; have HG3 := sd_ hG3; have HF3 := sd_ hF3; clear hG3 hF3; have HB := sd_ (Below.refl w.heap.size w); have H : (impl_tabled.l0 k a0 x1 x2 x3 0 a0 ([] : List Int) ([] : List Int) ([] : List Bool)) = some (r1, r2, r3, r4) := h; clear h; have H' := sd_ H; clear H; go_enter Try.func24, Try.ntmps24; go_wp2_with (first | ((with_reducible refine gate_dst (N := 8) rfl ?_); refine bx_ (N := 8) (cs := #[.int .i64 0, .slice none 0 0, .slice none 0 0, .slice none 0 0]) (t := 27) ?_; intro Q0 hg w5 hbox hb; have J4 := sd_ (hbox); have X2 := sd_ (gs_ hg (bw0_ HB.out)); have J5 := sd_ (gs_ hg (bw0_ HB.out)); replace HB := sd_ (below_step (bw0_ HB.out) hb); clear hb hbox hg) | ((with_reducible refine gate_dst (N := 9) rfl ?_); refine bx_ (N := 9) (cs := #[.int .i64 0, .slice none 0 0, .slice none 0 0, .slice none 0 0]) (t := 27) ?_; intro K6 hg w6 hbox hb; have J2 := sd_ (hbox); have X3 := sd_ (gs_ hg (bw1_ HB.out J5.out)); have J7 := sd_ (gs_ hg (bw1_ HB.out J5.out)); replace HB := sd_ (below_step (bw1_ HB.out J5.out) hb); have J6 := sd_ (nl_ hg (bl_ J4.out)); have J8 := sd_ (ng_ hg (bl_ J4.out)); replace J4 := sd_ (bb_ J4.out hb); clear hb hbox hg; have V6 := J8.out; have V7 := J6.out; obtain ⟨Q9, Z0, Z1, Z2, Z3, Z4, Z5, Z6⟩ := bf4_ J2.out))
 go_loopg [10] k (fun kq v10 w' => ∃ (x10_1 : Int) (x198001_1 : List Int) (x198002_1 : List Int) (x198003_1 : List Bool) (u198001 : Value) (u198002 : Value) (u198003 : Value), v10 = .int .i64 x10_1 ∧ Aside0 (impl_tabled.l0 kq a0 x1 x2 x3 x10_1 a0 x198001_1 x198002_1 x198003_1 = some (r1, r2, r3, r4)) ∧ Aside0 (kq ≤ k) ∧ Aside0 (Kd.R (Kd.int .i64) 3 w' w.heap.size (fun k_ => some k_ ≠ (u198002 : Value).ownBlock) u198001 x198001_1) ∧ Aside0 (Kd.R (Kd.int .i64) 3 w' w.heap.size (fun k_ => some k_ ≠ (u198001 : Value).ownBlock) u198002 x198002_1) ∧ Aside0 (Kd.R Kd.bool 4 w' w.heap.size (fun _ => True) u198003 x198003_1) ∧ Aside0 (w'.heap[Q0]? = some (.cells #[.int .i64 0, (.slice none 0 0), (.slice none 0 0), (.slice none 0 0)] 27 (0, 0))) ∧ Aside0 (w'.heap[K6]? = some (.cells #[.int .i64 a0, u198001, u198002, u198003] 27 (0, 0))) ∧ Aside0 (Below w.heap.size w w'))
 case atStart => exact ⟨(0), (([] : List Int)), (([] : List Int)), (([] : List Bool)), (.slice none 0 0), (.slice none 0 0), (.slice none 0 0), sm_, H', ⟨Nat.le_refl _⟩, ⟨nn_⟩, ⟨nn_⟩, ⟨nn_⟩, ⟨by exact zf1_ J4.out J6.out⟩, ⟨by exact b4_ J2.out⟩, ⟨bw2_ HB.out J5.out J7.out⟩⟩
 case round =>
  clear H'; (try clear c2); (try clear p2); (try clear c7); (try clear Q9 Z0 Z1 Z2 Z3 Z4 Z5 Z6); obtain ⟨x10_1, x198001_1, x198002_1, x198003_1, u198001, u198002, u198003, rfl, HA, HK1, J3, J1, J0, J4, J2, HB⟩ := hrel
  cases gk with
  | zero => exact absurd HA.out (by simp [impl_tabled.l0])
  | succ k1 =>
   have H := HA.out; clear HA; simp only [impl_tabled.l0] at H; revert H; refine ic_ (fun c9b0 H => ?_) (fun c9b0 H => ?_)
   ·have H' := sd_ H; clear H; go_wp2
    go_loopg [11] k1 (fun kq v11 w' => ∃ (x11_2 : Int) (x198001_2 : List Int) (x198002_2 : List Int) (x198003_2 : List Bool) (u198001 : Value) (u198002 : Value) (u198003 : Value), v11 = .int .i64 x11_2 ∧ Aside0 (impl_tabled.l1 kq a0 x1 x2 x3 x10_1 x11_2 a0 x198001_2 x198002_2 x198003_2 = some (r1, r2, r3, r4)) ∧ Aside0 (kq ≤ k1) ∧ Aside0 (Kd.R (Kd.int .i64) 3 w' w.heap.size (fun k_ => some k_ ≠ (u198002 : Value).ownBlock) u198001 x198001_2) ∧ Aside0 (Kd.R (Kd.int .i64) 3 w' w.heap.size (fun k_ => some k_ ≠ (u198001 : Value).ownBlock) u198002 x198002_2) ∧ Aside0 (Kd.R Kd.bool 4 w' w.heap.size (fun _ => True) u198003 x198003_2) ∧ Aside0 (w'.heap[Q0]? = some (.cells #[.int .i64 0, (.slice none 0 0), (.slice none 0 0), (.slice none 0 0)] 27 (0, 0))) ∧ Aside0 (w'.heap[K6]? = some (.cells #[.int .i64 a0, u198001, u198002, u198003] 27 (0, 0))) ∧ Aside0 (Below w.heap.size w w'))
    case atStart => exact ⟨(0), (x198001_1), (x198002_1), (x198003_1), (u198001), (u198002), (u198003), sm_, H', ⟨Nat.le_refl _⟩, ⟨ro_ J3.out⟩, ⟨ro_ J1.out⟩, ⟨ro_ J0.out⟩, ⟨bz_ J4.out⟩, ⟨bz_ J2.out⟩, ⟨bw2_ HB.out J5.out J7.out⟩⟩
    case round =>
     clear H'; (try clear c2); (try clear p2); (try clear c7); (try clear c9); (try clear c9b0); (try clear Q9 Z0 Z1 Z2 Z3 Z4 Z5 Z6); (try clear p2); obtain ⟨x11_2, x198001_2, x198002_2, x198003_2, u198001, u198002, u198003, rfl, HA, HK2, J3, J1, J0, J4, J2, HB⟩ := hrel
     cases gk with
     | zero => exact absurd HA.out (by simp [impl_tabled.l1])
     | succ k2 =>
      have H := HA.out; clear HA; simp only [impl_tabled.l1] at H; revert H; refine ic_ (fun Z7 H => ?_) (fun Z7 H => ?_)
      ·revert H; refine ob_ fun K7 A11 H => ?_
       revert H; refine il_ fun LMc12 H => ?_
       generalize Q2 : (x198001_2 ++ [K7] : List Int) = Q1 at H; have Z8 := sd_ Q2.symm; clear Q2
       revert H; refine ob_ fun K8 A13 H => ?_
       revert H; refine il_ fun LMc14 H => ?_
       generalize Q3 : (x198002_2 ++ [K8] : List Int) = Q6 at H; have Z9 := sd_ Q3.symm; clear Q3
       revert H; refine ob_ fun K9 A15 H => ?_
       revert H; refine il_ fun LMc16 H => ?_
       generalize Q4 : (x198003_2 ++ [K9] : List Bool) = Y0 at H; have Y1 := sd_ Q4.symm; clear Q4; have H' := sd_ H; clear H
       try go_wp2
       replace J3 := sd_ (Kd.R_drew J3.out); replace J1 := sd_ (Kd.R_drew J1.out); replace J0 := sd_ (Kd.R_drew J0.out); replace J4 := sd_ (blk_drew J4.out); replace J2 := sd_ (blk_drew J2.out); replace HB := sd_ (below_drew1 HB.out); refine start_ (n := 30) (S := fun w' => c4_ K6 (.int .i64 a0) (u198001) (u198002) (u198003) w') (ds := [25, 27, 29]) #[false, false, false, false, false, false, false, false, false, false, false, false, false, false, false, false, false, false, false, false, false, false, false, false, false, false, false, false, false, false] (by kernel_rfl) rfl rfl (bc4_ J2.out) (fun hHeld => ?_); refine with_tabW impl_tabled.tab8 impl_tabled.bits8 (fun HT_ HW_ => ?_); generalize wr.drew = w17 at J3 J1 J0 J4 J2 HB hHeld ⊢; refine pv_ 0 rfl rfl (any_of HT_.out (by kernel_rfl)) ?_; refine pv_ 2 rfl rfl (any_of HT_.out (by kernel_rfl)) ?_; refine pv_ 3 rfl rfl (any_of HT_.out (by kernel_rfl)) ?_; refine pv_ 4 rfl rfl (any_of HT_.out (by kernel_rfl)) ?_; refine pv_ 8 rfl rfl (any_of HT_.out (by kernel_rfl)) ?_; refine pv_ 10 rfl rfl (any_of HT_.out (by kernel_rfl)) ?_; refine pv_ 11 rfl rfl (any_of HT_.out (by kernel_rfl)) ?_; refine pv_ 12 rfl rfl (any_of HT_.out (by kernel_rfl)) ?_; refine pv_ 16 rfl rfl (any_of HT_.out (by kernel_rfl)) ?_; refine pv_ 18 rfl rfl (any_of HT_.out (by kernel_rfl)) ?_; refine pv_ 19 rfl rfl (any_of HT_.out (by kernel_rfl)) ?_; refine pv_ 20 rfl rfl (any_of HT_.out (by kernel_rfl)) ?_; refine tk_ 1 rfl rfl (take_ofW HT_.out HW_.out (by kernel_rfl)) hHeld (by rintro w' ⟨s0, s1, s2, s3⟩; go_simp; with_reducible rfl) ?_; refine tk_ 9 rfl rfl (take_ofW HT_.out HW_.out (by kernel_rfl)) hHeld (by rintro w' ⟨s0, s1, s2, s3⟩; go_simp; with_reducible rfl) ?_; refine tk_ 17 rfl rfl (take_ofW HT_.out HW_.out (by kernel_rfl)) hHeld (by rintro w' ⟨s0, s1, s2, s3⟩; go_simp; with_reducible rfl) ?_
       refine on_ 5 rfl rfl (one_of HT_.out (by kernel_rfl)) fun K hK => ?_
       refine goesO_ HG1.out #[.int .i64 x10_1, .int .i64 x11_2] (by rfl) rfl rfl la_ rfl ?_
       with_reducible refine (HF1.out x10_1 x11_2 K7 _ ?side1 A11.out).mono ?_
       (case side1 => exact (bw2_ HB.out J5.out J7.out)); rintro e w18 ⟨rfl, hb⟩; refine ⟨_, rfl, ?_⟩; replace J3 := sd_ (Kd.R_below (ro_ J3.out) hb); replace J1 := sd_ (Kd.R_below (ro_ J1.out) hb); replace J0 := sd_ (Kd.R_below (ro_ J0.out) hb); replace J4 := sd_ (bb_ J4.out hb); replace J2 := sd_ (bb_ J2.out hb); replace HB := sd_ (below_step (bw2_ HB.out J5.out J7.out) hb); (try clear hb); (try clear hb2); (try clear hk); (try clear hi); refine hK.out _ _ (bc4_ J2.out) (fun hHeld => ?_); clear hK K; refine nm_ ?_
       refine on_ 6 rfl rfl (one_of HT_.out (by kernel_rfl)) fun K hK => ?_
       refine value_ (w1 := ?_) (v := ?_) (by rfl) rfl ?_ ?_; rotate_left 2
       ·go_simp; constructor
        ·rfl
        rfl
       refine hK.out _ _ (bc4_ (blk_alloc J2.out _)) (fun hHeld => ?_); clear hK K; refine nm_ ?_
       refine on_ 7 rfl rfl (one_of HT_.out (by kernel_rfl)) fun K hK => ?_
       refine Kd.R_append_step (Kd.int .i64) (w0 := w) w.heap.size (by rfl) (.tmp 25) (.tmp 30) 24 3 (.int .i64 0) 8 rfl Try.underlying24 info3 rfl (by decide) (by omega) u198001 x198001_2 K7 [.int .i64 K7] (fun k_ => some k_ ≠ (u198002 : Value).ownBlock) (fun _ => False) rfl rfl ?aP (fun _ hk => hk.elim) ?aF ?aO ?aB ?aS ?aL ?_; (case aP => exact rfl); (case aB => exact (bw2_ HB.out J5.out J7.out)); (case aF => exact (fun k_ hk => Kd.fresh' (Kd.R_lt (ro_ J1.out)) k_ hk)); (case aO => exact (ro_ J3.out)); (case aS => exact (below_size (bw2_ HB.out J5.out J7.out))); (case aL => have := LMc12.out; omega); intro v200 w19 ho hb hg hat; rw [← Z8.out] at ho; have n0_ := sd_ (Kd.R_after (ok := (fun _ => True)) (rw_ J1.out) hg hat); have n1_ := sd_ (Kd.R_over' (ro_ J0.out) (Kd.R_typed (ro_ J3.out)) (by decide) hg); have n2_ := sd_ (bg_ J4.out J3.out hg); have n3_ := sd_ (bg_ J2.out J3.out hg); have n4_ := sd_ (hb); have n5_ := sd_ (ho); clear J1; clear J0; clear J4; clear J2; clear HB; clear J3; have J1 := n0_; have J0 := n1_; have J4 := n2_; have J2 := n3_; have HB := n4_; have J9 := n5_; clear n0_ n1_ n2_ n3_ n4_ n5_; clear ho hb hg hat; refine hK.out _ _ (bc4_ J2.out) (fun hHeld => ?_); clear hK K; refine nm_ ?_; refine pv_ 24 rfl rfl (any_of HT_.out (by kernel_rfl)) ?_
       refine on_ 13 rfl rfl (one_of HT_.out (by kernel_rfl)) fun K hK => ?_
       refine goesO_ HG2.out #[.int .i64 x10_1, .int .i64 x11_2] (by rfl) rfl rfl la_ rfl ?_
       with_reducible refine (HF2.out x10_1 x11_2 K8 _ ?side1 A13.out).mono ?_
       (case side1 => exact (bw2_ HB.out J5.out J7.out)); rintro e w20 ⟨rfl, hb⟩; refine ⟨_, rfl, ?_⟩; replace J1 := sd_ (Kd.R_below (ro_ J1.out) hb); replace J0 := sd_ (Kd.R_below (ro_ J0.out) hb); replace J9 := sd_ (Kd.R_below (ro_ J9.out) hb); replace J4 := sd_ (bb_ J4.out hb); replace J2 := sd_ (bb_ J2.out hb); replace HB := sd_ (below_step (bw2_ HB.out J5.out J7.out) hb); (try clear hb); (try clear hb2); (try clear hk); (try clear hi); refine hK.out _ _ (bc4_ J2.out) (fun hHeld => ?_); clear hK K; refine nm_ ?_
       refine on_ 14 rfl rfl (one_of HT_.out (by kernel_rfl)) fun K hK => ?_
       refine value_ (w1 := ?_) (v := ?_) (by rfl) rfl ?_ ?_; rotate_left 2
       ·go_simp; constructor
        ·rfl
        rfl
       refine hK.out _ _ (bc4_ (blk_alloc J2.out _)) (fun hHeld => ?_); clear hK K; refine nm_ ?_
       refine on_ 15 rfl rfl (one_of HT_.out (by kernel_rfl)) fun K hK => ?_
       refine Kd.R_append_step (Kd.int .i64) (w0 := w) w.heap.size (by rfl) (.tmp 33) (.tmp 38) 24 3 (.int .i64 0) 8 rfl Try.underlying24 info3 rfl (by decide) (by omega) u198002 x198002_2 K8 [.int .i64 K8] (fun k_ => some k_ ≠ (v200 : Value).ownBlock) (fun _ => False) rfl rfl ?aP (fun _ hk => hk.elim) ?aF ?aO ?aB ?aS ?aL ?_; (case aP => exact rfl); (case aB => exact (bw2_ HB.out J5.out J7.out)); (case aF => exact (fun k_ hk => Kd.fresh' (Kd.R_lt (ro_ J9.out)) k_ hk)); (case aO => exact (rw_ J1.out)); (case aS => exact (below_size (bw2_ HB.out J5.out J7.out))); (case aL => have := LMc14.out; omega); intro v204 w21 ho hb hg hat; rw [← Z9.out] at ho; have n0_ := sd_ (Kd.R_over' (ro_ J0.out) (Kd.R_typed (ro_ J1.out)) (by decide) hg); have n1_ := sd_ (bg_ J4.out J1.out hg); have n2_ := sd_ (bg_ J2.out J1.out hg); have n3_ := sd_ (Kd.R_after (ok := (fun _ => True)) (rw_ J9.out) hg hat); have n4_ := sd_ (hb); have n5_ := sd_ (ho); clear J0; clear J4; clear J2; clear J9; clear HB; clear J1; have J0 := n0_; have J4 := n1_; have J2 := n2_; have J9 := n3_; have HB := n4_; have K5 := n5_; clear n0_ n1_ n2_ n3_ n4_ n5_; clear ho hb hg hat; refine hK.out _ _ (bc4_ J2.out) (fun hHeld => ?_); clear hK K; refine nm_ ?_
       refine on_ 21 rfl rfl (one_of HT_.out (by kernel_rfl)) fun K hK => ?_
       refine goesO_ HG3.out #[.int .i64 x10_1, .int .i64 x11_2] (by rfl) rfl rfl la_ rfl ?_
       with_reducible refine (HF3.out x10_1 x11_2 K9 _ ?side1 A15.out).mono ?_
       (case side1 => exact (bw2_ HB.out J5.out J7.out)); rintro e w22 ⟨rfl, hb⟩; refine ⟨_, rfl, ?_⟩; replace J0 := sd_ (Kd.R_below (ro_ J0.out) hb); replace J9 := sd_ (Kd.R_below (ro_ J9.out) hb); replace K5 := sd_ (Kd.R_below (ro_ K5.out) hb); replace J4 := sd_ (bb_ J4.out hb); replace J2 := sd_ (bb_ J2.out hb); replace HB := sd_ (below_step (bw2_ HB.out J5.out J7.out) hb); (try clear hb); (try clear hb2); (try clear hk); (try clear hi); refine hK.out _ _ (bc4_ J2.out) (fun hHeld => ?_); clear hK K; refine nm_ ?_
       refine on_ 22 rfl rfl (one_of HT_.out (by kernel_rfl)) fun K hK => ?_
       refine value_ (w1 := ?_) (v := ?_) (by rfl) rfl ?_ ?_; rotate_left 2
       ·go_simp; constructor
        ·rfl
        rfl
       refine hK.out _ _ (bc4_ (blk_alloc J2.out _)) (fun hHeld => ?_); clear hK K; refine nm_ ?_
       refine on_ 23 rfl rfl (one_of HT_.out (by kernel_rfl)) fun K hK => ?_
       refine Kd.R_append_step Kd.bool (w0 := w) w.heap.size (by rfl) (.tmp 41) (.tmp 46) 25 4 (.bool false) 1 rfl Try.underlying25 info4 rfl (by decide) (by omega) u198003 x198003_2 K9 [.bool K9] (fun _ => True) (fun _ => False) rfl rfl ?aP (fun _ hk => hk.elim) ?aF ?aO ?aB ?aS ?aL ?_; (case aP => exact rfl); (case aB => exact (bw2_ HB.out J5.out J7.out)); (case aF => exact (fun _ _ => trivial)); (case aO => exact (ro_ J0.out)); (case aS => exact (below_size (bw2_ HB.out J5.out J7.out))); (case aL => have := LMc16.out; omega); intro v208 w23 ho hb hg hat; rw [← Y1.out] at ho; have n0_ := sd_ (bg_ J4.out J0.out hg); have n1_ := sd_ (bg_ J2.out J0.out hg); have n2_ := sd_ (Kd.R_over' (ro_ J9.out) (Kd.R_typed (ro_ J0.out)) (by decide) hg); have n3_ := sd_ (Kd.R_over' (ro_ K5.out) (Kd.R_typed (ro_ J0.out)) (by decide) hg); have n4_ := sd_ (hb); have n5_ := sd_ (ho); clear J4; clear J2; clear J9; clear K5; clear HB; clear J0; have J4 := n0_; have J2 := n1_; have J9 := n2_; have K5 := n3_; have HB := n4_; have Q5 := n5_; clear n0_ n1_ n2_ n3_ n4_ n5_; clear ho hb hg hat; obtain ⟨Q7, Q8, eo24⟩ := Kd.R_slice J9.out; (first | subst eo24 | (injection eo24 with f1_ f2_ f3_; have f4_ := f1_.symm; have f5_ := f3_.symm; clear f1_ f2_ f3_; subst f4_; subst f5_)); obtain ⟨Y2, Y3, eo26⟩ := Kd.R_slice K5.out; (first | subst eo26 | (injection eo26 with f1_ f2_ f3_; have f4_ := f1_.symm; have f5_ := f3_.symm; clear f1_ f2_ f3_; subst f4_; subst f5_)); obtain ⟨Y4, Y5, eo28⟩ := Kd.R_slice Q5.out; (first | subst eo28 | (injection eo28 with f1_ f2_ f3_; have f4_ := f1_.symm; have f5_ := f3_.symm; clear f1_ f2_ f3_; subst f4_; subst f5_)); refine hK.out _ _ (bc4_ J2.out) (fun hHeld => ?_); clear hK K; refine nm_ ?_; refine last_ (i := 25) (N := none) #[true, true, true, true, true, true, true, true, true, true, true, true, true, true, true, true, true, true, true, true, true, true, true, true, true, true, false, false, false, false] rfl rfl (one_of HT_.out (by kernel_rfl)) (by decide) (fun K hK => ?_); have hs25 : w23.cell? ⟨K6, 1, none⟩ = some (u198001) := bk_ J2 1; have hfs25 := blk_frozen J2.out 1; have hns25_0 := J6.out; have hms25_0 := J8.out; refine skip_ (w1 := ?_) (by rfl) rfl ?_ ?_; rotate_left
       ·go_simp; rfl
       refine hK.out _ _ ?_; clear hK K; refine pv_ 26 rfl rfl (any_of HT_.out (by kernel_rfl)) ?_; refine last_ (i := 27) (N := none) #[true, true, true, true, true, true, true, true, true, true, true, true, true, true, true, true, true, true, true, true, true, true, true, true, true, true, true, true, false, false] rfl rfl (one_of HT_.out (by kernel_rfl)) (by decide) (fun K hK => ?_); have hs27 : w23.cell? ⟨K6, 2, none⟩ = some (u198002) := bk_ J2 2; have hfs27 := blk_frozen J2.out 2; have hns27_0 := J6.out; have hms27_0 := J8.out; refine skip_ (w1 := ?_) (by rfl) rfl ?_ ?_; rotate_left
       ·go_simp; rfl
       refine hK.out _ _ ?_; clear hK K; refine pv_ 28 rfl rfl (any_of HT_.out (by kernel_rfl)) ?_; refine last_ (i := 29) (N := none) #[true, true, true, true, true, true, true, true, true, true, true, true, true, true, true, true, true, true, true, true, true, true, true, true, true, true, true, true, true, true] rfl rfl (one_of HT_.out (by kernel_rfl)) (by decide) (fun K hK => ?_); have hs29 : w23.cell? ⟨K6, 3, none⟩ = some (u198003) := bk_ J2 3; have hfs29 := blk_frozen J2.out 3; have hns29_0 := J6.out; have hms29_0 := J8.out; refine skip_ (w1 := ?_) (by rfl) rfl ?_ ?_; rotate_left
       ·go_simp; rfl
       refine hK.out _ _ ?_; clear hK K; refine done_ (done_of HT_.out (by kernel_rfl)) ?_
       try go_wp2
       go_roundg k2
       case measure => have := HK1.out; have := HK2.out; omega
       case rel => exact ⟨(wrap64 (x11_2 + 1)), (Q1), (Q6), (Y0), (.slice Q7 Q1.length Q8), (.slice Y2 Q6.length Y3), (.slice Y4 Y0.length Y5), sm_, H', ⟨by have := HK1.out; have := HK2.out; omega⟩, ⟨rm_ J9.out J2.out⟩, ⟨rf_ K5.out J2.out⟩, ⟨rm_ Q5.out J2.out⟩, ⟨by exact zf1_ J4.out J6.out⟩, ⟨by (with_reducible repeat (first | refine blk_drewN ?_ _ | refine blk_drew ?_ | refine blk_alloc ?_ _)); refine blk_put (cs := #[.int .i64 a0, .slice Q7 Q1.length Q8, .slice Y2 Q6.length Y3, u198003]) ?_ 3 _ rfl; (with_reducible repeat (first | refine blk_drewN ?_ _ | refine blk_drew ?_ | refine blk_alloc ?_ _)); refine blk_put (cs := #[.int .i64 a0, .slice Q7 Q1.length Q8, u198002, u198003]) ?_ 2 _ rfl; (with_reducible repeat (first | refine blk_drewN ?_ _ | refine blk_drew ?_ | refine blk_alloc ?_ _)); refine blk_put (cs := #[.int .i64 a0, u198001, u198002, u198003]) ?_ 1 _ rfl; exact bz_ J2.out⟩, ⟨bw2_ HB.out J5.out J7.out⟩⟩
      have H' := sd_ H; clear H; go_wp2; go_roundg k2
      case measure => have := HK1.out; have := HK2.out; omega
      case rel => exact ⟨(wrap64 (x10_1 + 1)), (x198001_2), (x198002_2), (x198003_2), (u198001), (u198002), (u198003), sm_, H', ⟨by have := HK1.out; have := HK2.out; omega⟩, ⟨ro_ J3.out⟩, ⟨ro_ J1.out⟩, ⟨ro_ J0.out⟩, ⟨bz_ J4.out⟩, ⟨bz_ J2.out⟩, ⟨bw2_ HB.out J5.out J7.out⟩⟩
   simp only [Option.some.injEq, Prod.mk.injEq] at H; obtain ⟨rfl, rfl, rfl, rfl⟩ := H; have X4 := J8.out; have X5 := J6.out; obtain ⟨X6, X7, X8, X9, W0, W5, W6, W7⟩ := bf4_ J2.out; obtain ⟨W8, W9, V0, V1, V2, V3, V4, V5⟩ := bf4_ J4.out; obtain ⟨Y6, Y7, eo33⟩ := Kd.R_slice J3.out; subst eo33; obtain ⟨Y8, Y9, eo34⟩ := Kd.R_slice J1.out; subst eo34; obtain ⟨X0, X1, eo35⟩ := Kd.R_slice J0.out; subst eo35; go_wp2; refine bodyPost_ret (results_cell_row rfl _ _ Q0 27 #[.int .i64 a0, .slice Y6 x198001_1.length Y7, .slice Y8 x198002_1.length Y9, .slice X0 x198003_1.length X1] (0, 0) _ rfl (by exact b4_ J4.out) Try.underlying27 rfl (by kernel_rfl)) rfl ?_; exact ⟨_, _, _, an_, rf_ J3.out J4.out, rf_ J1.out J4.out, rm_ J0.out J4.out, bw2_ HB.out J5.out J7.out⟩


def impl_LevelSystem_2.f (a0 : Int) (a1 : Int) (x2_0 : (Int → Option (Int))) : Option (Int) := (x2_0 a0).bind fun J0 => ((x2_0 a1).bind fun J1 => ((x2_0 (mx J0 J1)).bind fun J2 => (some J2)))
def impl_LevelSystem_2.T1 : Bool × List (List Nat × List Nat) := (true, [([], []), ([], []), ([], []), ([1, 2], [1, 2]), ([], []), ([], []), ([4, 5, 3], [4, 5]), ([3, 6], [3, 6]), ([0, 7, 6], [0, 7]), ([8, 8, 0, 1, 2, 3, 4, 5, 6, 7, 8], [8])])
def impl_LevelSystem_2.B1 : List Nat := [0, 0, 0, 6, 0, 0, 62, 126, 255, 511]
theorem impl_LevelSystem_2.tab1 : rtab .any (opsOf Try.f25 1) = impl_LevelSystem_2.T1 := by kernel_rfl
theorem impl_LevelSystem_2.bits1 : waitsOk impl_LevelSystem_2.T1.2 impl_LevelSystem_2.B1 = true := by kernel_rfl
set_option maxHeartbeats 8000000 in
set_option maxRecDepth 100000 in
theorem impl_LevelSystem_2.calls (a0 : Int) (a1 : Int) (g2 : Nat) (x2_0 : (Int → Option (Int))) (K2_0_ : Nat) (F2_0_ C2_0_ : Array Value) (r : Int) (w : World) (hG2_0 : OFn K2_0_) (hF2_0 : OC48 w x2_0 K2_0_ F2_0_ C2_0_) (hb2 : w.heap[g2]? = some (.cells #[.func (.func K2_0_) F2_0_ C2_0_] 48 (0, 0))) (h : impl_LevelSystem_2.f a0 a1 x2_0 = some r) :
  Calls Try.prog 25 #[.int .i64 a0, .int .i64 a1, .pointer (some ⟨g2, 0, none⟩)] w fun e w' => e = .returned (.int .i64 r) ∧ Below w.heap.size w w' := by
 have HG2_0 := sd_ hG2_0; have HF2_0 := sd_ hF2_0; clear hG2_0 hF2_0; have BK2 := sd_ hb2; clear hb2; have HB := sd_ (Below.refl w.heap.size w); have H : ((x2_0 a0).bind fun J0 => ((x2_0 a1).bind fun J1 => ((x2_0 (mx J0 J1)).bind fun J2 => (some J2)))) = some r := h; clear h
 revert H; refine ob_ fun J0 A4 H => ?_
 revert H; refine ob_ fun J1 A5 H => ?_
 obtain ⟨ji6, hji6⟩ : ∃ j_ : Int, (mx J0 J1) = j_ := ⟨_, rfl⟩
 replace H : ((x2_0 (ji6)).bind fun J2 => (some J2)) = some r := by first | (rw [hji6] at H; exact H) | (simp only [hji6] at H ⊢; exact H)
 (try rw [hji6] at A4); (try rw [hji6] at A5); have hji6_ : (if J0 < J1 then J1 else J0) = ji6 := hji6
 revert H; refine ob_ fun J2 A7 H => ?_
 obtain rfl := Option.some.inj H; go_enter Try.func25, Try.ntmps25
 try go_wp2
 replace BK2 := sd_ (blk_drew BK2.out); replace HB := sd_ (below_drew1 HB.out); refine start_ (n := 10) (S := fun w' => w'.cell? ⟨g2, 0, none⟩ = some (.func (.func K2_0_) F2_0_ C2_0_)) (ds := []) #[false, false, false, false, false, false, false, false, false, false] (by kernel_rfl) rfl rfl (bk_ BK2 0) (fun hHeld => ?_); refine with_tabW impl_LevelSystem_2.tab1 impl_LevelSystem_2.bits1 (fun HT_ HW_ => ?_); generalize w.drew = w8 at BK2 HB hHeld ⊢; refine pv_ 2 rfl rfl (any_of HT_.out (by kernel_rfl)) ?_; refine pv_ 5 rfl rfl (any_of HT_.out (by kernel_rfl)) ?_; refine take_ (i := 0) (N := some 6) (v := ?_) (a' := ?_) #[true, false, true, false, false, true, false, false, false, false] rfl rfl (take_ofW HT_.out HW_.out (by kernel_rfl)) (fun _ _ _ h => h) (Or.inl ⟨by rfl, ?_⟩) hHeld ?_ ?_; rotate_left
 ·intro w' s0; go_simp
  with_reducible rfl
 rotate_left
 ·simp only [Act.put, List.setIfInBounds_toArray, List.set_cons_zero, List.set_cons_succ, i64_w, i32_w]; rfl
 refine take_ (i := 1) (N := some 7) (v := ?_) (a' := ?_) #[true, true, true, false, false, true, false, false, false, false] rfl rfl (take_ofW HT_.out HW_.out (by kernel_rfl)) (fun _ _ _ h => h) (Or.inl ⟨by rfl, ?_⟩) hHeld ?_ ?_; rotate_left
 ·intro w' s0; go_simp
  with_reducible rfl
 rotate_left
 ·simp only [Act.put, List.setIfInBounds_toArray, List.set_cons_zero, List.set_cons_succ, i64_w, i32_w]; rfl
 refine take_ (i := 4) (N := some 10) (v := ?_) (a' := ?_) #[true, true, true, false, true, true, false, false, false, false] rfl rfl (take_ofW HT_.out HW_.out (by kernel_rfl)) (fun _ _ _ h => h) (Or.inl ⟨by rfl, ?_⟩) hHeld ?_ ?_; rotate_left
 ·intro w' s0; go_simp
  with_reducible rfl
 rotate_left
 ·simp only [Act.put, List.setIfInBounds_toArray, List.set_cons_zero, List.set_cons_succ, i64_w, i32_w]; rfl
 refine on_ 3 rfl rfl (one_of HT_.out (by kernel_rfl)) fun K hK => ?_
 refine goesO_ HG2_0.out #[.int .i64 a0] (by rfl) rfl rfl la_ rfl ?_
 with_reducible refine (HF2_0.out a0 J0 _ ?side1 A4.out).mono ?_
 (case side1 => exact (bw0_ HB.out)); rintro e w9 ⟨rfl, hb⟩; refine ⟨_, rfl, ?_⟩; replace BK2 := sd_ (bb_ BK2.out hb); replace HB := sd_ (below_step (bw0_ HB.out) hb); (try clear hb); (try clear hb2); (try clear hk); (try clear hi); refine hK.out _ _ (bk_ BK2 0) (fun hHeld => ?_); clear hK K; refine nm_ ?_
 refine on_ 6 rfl rfl (one_of HT_.out (by kernel_rfl)) fun K hK => ?_
 refine goesO_ HG2_0.out #[.int .i64 a1] (by rfl) rfl rfl la_ rfl ?_
 with_reducible refine (HF2_0.out a1 J1 _ ?side1 A5.out).mono ?_
 (case side1 => exact (bw0_ HB.out)); rintro e w10 ⟨rfl, hb⟩; refine ⟨_, rfl, ?_⟩; replace BK2 := sd_ (bb_ BK2.out hb); replace HB := sd_ (below_step (bw0_ HB.out) hb); (try clear hb); (try clear hb2); (try clear hk); (try clear hi); refine hK.out _ _ (bk_ BK2 0) (fun hHeld => ?_); clear hK K; refine nm_ ?_; refine pv_ 7 rfl rfl (any_of HT_.out (by kernel_rfl)) ?_
 refine on_ 8 rfl rfl (one_of HT_.out (by kernel_rfl)) fun K hK => ?_
 refine goesO_ HG2_0.out #[.int .i64 ji6] (by rfl) rfl rfl (by (try simp only [List.map_toArray, List.map_cons, List.map_nil]); first | done | (simp only [hji6]; rfl) | rfl | (simp only [List.length_drop, List.length_take]; rfl)) rfl ?_
 with_reducible refine (HF2_0.out ji6 J2 _ ?side1 A7.out).mono ?_
 (case side1 => exact (bw0_ HB.out)); rintro e w11 ⟨rfl, hb⟩; refine ⟨_, rfl, ?_⟩; replace BK2 := sd_ (bb_ BK2.out hb); replace HB := sd_ (below_step (bw0_ HB.out) hb); (try clear hb); (try clear hb2); (try clear hk); (try clear hi); refine hK.out _ _ (bk_ BK2 0) (fun hHeld => ?_); clear hK K; refine nm_ ?_; refine pv_ 9 rfl rfl (any_of HT_.out (by kernel_rfl)) ?_; refine done_ (done_of HT_.out (by kernel_rfl)) ?_
 try go_wp2
 go_ret; exact ⟨by first | rfl | (simp [errW_none, errW_some] <;> rfl) | (simp only [← hji6]; first | rfl | (simp [errW_none, errW_some] <;> rfl)) | (simp [*, errW_none, errW_some] <;> rfl), bw0_ HB.out⟩


def impl_LevelSystem_3.f (a0 : Int) (a1 : Int) (x2_0 : (Int → Option (Int))) : Option (Int) := (x2_0 a0).bind fun J0 => ((x2_0 a1).bind fun J1 => ((x2_0 (mn J0 J1)).bind fun J2 => (some J2)))
def impl_LevelSystem_3.T1 : Bool × List (List Nat × List Nat) := (true, [([], []), ([], []), ([], []), ([1, 2], [1, 2]), ([], []), ([], []), ([4, 5, 3], [4, 5]), ([3, 6], [3, 6]), ([0, 7, 6], [0, 7]), ([8, 8, 0, 1, 2, 3, 4, 5, 6, 7, 8], [8])])
def impl_LevelSystem_3.B1 : List Nat := [0, 0, 0, 6, 0, 0, 62, 126, 255, 511]
theorem impl_LevelSystem_3.tab1 : rtab .any (opsOf Try.f26 1) = impl_LevelSystem_3.T1 := by kernel_rfl
theorem impl_LevelSystem_3.bits1 : waitsOk impl_LevelSystem_3.T1.2 impl_LevelSystem_3.B1 = true := by kernel_rfl
set_option maxHeartbeats 8000000 in
set_option maxRecDepth 100000 in
theorem impl_LevelSystem_3.calls (a0 : Int) (a1 : Int) (g2 : Nat) (x2_0 : (Int → Option (Int))) (K2_0_ : Nat) (F2_0_ C2_0_ : Array Value) (r : Int) (w : World) (hG2_0 : OFn K2_0_) (hF2_0 : OC48 w x2_0 K2_0_ F2_0_ C2_0_) (hb2 : w.heap[g2]? = some (.cells #[.func (.func K2_0_) F2_0_ C2_0_] 48 (0, 0))) (h : impl_LevelSystem_3.f a0 a1 x2_0 = some r) :
  Calls Try.prog 26 #[.int .i64 a0, .int .i64 a1, .pointer (some ⟨g2, 0, none⟩)] w fun e w' => e = .returned (.int .i64 r) ∧ Below w.heap.size w w' := by
 have HG2_0 := sd_ hG2_0; have HF2_0 := sd_ hF2_0; clear hG2_0 hF2_0; have BK2 := sd_ hb2; clear hb2; have HB := sd_ (Below.refl w.heap.size w); have H : ((x2_0 a0).bind fun J0 => ((x2_0 a1).bind fun J1 => ((x2_0 (mn J0 J1)).bind fun J2 => (some J2)))) = some r := h; clear h
 revert H; refine ob_ fun J0 A4 H => ?_
 revert H; refine ob_ fun J1 A5 H => ?_
 obtain ⟨ji6, hji6⟩ : ∃ j_ : Int, (mn J0 J1) = j_ := ⟨_, rfl⟩
 replace H : ((x2_0 (ji6)).bind fun J2 => (some J2)) = some r := by first | (rw [hji6] at H; exact H) | (simp only [hji6] at H ⊢; exact H)
 (try rw [hji6] at A4); (try rw [hji6] at A5); have hji6_ : (if J1 < J0 then J1 else J0) = ji6 := hji6
 revert H; refine ob_ fun J2 A7 H => ?_
 obtain rfl := Option.some.inj H; go_enter Try.func26, Try.ntmps26
 try go_wp2
 replace BK2 := sd_ (blk_drew BK2.out); replace HB := sd_ (below_drew1 HB.out); refine start_ (n := 10) (S := fun w' => w'.cell? ⟨g2, 0, none⟩ = some (.func (.func K2_0_) F2_0_ C2_0_)) (ds := []) #[false, false, false, false, false, false, false, false, false, false] (by kernel_rfl) rfl rfl (bk_ BK2 0) (fun hHeld => ?_); refine with_tabW impl_LevelSystem_3.tab1 impl_LevelSystem_3.bits1 (fun HT_ HW_ => ?_); generalize w.drew = w8 at BK2 HB hHeld ⊢; refine pv_ 2 rfl rfl (any_of HT_.out (by kernel_rfl)) ?_; refine pv_ 5 rfl rfl (any_of HT_.out (by kernel_rfl)) ?_; refine take_ (i := 0) (N := some 6) (v := ?_) (a' := ?_) #[true, false, true, false, false, true, false, false, false, false] rfl rfl (take_ofW HT_.out HW_.out (by kernel_rfl)) (fun _ _ _ h => h) (Or.inl ⟨by rfl, ?_⟩) hHeld ?_ ?_; rotate_left
 ·intro w' s0; go_simp
  with_reducible rfl
 rotate_left
 ·simp only [Act.put, List.setIfInBounds_toArray, List.set_cons_zero, List.set_cons_succ, i64_w, i32_w]; rfl
 refine take_ (i := 1) (N := some 7) (v := ?_) (a' := ?_) #[true, true, true, false, false, true, false, false, false, false] rfl rfl (take_ofW HT_.out HW_.out (by kernel_rfl)) (fun _ _ _ h => h) (Or.inl ⟨by rfl, ?_⟩) hHeld ?_ ?_; rotate_left
 ·intro w' s0; go_simp
  with_reducible rfl
 rotate_left
 ·simp only [Act.put, List.setIfInBounds_toArray, List.set_cons_zero, List.set_cons_succ, i64_w, i32_w]; rfl
 refine take_ (i := 4) (N := some 10) (v := ?_) (a' := ?_) #[true, true, true, false, true, true, false, false, false, false] rfl rfl (take_ofW HT_.out HW_.out (by kernel_rfl)) (fun _ _ _ h => h) (Or.inl ⟨by rfl, ?_⟩) hHeld ?_ ?_; rotate_left
 ·intro w' s0; go_simp
  with_reducible rfl
 rotate_left
 ·simp only [Act.put, List.setIfInBounds_toArray, List.set_cons_zero, List.set_cons_succ, i64_w, i32_w]; rfl
 refine on_ 3 rfl rfl (one_of HT_.out (by kernel_rfl)) fun K hK => ?_
 refine goesO_ HG2_0.out #[.int .i64 a0] (by rfl) rfl rfl la_ rfl ?_
 with_reducible refine (HF2_0.out a0 J0 _ ?side1 A4.out).mono ?_
 (case side1 => exact (bw0_ HB.out)); rintro e w9 ⟨rfl, hb⟩; refine ⟨_, rfl, ?_⟩; replace BK2 := sd_ (bb_ BK2.out hb); replace HB := sd_ (below_step (bw0_ HB.out) hb); (try clear hb); (try clear hb2); (try clear hk); (try clear hi); refine hK.out _ _ (bk_ BK2 0) (fun hHeld => ?_); clear hK K; refine nm_ ?_
 refine on_ 6 rfl rfl (one_of HT_.out (by kernel_rfl)) fun K hK => ?_
 refine goesO_ HG2_0.out #[.int .i64 a1] (by rfl) rfl rfl la_ rfl ?_
 with_reducible refine (HF2_0.out a1 J1 _ ?side1 A5.out).mono ?_
 (case side1 => exact (bw0_ HB.out)); rintro e w10 ⟨rfl, hb⟩; refine ⟨_, rfl, ?_⟩; replace BK2 := sd_ (bb_ BK2.out hb); replace HB := sd_ (below_step (bw0_ HB.out) hb); (try clear hb); (try clear hb2); (try clear hk); (try clear hi); refine hK.out _ _ (bk_ BK2 0) (fun hHeld => ?_); clear hK K; refine nm_ ?_; refine pv_ 7 rfl rfl (any_of HT_.out (by kernel_rfl)) ?_
 refine on_ 8 rfl rfl (one_of HT_.out (by kernel_rfl)) fun K hK => ?_
 refine goesO_ HG2_0.out #[.int .i64 ji6] (by rfl) rfl rfl (by (try simp only [List.map_toArray, List.map_cons, List.map_nil]); first | done | (simp only [hji6]; rfl) | rfl | (simp only [List.length_drop, List.length_take]; rfl)) rfl ?_
 with_reducible refine (HF2_0.out ji6 J2 _ ?side1 A7.out).mono ?_
 (case side1 => exact (bw0_ HB.out)); rintro e w11 ⟨rfl, hb⟩; refine ⟨_, rfl, ?_⟩; replace BK2 := sd_ (bb_ BK2.out hb); replace HB := sd_ (below_step (bw0_ HB.out) hb); (try clear hb); (try clear hb2); (try clear hk); (try clear hi); refine hK.out _ _ (bk_ BK2 0) (fun hHeld => ?_); clear hK K; refine nm_ ?_; refine pv_ 9 rfl rfl (any_of HT_.out (by kernel_rfl)) ?_; refine done_ (done_of HT_.out (by kernel_rfl)) ?_
 try go_wp2
 go_ret; exact ⟨by first | rfl | (simp [errW_none, errW_some] <;> rfl) | (simp only [← hji6]; first | rfl | (simp [errW_none, errW_some] <;> rfl)) | (simp [*, errW_none, errW_some] <;> rfl), bw0_ HB.out⟩


def impl_IsMap_1.f (a0 : Int) (a1_0 : Int) (l1_1 : List Int) (l1_2 : List Int) (l1_3 : List Bool) : Option (Bool) := (impl_System_has.f a1_0 l1_1 l1_2 l1_3 a0).bind fun J0 => (some (!J0))
set_option maxHeartbeats 8000000 in
set_option maxRecDepth 100000 in
theorem impl_IsMap_1.calls (a0 : Int) (g1 : Nat) (a1_0 : Int) (A1_1 : Option Addr) (c1_1 : Nat) (l1_1 : List Int) (A1_2 : Option Addr) (c1_2 : Nat) (l1_2 : List Int) (A1_3 : Option Addr) (c1_3 : Nat) (l1_3 : List Bool) (r : Bool) (w : World) (hr1_1 : Kd.C (Kd.int .i64) w A1_1 l1_1.length l1_1) (hc1_1 : l1_1.length ≤ c1_1) (hr1_2 : Kd.C (Kd.int .i64) w A1_2 l1_2.length l1_2) (hc1_2 : l1_2.length ≤ c1_2) (hr1_3 : Kd.C Kd.bool w A1_3 l1_3.length l1_3) (hc1_3 : l1_3.length ≤ c1_3) (hb1 : w.heap[g1]? = some (.cells #[.int .i64 a1_0, .slice A1_1 l1_1.length c1_1, .slice A1_2 l1_2.length c1_2, .slice A1_3 l1_3.length c1_3] 27 (0, 0))) (h : impl_IsMap_1.f a0 a1_0 l1_1 l1_2 l1_3 = some r) :
  Calls Try.prog 32 #[.int .i64 a0, .pointer (some ⟨g1, 0, none⟩)] w fun e w' => e = .returned (.bool r) ∧ Below w.heap.size w w' := by
 have hu27 := Try.underlying27; have HR1_1 := sd_ hr1_1; have HC1_1 := sd_ hc1_1; clear hr1_1 hc1_1; have HR1_2 := sd_ hr1_2; have HC1_2 := sd_ hc1_2; clear hr1_2 hc1_2; have HR1_3 := sd_ hr1_3; have HC1_3 := sd_ hc1_3; clear hr1_3 hc1_3; have BK1 := sd_ hb1; clear hb1; have HB := sd_ (Below.refl w.heap.size w); have H : ((impl_System_has.f a1_0 l1_1 l1_2 l1_3 a0).bind fun J0 => (some (!J0))) = some r := h; clear h
 revert H; refine ob_ fun J0 A3 H => ?_
 obtain rfl := Option.some.inj H; obtain ⟨J1, J2, J3, J4, J5, J6, J7, J8⟩ := bf4_ BK1.out; go_enter Try.func32, Try.ntmps32; go_wp2_with (first | ((with_reducible refine gate_callee (f := 20) rfl ?_); refine goesL_ (some 6) rfl rfl Try.func20 (by kernel_rfl) rfl #[.agg #[.int .i64 a1_0, .slice A1_1 l1_1.length c1_1, .slice A1_2 l1_2.length c1_2, .slice A1_3 l1_3.length c1_3], .int .i64 a0] rfl la_ ?_; (with_reducible refine (impl_System_has.calls a1_0 _ _ l1_1 _ _ l1_2 _ _ l1_3 a0 J0 _ (kp_ HR1_1.out) HC1_1.out (kp_ HR1_2.out) HC1_2.out (kp_ HR1_3.out) HC1_3.out A3.out).mono ?_); rintro e w5 ⟨rfl, hb⟩; refine ⟨_, rfl, ?_⟩; replace BK1 := sd_ (bb_ BK1.out hb); replace HB := sd_ (below_step (bw0_ HB.out) hb); (try clear hb))); go_ret; exact ⟨an_, bw0_ HB.out⟩

end Go.Proofs.Ytjjkagnbdfofbaa.P
end
