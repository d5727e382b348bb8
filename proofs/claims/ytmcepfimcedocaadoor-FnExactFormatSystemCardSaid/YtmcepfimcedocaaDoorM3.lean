-- Several texts in one (wip/tools/merge.py).
import Derived.Test.YtmcepfimcedocaaDoorP0
import Derived.Test.YtmcepfimcedocaaDoorS0
section
/-! shorter words -/
namespace Go.Proofs.YtmcepfimcedocaaDoor.P
open Go.RowKit Go.Proofs.YtmcepfimcedocaaDoorW.PrintWords Go.Proofs.YtmcepfimcedocaaDoorW.PrintLast Go.Proofs.YtmcepfimcedocaaDoorW.PrintMore
attribute [local go_sem] max2_int min2_int max_two min_two max_three min_three max_four min_four   -- for this text's walks alone
set_option linter.unusedVariables false
set_option linter.unusedSimpArgs false

/-! ### spec_l1Decimal: function 38 -/
def spec_l1Decimal.f : Nat → Int → Option (ByteArray)
 | 0, _ => none
 | k + 1, a0 => (some (([(wrap64 (48 + (Int.tmod a0 10))) % 256] : List Int) : List Int)).bind fun y174 => (if a0 ≥ 10 then ((spec_l1Decimal.f k (wrap64 (Int.tdiv a0 10))).bind fun t177 => (if t177.size + (strOfNums y174).size ≤ 9223372036854775807 then (some (t177 ++ (strOfNums y174))) else (none))) else (some (strOfNums y174)))
set_option maxHeartbeats 8000000 in
set_option maxRecDepth 100000 in
theorem spec_l1Decimal.calls (k : Nat) : ∀ (a0 : Int) (r : ByteArray) (w : World) (h : spec_l1Decimal.f k a0 = some r),
  Calls Tryd.prog 38 #[.int .i64 a0] w fun e w' => e = .returned (.string r) ∧ Below w.heap.size w w' := by
 induction k using Nat.strongRecOn with
 | _ k ih =>
 intro a0 r w h
 cases k with
 | zero => exact absurd h (by simp [spec_l1Decimal.f])
 | succ k =>
 simp only [spec_l1Decimal.f] at h; have HB := sd_ (Below.refl w.heap.size w); have H : ((some (([(wrap64 (48 + (Int.tmod a0 10))) % 256] : List Int) : List Int)).bind fun y174 => (if a0 ≥ 10 then ((spec_l1Decimal.f k (wrap64 (Int.tdiv a0 10))).bind fun t177 => (if t177.size + (strOfNums y174).size ≤ 9223372036854775807 then (some (t177 ++ (strOfNums y174))) else (none))) else (some (strOfNums y174)))) = some r := h; clear h
 revert H; refine oy_ fun y174 Ny174 H => ?_
 have HP2 := sd_ H; clear H; go_enter Tryd.func38, Tryd.ntmps38; go_upto_if 11 with (first | ((with_reducible refine gate_dst (N := 8) rfl ?_); refine Kd.R_lit (Kd.int .u8) _ 5 ?hg (N := 8) ?hd (xs := ([(wrap64 (48 + (Int.tmod a0 10))) % 256] : List Int)) (inner := [.int .u8 ((wrap64 (48 + (Int.tmod a0 10))) % 256)]) (ok := fun _ => True) (okp := fun _ => True) ?hr ?hp (fun _ hk => hk) trivial (Below.refl _ _) (Nat.le_refl _) (by simp) ?_; (case hd => rfl); (case hg => rfl); (case hr => first | (go_simp; done) | (go_simp; rfl)); (case hp => exact (Reps.one (show Kd.M (Kd.int .u8) _ _ _ ((wrap64 (48 + (Int.tmod a0 10))) % 256) [.int .u8 ((wrap64 (48 + (Int.tmod a0 10))) % 256)] from rfl) (Reps.none _ _))); intro v175 w3 ho4 hb hg_ hnew_; clear hg_ hnew_; (first | rw [← Ny174.out] at ho4 | (simp only [Int.reduceToNat] at ho4; rw [← Ny174.out] at ho4)); have HO176 := sd_ (Kd.R_lower ho4 (below_size (bw0_ HB.out))); replace HB := sd_ (below_step (bw0_ HB.out) hb); clear hb ho4; have hcv5 := own_string (P := Tryd.prog) Tryd.underlying68 Tryd.underlying5 Tryd.underlying9 (Kd.own_of_R HO176.out))); have H := HP2.out; clear HP2; by_cases c6 : a0 ≥ 10
 ·rw [if_pos c6] at H; have c6b0 : decide (10 ≤ a0) = true := decide_eq_true c6; clear c6; (first | rw [c6b0] | (simp only [i64_w, i32_w]; rw [c6b0]) | skip)
  revert H; refine ob_ fun t177 A7 H => ?_
  by_cases c8 : t177.size + (strOfNums y174).size ≤ 9223372036854775807
  ·rw [if_pos c8] at H; have c8b0 := eq_true c8; have c8b1 : decide (t177.size + (strOfNums y174).size ≤ 9223372036854775807) = true := decide_eq_true c8
   try have c8b2 : (9223372036854775807 < t177.size + (strOfNums y174).size) = False := eq_false (Nat.not_lt.2 c8)
   obtain rfl := Option.some.inj H; go_wp2_with (first | ((with_reducible refine gate_callee (f := 38) rfl ?_); refine goesL_ (some 14) rfl rfl Tryd.func38 (by kernel_rfl) rfl #[.int .i64 (wrap64 (Int.tdiv a0 10))] rfl la_ ?_; (with_reducible refine (ih k (by omega) (wrap64 (Int.tdiv a0 10)) t177 _ A7.out).mono ?_); rintro e w9 ⟨rfl, hb⟩; refine ⟨_, rfl, ?_⟩; replace HO176 := sd_ (Kd.R_below (ro_ HO176.out) hb); replace HB := sd_ (below_step (bw0_ HB.out) hb); (try clear hb))); go_ret; exact ⟨an_, bw0_ HB.out⟩
  rw [if_neg c8] at H; exact absurd H (by simp)
 rw [if_neg c6] at H; have c6b0 : decide (10 ≤ a0) = false := decide_eq_false c6; clear c6; (first | rw [c6b0] | (simp only [i64_w, i32_w]; rw [c6b0]) | skip); obtain rfl := Option.some.inj H; go_wp2; go_ret; exact ⟨an_, bw0_ HB.out⟩

end Go.Proofs.YtmcepfimcedocaaDoor.P
end

section
/-! shorter words -/
namespace Go.Proofs.YtmcepfimcedocaaDoor.P
open Go.RowKit Go.Proofs.YtmcepfimcedocaaDoorW.PrintWords Go.Proofs.YtmcepfimcedocaaDoorW.PrintLast Go.Proofs.YtmcepfimcedocaaDoorW.PrintMore
attribute [local go_sem] max2_int min2_int max_two min_two max_three min_three max_four min_four   -- for this text's walks alone
set_option linter.unusedVariables false
set_option linter.unusedSimpArgs false

/-! ### spec_l1Names: function 17 -/
mutual
def spec_l1Names.l0 : Nat → List ByteArray → List ByteArray → Int → Option (List ByteArray)
 | 0, _, _, _ => none
 | k + 1, x1, x2, x3 => if x3 < 3 then (spec_l1Names.l1 k x1 x2 x3 1) else (some x1)
def spec_l1Names.l1 : Nat → List ByteArray → List ByteArray → Int → Int → Option (List ByteArray)
 | 0, _, _, _, _ => none
 | k + 1, x1, x2, x3, x4 => if x4 < 16 then (if x3 = 2 then (if 0 ≤ x3 then (if x3 < (x2.length : Int) then ((spec_l1Decimal.f k x4).bind fun t185 => (if (rdOf ByteArray.empty x2 x3).size + t185.size ≤ 9223372036854775807 then (if x1.length < 8796093022208 then (spec_l1Names.l1 k (x1 ++ [(rdOf ByteArray.empty x2 x3) ++ t185]) x2 x3 (wrap64 (x4 + 1))) else (none)) else (none))) else (none)) else (none)) else (if x4 < 15 then (if 0 ≤ x3 then (if x3 < (x2.length : Int) then ((spec_l1Decimal.f k x4).bind fun t190 => (if (rdOf ByteArray.empty x2 x3).size + t190.size ≤ 9223372036854775807 then (if x1.length < 8796093022208 then (spec_l1Names.l1 k (x1 ++ [(rdOf ByteArray.empty x2 x3) ++ t190]) x2 x3 (wrap64 (x4 + 1))) else (none)) else (none))) else (none)) else (none)) else (spec_l1Names.l1 k x1 x2 x3 (wrap64 (x4 + 1))))) else (spec_l1Names.l0 k x1 x2 (wrap64 (x3 + 1)))
end
def spec_l1Names.f (k : Nat)  : Option (List ByteArray) := spec_l1Names.l0 k (([] : List ByteArray)) (([(⟨#[99, 111, 117, 110, 116, 32]⟩ : ByteArray), (⟨#[98, 111, 117, 110, 100, 32]⟩ : ByteArray), (⟨#[108, 101, 118, 101, 108, 32]⟩ : ByteArray)] : List ByteArray)) 0
def spec_l1Names.T10 : Bool × List (List Nat × List Nat) := (true, [([], []), ([], []), ([], []), ([1, 2], [1, 2]), ([3], [3]), ([], []), ([5], [5]), ([4, 6], [4, 6]), ([7], [7]), ([0, 8, 6], [0, 8]), ([9, 9, 0, 1, 2, 3, 4, 5, 6, 7, 8, 9], [0, 9])])
def spec_l1Names.B10 : List Nat := [0, 0, 0, 6, 14, 0, 32, 126, 254, 511, 1023]
theorem spec_l1Names.tab10 : rtab .any (opsOf Tryd.f17 10) = spec_l1Names.T10 := by kernel_rfl
theorem spec_l1Names.bits10 : waitsOk spec_l1Names.T10.2 spec_l1Names.B10 = true := by kernel_rfl
set_option maxHeartbeats 8000000 in
set_option maxRecDepth 100000 in
theorem spec_l1Names.calls (k : Nat)  (r : List ByteArray) (w : World) (h : spec_l1Names.f k  = some r) :
  Calls Tryd.prog 17 #[] w fun e w' => ∃ v0_ : Value, e = .returned (v0_) ∧ Kd.R Kd.string 9 w' w.heap.size (fun _ => True) v0_ r ∧ Below w.heap.size w w' := by
 have HB := sd_ (Below.refl w.heap.size w); have H : (spec_l1Names.l0 k (([] : List ByteArray)) (([(⟨#[99, 111, 117, 110, 116, 32]⟩ : ByteArray), (⟨#[98, 111, 117, 110, 100, 32]⟩ : ByteArray), (⟨#[108, 101, 118, 101, 108, 32]⟩ : ByteArray)] : List ByteArray)) 0) = some r := h; clear h; obtain ⟨y178, hy178⟩ : ∃ y_ : List ByteArray, y_ = (([] : List ByteArray)) := ⟨_, rfl⟩
 replace H : (spec_l1Names.l0 k y178 (([(⟨#[99, 111, 117, 110, 116, 32]⟩ : ByteArray), (⟨#[98, 111, 117, 110, 100, 32]⟩ : ByteArray), (⟨#[108, 101, 118, 101, 108, 32]⟩ : ByteArray)] : List ByteArray)) 0) = some r := by first | (rw [hy178]; with_reducible exact H) | (have H2_ := (Option.bind_some _ _).symm.trans H; rw [hy178]; with_reducible exact H2_) | (have H2_ := (Option.bind_some _ _).symm.trans H; with_reducible exact H2_) | with_reducible exact H | (rw [hy178]; exact H) | exact H
 have Ny178 := sd_ hy178; clear hy178; generalize hy181 : (([(⟨#[99, 111, 117, 110, 116, 32]⟩ : ByteArray), (⟨#[98, 111, 117, 110, 100, 32]⟩ : ByteArray), (⟨#[108, 101, 118, 101, 108, 32]⟩ : ByteArray)] : List ByteArray) : List ByteArray) = y181 at H; have Ny181 := sd_ hy181.symm; clear hy181; have H' := sd_ H; clear H; go_enter Tryd.func17, Tryd.ntmps17; go_wp2_with (first | ((with_reducible refine gate_dst (N := 5) rfl ?_); refine Kd.R_lit Kd.string _ 9 ?hg (N := 5) ?hd (xs := ([] : List ByteArray)) (inner := []) (ok := fun _ => True) (okp := fun _ => True) ?hr ?hp (fun _ hk => hk) trivial (Below.refl _ _) (Nat.le_refl _) (by simp) ?_; (case hd => rfl); (case hg => rfl); (case hr => first | (go_simp; done) | (go_simp; rfl)); (case hp => exact (Reps.none _ _)); intro v179 w1 ho2 hb hg_ hnew_; clear hg_ hnew_; (first | rw [← Ny178.out] at ho2 | (simp only [Int.reduceToNat] at ho2; rw [← Ny178.out] at ho2)); have HO180 := sd_ (Kd.R_lower ho2 (below_size (bw0_ HB.out))); replace HB := sd_ (below_step (bw0_ HB.out) hb); clear hb ho2) | ((with_reducible refine gate_dst (N := 6) rfl ?_); refine Kd.R_lit Kd.string _ 9 ?hg (N := 6) ?hd (xs := ([(⟨#[99, 111, 117, 110, 116, 32]⟩ : ByteArray), (⟨#[98, 111, 117, 110, 100, 32]⟩ : ByteArray), (⟨#[108, 101, 118, 101, 108, 32]⟩ : ByteArray)] : List ByteArray)) (inner := [.string (⟨#[99, 111, 117, 110, 116, 32]⟩ : ByteArray), .string (⟨#[98, 111, 117, 110, 100, 32]⟩ : ByteArray), .string (⟨#[108, 101, 118, 101, 108, 32]⟩ : ByteArray)]) (ok := fun _ => True) (okp := fun _ => True) ?hr ?hp (fun _ hk => hk) trivial (Below.refl _ _) (Nat.le_refl _) (by simp) ?_; (case hd => rfl); (case hg => rfl); (case hr => first | (go_simp; done) | (go_simp; rfl)); (case hp => exact (Reps.one (show Kd.M Kd.string _ _ _ (⟨#[99, 111, 117, 110, 116, 32]⟩ : ByteArray) [.string (⟨#[99, 111, 117, 110, 116, 32]⟩ : ByteArray)] from rfl) (Reps.one (show Kd.M Kd.string _ _ _ (⟨#[98, 111, 117, 110, 100, 32]⟩ : ByteArray) [.string (⟨#[98, 111, 117, 110, 100, 32]⟩ : ByteArray)] from rfl) (Reps.one (show Kd.M Kd.string _ _ _ (⟨#[108, 101, 118, 101, 108, 32]⟩ : ByteArray) [.string (⟨#[108, 101, 118, 101, 108, 32]⟩ : ByteArray)] from rfl) (Reps.none _ _))))); intro v182 w3 ho4 hb hg_ hnew_; clear hg_ hnew_; (first | rw [← Ny181.out] at ho4 | (simp only [Int.reduceToNat] at ho4; rw [← Ny181.out] at ho4)); have HO183 := sd_ (Kd.R_lower (Kd.R_new' ho4 (Kd.R_lt (ro_ HO180.out))) (below_size (bw0_ HB.out))); replace HO180 := sd_ (Kd.R_elder' (ro_ HO180.out) (Kd.R_base ho4) hb); replace HB := sd_ (below_step (bw0_ HB.out) hb); clear hb ho4))
 go_loopg [1, 3] k (fun kq v1 v3 w' => ∃ (x1_1 : List ByteArray) (x3_1 : Int), v3 = .int .i64 x3_1 ∧ Aside0 (spec_l1Names.l0 kq x1_1 y181 x3_1 = some r) ∧ Aside0 (kq ≤ k) ∧ Aside0 (Kd.R Kd.string 9 w' w.heap.size (fun k_ => some k_ ≠ (v182 : Value).ownBlock) v1 x1_1) ∧ Aside0 (Kd.R Kd.string 9 w' w.heap.size (fun k_ => some k_ ≠ (v1 : Value).ownBlock) v182 y181) ∧ Aside0 (Below w.heap.size w w'))
 case atStart => exact ⟨(y178), (0), sm_, H', ⟨Nat.le_refl _⟩, ⟨by (with_reducible repeat (first | apply Kd.R_alloc | apply Kd.R_drewN | apply Kd.R_drew)); exact Kd.R_mono HO180.out (fun _ hk => hk.2)⟩, ⟨by (with_reducible repeat (first | apply Kd.R_alloc | apply Kd.R_drewN | apply Kd.R_drew)); exact Kd.R_mono HO183.out (fun _ hk => hk.2)⟩, ⟨bw0_ HB.out⟩⟩
 case round =>
  clear H'; (try clear c1); (try clear p2); obtain ⟨x1_1, x3_1, rfl, HA, HK1, HO_1, HO_2, HB⟩ := hrel
  cases gk with
  | zero => exact absurd HA.out (by simp [spec_l1Names.l0])
  | succ k1 =>
   have H := HA.out; clear HA; simp only [spec_l1Names.l0] at H; revert H; refine ic_ (fun c5b0 H => ?_) (fun c5b0 H => ?_)
   ·have H' := sd_ H; clear H; go_wp2
    go_loopg [1, 4] k1 (fun kq v1 v4 w' => ∃ (x1_2 : List ByteArray) (x4_2 : Int), v4 = .int .i64 x4_2 ∧ Aside0 (spec_l1Names.l1 kq x1_2 y181 x3_1 x4_2 = some r) ∧ Aside0 (kq ≤ k1) ∧ Aside0 (Kd.R Kd.string 9 w' w.heap.size (fun k_ => some k_ ≠ (v182 : Value).ownBlock) v1 x1_2) ∧ Aside0 (Kd.R Kd.string 9 w' w.heap.size (fun k_ => some k_ ≠ (v1 : Value).ownBlock) v182 y181) ∧ Aside0 (Below w.heap.size w w'))
    case atStart => exact ⟨(x1_1), (1), sm_, H', ⟨Nat.le_refl _⟩, ⟨ro_ HO_1.out⟩, ⟨ro_ HO_2.out⟩, ⟨bw0_ HB.out⟩⟩
    case round =>
     clear H'; (try clear c1); (try clear p2); (try clear c5); (try clear c5b0); (try clear p2); obtain ⟨x1_2, x4_2, rfl, HA, HK2, HO_1, HO_2, HB⟩ := hrel
     cases gk with
     | zero => exact absurd HA.out (by simp [spec_l1Names.l1])
     | succ k2 =>
      have H := HA.out; clear HA; simp only [spec_l1Names.l1] at H; revert H; refine ic_ (fun c6b0 H => ?_) (fun c6b0 H => ?_)
      ·by_cases c7 : x3_1 = 2
       ·rw [if_pos c7] at H; have c7b0 : (x3_1 == 2) = true := beq_iff_eq.mpr c7; have c7b1 : (x3_1 != 2) = false := bne_eq_false_iff_eq.mpr c7; clear c7
        revert H; refine ih_ fun c8b0 H => ?_
        revert H; refine ih_ fun c9b0 H => ?_
        revert H; refine ob_ fun t185 A10 H => ?_
        by_cases c11 : (rdOf ByteArray.empty y181 x3_1).size + t185.size ≤ 9223372036854775807
        ·rw [if_pos c11] at H; have c11b0 := eq_true c11; have c11b1 : decide ((rdOf ByteArray.empty y181 x3_1).size + t185.size ≤ 9223372036854775807) = true := decide_eq_true c11
         try have c11b2 : (9223372036854775807 < (rdOf ByteArray.empty y181 x3_1).size + t185.size) = False := eq_false (Nat.not_lt.2 c11)
         revert H; refine il_ fun LMc12 H => ?_
         generalize hy186 : (x1_2 ++ [(rdOf ByteArray.empty y181 x3_1) ++ t185] : List ByteArray) = y186 at H; have Ny186 := sd_ hy186.symm; clear hy186; have H' := sd_ H; clear H
         try go_wp2
         replace HO_1 := sd_ (Kd.R_drew HO_1.out); replace HO_2 := sd_ (Kd.R_drew HO_2.out); replace HB := sd_ (below_drew1 HB.out); obtain ⟨Ao14, co14, eo14⟩ := Kd.R_slice HO_2.out; (first | subst eo14 | (injection eo14 with f1_ f2_ f3_; have f4_ := f1_.symm; have f5_ := f3_.symm; clear f1_ f2_ f3_; subst f4_; subst f5_)); have p184 : 0 ≤ (x3_1 : Int) := dt_; have q184 : x3_1 < (y181.length : Int) := dt_; obtain ⟨ad184, e184, hx184_0⟩ := Kd.at_string (Kd.R_reads' HO_2.out).2.2 x3_1 p184 q184
         cases e184
         replace p184 := eq_true p184; replace q184 := eq_true q184; refine start_ (n := 11) (S := fun w' => w'.cell? (ad184.add (x3_1).toNat) = some (.string (rdOf ByteArray.empty y181 x3_1))) (ds := [8, 9]) #[false, false, false, false, false, false, false, false, false, false, false] (by kernel_rfl) rfl rfl (hx184_0) (fun hHeld => ?_); refine with_tabW spec_l1Names.tab10 spec_l1Names.bits10 (fun HT_ HW_ => ?_); generalize wr.drew = w13 at HO_1 HO_2 HB hx184_0 hHeld ⊢; refine pv_ 0 rfl rfl (any_of HT_.out (by kernel_rfl)) ?_; refine pv_ 1 rfl rfl (any_of HT_.out (by kernel_rfl)) ?_; refine pv_ 2 rfl rfl (any_of HT_.out (by kernel_rfl)) ?_; refine pv_ 3 rfl rfl (any_of HT_.out (by kernel_rfl)) ?_; refine pv_ 5 rfl rfl (any_of HT_.out (by kernel_rfl)) ?_; refine take_ (i := 4) (N := some 25) (v := ?_) (a' := ?_) #[true, true, true, true, true, true, false, false, false, false, false] rfl rfl (take_ofW HT_.out HW_.out (by kernel_rfl)) (fun _ _ _ h => h) (Or.inl ⟨by rfl, ?_⟩) hHeld ?_ ?_; rotate_left
         ·intro w' s0; go_simp
          with_reducible rfl
         rotate_left
         ·simp only [Act.put, List.setIfInBounds_toArray, List.set_cons_zero, List.set_cons_succ, i64_w, i32_w]; rfl
         refine on_ 6 rfl rfl (one_of HT_.out (by kernel_rfl)) fun K hK => ?_
         refine goes_ Tryd.func38 (by kernel_rfl) rfl #[.int .i64 x4_2] (by rfl) rfl rfl la_ ?_
         with_reducible refine (spec_l1Decimal.calls k2 x4_2 t185 _ A10.out).mono ?_
         rintro e w15 ⟨rfl, hb⟩; have HS0_ := (hb.cell (World.block_lt_of_cell? _ _ (hHeld))).trans (hHeld); refine ⟨_, rfl, ?_⟩; replace HO_1 := sd_ (Kd.R_below (ro_ HO_1.out) hb); replace HO_2 := sd_ (Kd.R_below (ro_ HO_2.out) hb); replace HB := sd_ (below_step (bw0_ HB.out) hb); (try clear hb); (try clear hb2); (try clear hk); (try clear hi); refine hK.out _ _ (HS0_) (fun hHeld => ?_); clear hK K; refine nm_ ?_; refine pv_ 7 rfl rfl (any_of HT_.out (by kernel_rfl)) ?_; refine last_ (i := 8) (N := some 29) #[true, true, true, true, true, true, true, true, true, false, false] rfl rfl (one_of HT_.out (by kernel_rfl)) (by decide) (fun K hK => ?_); refine value_ (w1 := ?_) (v := ?_) (by rfl) rfl ?_ ?_; rotate_left 2
         ·go_simp; constructor
          ·rfl
          rfl
         refine hK.out _ _ ?_; clear hK K; refine nm_ ?_; refine last_ (i := 9) (N := some 30) #[true, true, true, true, true, true, true, true, true, true, false] rfl rfl (one_of HT_.out (by kernel_rfl)) (by decide) (fun K hK => ?_); refine Kd.R_append_step Kd.string (w0 := w) w.heap.size (by rfl) (.tmp 21) (.tmp 29) 39 9 (.string ⟨#[]⟩) 16 rfl Tryd.underlying39 info9 rfl (by decide) (by omega) u1 x1_2 ((rdOf ByteArray.empty y181 x3_1) ++ t185) [.string ((rdOf ByteArray.empty y181 x3_1) ++ t185)] (fun k_ => some k_ ≠ (.slice (some ad184) y181.length co14 : Value).ownBlock) (fun _ => False) rfl rfl ?aP (fun _ hk => hk.elim) ?aF ?aO ?aB ?aS ?aL ?_; (case aP => exact rfl); (case aB => exact (bw0_ HB.out)); (case aF => exact (fun k_ hk => Kd.fresh' (Kd.R_lt (ro_ HO_2.out)) k_ hk)); (case aO => exact (ro_ HO_1.out)); (case aS => exact (below_size (bw0_ HB.out))); (case aL => have := LMc12.out; omega); intro v187 w16 ho hb hg hat; rw [← Ny186.out] at ho; have n0_ := sd_ (Kd.R_after (ok := (fun _ => True)) (by (with_reducible repeat (first | apply Kd.R_alloc | apply Kd.R_drewN | apply Kd.R_drew)); exact Kd.R_mono HO_2.out (fun _ hk => ⟨trivial, hk⟩)) hg hat); have n1_ := sd_ (hb); have n2_ := sd_ (ho); clear HO_2; clear HB; clear HO_1; have HO_2 := n0_; have HB := n1_; have HO188 := n2_; clear n0_ n1_ n2_; clear ho hb hg hat; refine hK.out _ _ ?_; clear hK K; refine nm_ ?_; refine pv_ 10 rfl rfl (any_of HT_.out (by kernel_rfl)) ?_; refine done_ (done_of HT_.out (by kernel_rfl)) ?_
         try go_wp2
         go_roundg k2
         case measure => have := HK1.out; have := HK2.out; omega
         case rel => exact ⟨(y186), (wrap64 (x4_2 + 1)), sm_, H', ⟨by have := HK1.out; have := HK2.out; omega⟩, ⟨ro_ HO188.out⟩, ⟨by (with_reducible repeat (first | apply Kd.R_alloc | apply Kd.R_drewN | apply Kd.R_drew)); exact Kd.R_mono HO_2.out (fun _ hk => hk.2)⟩, ⟨bw0_ HB.out⟩⟩
        rw [if_neg c11] at H; exact absurd H (by simp)
       rw [if_neg c7] at H; have c7b0 : (x3_1 == 2) = false := beq_eq_false_iff_ne.mpr c7; have c7b1 : (x3_1 != 2) = true := bne_iff_ne.mpr c7; revert H; refine ic_ (fun c17b0 H => ?_) (fun c17b0 H => ?_)
       ·revert H; refine ih_ fun c18b0 H => ?_
        revert H; refine ih_ fun c19b0 H => ?_
        revert H; refine ob_ fun t190 A20 H => ?_
        by_cases c21 : (rdOf ByteArray.empty y181 x3_1).size + t190.size ≤ 9223372036854775807
        ·rw [if_pos c21] at H; have c21b0 := eq_true c21; have c21b1 : decide ((rdOf ByteArray.empty y181 x3_1).size + t190.size ≤ 9223372036854775807) = true := decide_eq_true c21
         try have c21b2 : (9223372036854775807 < (rdOf ByteArray.empty y181 x3_1).size + t190.size) = False := eq_false (Nat.not_lt.2 c21)
         revert H; refine il_ fun LMc22 H => ?_
         generalize hy191 : (x1_2 ++ [(rdOf ByteArray.empty y181 x3_1) ++ t190] : List ByteArray) = y191 at H; have Ny191 := sd_ hy191.symm; clear hy191; have H' := sd_ H; clear H
         try go_wp2
         replace HO_1 := sd_ (Kd.R_drew HO_1.out); replace HO_2 := sd_ (Kd.R_drew HO_2.out); replace HB := sd_ (below_drew1 HB.out); obtain ⟨Ao24, co24, eo24⟩ := Kd.R_slice HO_2.out; (first | subst eo24 | (injection eo24 with f1_ f2_ f3_; have f4_ := f1_.symm; have f5_ := f3_.symm; clear f1_ f2_ f3_; subst f4_; subst f5_)); have p189 : 0 ≤ (x3_1 : Int) := dt_; have q189 : x3_1 < (y181.length : Int) := dt_; obtain ⟨ad189, e189, hx189_0⟩ := Kd.at_string (Kd.R_reads' HO_2.out).2.2 x3_1 p189 q189
         cases e189
         replace p189 := eq_true p189; replace q189 := eq_true q189; refine start_ (n := 11) (S := fun w' => w'.cell? (ad189.add (x3_1).toNat) = some (.string (rdOf ByteArray.empty y181 x3_1))) (ds := [8, 9]) #[false, false, false, false, false, false, false, false, false, false, false] (by kernel_rfl) rfl rfl (hx189_0) (fun hHeld => ?_); refine with_tabW spec_l1Names.tab10 spec_l1Names.bits10 (fun HT_ HW_ => ?_); generalize wr.drew = w23 at HO_1 HO_2 HB hx189_0 hHeld ⊢; refine pv_ 0 rfl rfl (any_of HT_.out (by kernel_rfl)) ?_; refine pv_ 1 rfl rfl (any_of HT_.out (by kernel_rfl)) ?_; refine pv_ 2 rfl rfl (any_of HT_.out (by kernel_rfl)) ?_; refine pv_ 3 rfl rfl (any_of HT_.out (by kernel_rfl)) ?_; refine pv_ 5 rfl rfl (any_of HT_.out (by kernel_rfl)) ?_; refine take_ (i := 4) (N := some 25) (v := ?_) (a' := ?_) #[true, true, true, true, true, true, false, false, false, false, false] rfl rfl (take_ofW HT_.out HW_.out (by kernel_rfl)) (fun _ _ _ h => h) (Or.inl ⟨by rfl, ?_⟩) hHeld ?_ ?_; rotate_left
         ·intro w' s0; go_simp
          with_reducible rfl
         rotate_left
         ·simp only [Act.put, List.setIfInBounds_toArray, List.set_cons_zero, List.set_cons_succ, i64_w, i32_w]; rfl
         refine on_ 6 rfl rfl (one_of HT_.out (by kernel_rfl)) fun K hK => ?_
         refine goes_ Tryd.func38 (by kernel_rfl) rfl #[.int .i64 x4_2] (by rfl) rfl rfl la_ ?_
         with_reducible refine (spec_l1Decimal.calls k2 x4_2 t190 _ A20.out).mono ?_
         rintro e w25 ⟨rfl, hb⟩; have HS0_ := (hb.cell (World.block_lt_of_cell? _ _ (hHeld))).trans (hHeld); refine ⟨_, rfl, ?_⟩; replace HO_1 := sd_ (Kd.R_below (ro_ HO_1.out) hb); replace HO_2 := sd_ (Kd.R_below (ro_ HO_2.out) hb); replace HB := sd_ (below_step (bw0_ HB.out) hb); (try clear hb); (try clear hb2); (try clear hk); (try clear hi); refine hK.out _ _ (HS0_) (fun hHeld => ?_); clear hK K; refine nm_ ?_; refine pv_ 7 rfl rfl (any_of HT_.out (by kernel_rfl)) ?_; refine last_ (i := 8) (N := some 29) #[true, true, true, true, true, true, true, true, true, false, false] rfl rfl (one_of HT_.out (by kernel_rfl)) (by decide) (fun K hK => ?_); refine value_ (w1 := ?_) (v := ?_) (by rfl) rfl ?_ ?_; rotate_left 2
         ·go_simp; constructor
          ·rfl
          rfl
         refine hK.out _ _ ?_; clear hK K; refine nm_ ?_; refine last_ (i := 9) (N := some 30) #[true, true, true, true, true, true, true, true, true, true, false] rfl rfl (one_of HT_.out (by kernel_rfl)) (by decide) (fun K hK => ?_); refine Kd.R_append_step Kd.string (w0 := w) w.heap.size (by rfl) (.tmp 21) (.tmp 29) 39 9 (.string ⟨#[]⟩) 16 rfl Tryd.underlying39 info9 rfl (by decide) (by omega) u1 x1_2 ((rdOf ByteArray.empty y181 x3_1) ++ t190) [.string ((rdOf ByteArray.empty y181 x3_1) ++ t190)] (fun k_ => some k_ ≠ (.slice (some ad189) y181.length co24 : Value).ownBlock) (fun _ => False) rfl rfl ?aP (fun _ hk => hk.elim) ?aF ?aO ?aB ?aS ?aL ?_; (case aP => exact rfl); (case aB => exact (bw0_ HB.out)); (case aF => exact (fun k_ hk => Kd.fresh' (Kd.R_lt (ro_ HO_2.out)) k_ hk)); (case aO => exact (ro_ HO_1.out)); (case aS => exact (below_size (bw0_ HB.out))); (case aL => have := LMc22.out; omega); intro v192 w26 ho hb hg hat; rw [← Ny191.out] at ho; have n0_ := sd_ (Kd.R_after (ok := (fun _ => True)) (by (with_reducible repeat (first | apply Kd.R_alloc | apply Kd.R_drewN | apply Kd.R_drew)); exact Kd.R_mono HO_2.out (fun _ hk => ⟨trivial, hk⟩)) hg hat); have n1_ := sd_ (hb); have n2_ := sd_ (ho); clear HO_2; clear HB; clear HO_1; have HO_2 := n0_; have HB := n1_; have HO193 := n2_; clear n0_ n1_ n2_; clear ho hb hg hat; refine hK.out _ _ ?_; clear hK K; refine nm_ ?_; refine pv_ 10 rfl rfl (any_of HT_.out (by kernel_rfl)) ?_; refine done_ (done_of HT_.out (by kernel_rfl)) ?_
         try go_wp2
         go_roundg k2
         case measure => have := HK1.out; have := HK2.out; omega
         case rel => exact ⟨(y191), (wrap64 (x4_2 + 1)), sm_, H', ⟨by have := HK1.out; have := HK2.out; omega⟩, ⟨ro_ HO193.out⟩, ⟨by (with_reducible repeat (first | apply Kd.R_alloc | apply Kd.R_drewN | apply Kd.R_drew)); exact Kd.R_mono HO_2.out (fun _ hk => hk.2)⟩, ⟨bw0_ HB.out⟩⟩
        rw [if_neg c21] at H; exact absurd H (by simp)
       have H' := sd_ H; clear H; go_wp2; go_roundg k2
       case measure => have := HK1.out; have := HK2.out; omega
       case rel => exact ⟨(x1_2), (wrap64 (x4_2 + 1)), sm_, H', ⟨by have := HK1.out; have := HK2.out; omega⟩, ⟨ro_ HO_1.out⟩, ⟨ro_ HO_2.out⟩, ⟨bw0_ HB.out⟩⟩
      have H' := sd_ H; clear H; go_wp2; go_roundg k2
      case measure => have := HK1.out; have := HK2.out; omega
      case rel => exact ⟨(x1_2), (wrap64 (x3_1 + 1)), sm_, H', ⟨by have := HK1.out; have := HK2.out; omega⟩, ⟨ro_ HO_1.out⟩, ⟨ro_ HO_2.out⟩, ⟨bw0_ HB.out⟩⟩
   obtain rfl := Option.some.inj H; go_wp2; go_ret; exact ⟨_, an_, by (with_reducible repeat (first | apply Kd.R_alloc | apply Kd.R_drewN | apply Kd.R_drew)); exact Kd.R_mono HO_1.out (fun _ hk => trivial), bw0_ HB.out⟩

end Go.Proofs.YtmcepfimcedocaaDoor.P
end

section
/-! shorter words -/
namespace Go.Proofs.YtmcepfimcedocaaDoor.P
open Go.RowKit Go.Proofs.YtmcepfimcedocaaDoorW.PrintWords Go.Proofs.YtmcepfimcedocaaDoorW.PrintLast Go.Proofs.YtmcepfimcedocaaDoorW.PrintMore
attribute [local go_sem] max2_int min2_int max_two min_two max_three min_three max_four min_four   -- for this text's walks alone
set_option linter.unusedVariables false
set_option linter.unusedSimpArgs false

/-! ### spec_l1Same: function 39 -/
def spec_l1Same.l0 : Nat → List Int → List Int → Int → Option (Bool)
 | 0, _, _, _ => none
 | k + 1, x0, x1, x5 => if x5 < (x0.length : Int) then (if 0 ≤ x5 then (if x5 < (x1.length : Int) then (if (rd x0 x5) = (rd x1 x5) then (spec_l1Same.l0 k x0 x1 (wrap64 (x5 + 1))) else (some false)) else (none)) else (none)) else (some true)
def spec_l1Same.f (k : Nat) (l0 : List Int) (l1 : List Int) : Option (Bool) := if (l0.length : Int) = (l1.length : Int) then (spec_l1Same.l0 k l0 l1 0) else (some false)
set_option maxHeartbeats 8000000 in
set_option maxRecDepth 100000 in
theorem spec_l1Same.calls (k : Nat) (A0 : Option Addr) (c0 : Nat) (l0 : List Int) (A1 : Option Addr) (c1 : Nat) (l1 : List Int) (r : Bool) (w : World) (hr0 : Kd.C (Kd.int .i64) w A0 l0.length l0) (hc0 : l0.length ≤ c0) (hr1 : Kd.C (Kd.int .i64) w A1 l1.length l1) (hc1 : l1.length ≤ c1) (h : spec_l1Same.f k l0 l1 = some r) :
  Calls Tryd.prog 39 #[.slice A0 l0.length c0, .slice A1 l1.length c1] w fun e w' => e = .returned (.bool r) ∧ Drawn0 w w' := by
 have HR0 := sd_ hr0; have HC0 := sd_ hc0; clear hr0 hc0; have HR1 := sd_ hr1; have HC1 := sd_ hc1; clear hr1 hc1; have H : (if (l0.length : Int) = (l1.length : Int) then (spec_l1Same.l0 k l0 l1 0) else (some false)) = some r := h; clear h; by_cases c3 : (l0.length : Int) = (l1.length : Int)
 ·rw [if_pos c3] at H; have c3b0 : ((l0.length : Int) == (l1.length : Int)) = true := beq_iff_eq.mpr c3; have c3b1 : ((l0.length : Int) != (l1.length : Int)) = false := bne_eq_false_iff_eq.mpr c3
  have c3b2 : (l0.length == l1.length) = true := by first | simpa using c3 | (simp at c3 ⊢; omega)
  clear c3; have H' := sd_ H; clear H; go_enter Tryd.func39, Tryd.ntmps39; go_wp2
  repeat (go_quiet (fail); try go_wp2)
  go_loopg [5] k (fun kq v5 w' => ∃ (x5_1 : Int), v5 = .int .i64 x5_1 ∧ Aside0 (spec_l1Same.l0 kq l0 l1 x5_1 = some r) ∧ Aside0 (kq ≤ k) ∧ Drawn0 w w')
  case atStart => exact ⟨(0), sm_, H', ⟨Nat.le_refl _⟩, by repeat (first | exact Drawn0.refl _ | apply Drawn0.step)⟩
  case round =>
   clear H'; (try clear c1); (try clear p2); (try clear c3); (try clear c3b0); (try clear c3b1); (try clear c3b2); obtain ⟨x5_1, rfl, HA, HK1, ⟨m1, rfl⟩⟩ := hrel
   cases gk with
   | zero => exact absurd HA.out (by simp [spec_l1Same.l0])
   | succ k1 =>
    have H := HA.out; clear HA; simp only [spec_l1Same.l0] at H; revert H; refine ic_ (fun c4b0 H => ?_) (fun c4b0 H => ?_)
    ·revert H; refine ih_ fun c5b0 H => ?_
     revert H; refine ih_ fun c6b0 H => ?_
     by_cases c7 : (rd l0 x5_1) = (rd l1 x5_1)
     ·rw [if_pos c7] at H; have c7b0 : ((rd l0 x5_1) == (rd l1 x5_1)) = true := beq_iff_eq.mpr c7; have c7b1 : ((rd l0 x5_1) != (rd l1 x5_1)) = false := bne_eq_false_iff_eq.mpr c7; clear c7; have H' := sd_ H; clear H; have p194 : 0 ≤ (x5_1 : Int) := dt_; have q194 : x5_1 < (l0.length : Int) := dt_; obtain ⟨ad194, e194, hx194_0⟩ := Kd.at_int HR0.out x5_1 p194 q194
      cases e194
      replace p194 := eq_true p194; replace q194 := eq_true q194; have p195 : 0 ≤ (x5_1 : Int) := dt_; have q195 : x5_1 < (l1.length : Int) := dt_; obtain ⟨ad195, e195, hx195_0⟩ := Kd.at_int HR1.out x5_1 p195 q195
      cases e195
      replace p195 := eq_true p195; replace q195 := eq_true q195; go_wp2
      repeat (go_quiet (fail); try go_wp2)
      go_roundg k1
      case measure => have := HK1.out; omega
      case rel => exact ⟨(wrap64 (x5_1 + 1)), sm_, H', ⟨by have := HK1.out; omega⟩, by repeat (first | exact Drawn0.refl _ | apply Drawn0.step)⟩
     rw [if_neg c7] at H; have c7b0 : ((rd l0 x5_1) == (rd l1 x5_1)) = false := beq_eq_false_iff_ne.mpr c7; have c7b1 : ((rd l0 x5_1) != (rd l1 x5_1)) = true := bne_iff_ne.mpr c7; obtain rfl := Option.some.inj H; have p194 : 0 ≤ (x5_1 : Int) := dt_; have q194 : x5_1 < (l0.length : Int) := dt_; obtain ⟨ad194, e194, hx194_0⟩ := Kd.at_int HR0.out x5_1 p194 q194
     cases e194
     replace p194 := eq_true p194; replace q194 := eq_true q194; have p195 : 0 ≤ (x5_1 : Int) := dt_; have q195 : x5_1 < (l1.length : Int) := dt_; obtain ⟨ad195, e195, hx195_0⟩ := Kd.at_int HR1.out x5_1 p195 q195
     cases e195
     replace p195 := eq_true p195; replace q195 := eq_true q195; go_wp2
     repeat (go_quiet (fail); try go_wp2)
     go_ret; exact ⟨by first | rfl | (simp; done) | (simp [*]; done), by repeat (first | exact Drawn0.refl _ | apply Drawn0.step)⟩
    obtain rfl := Option.some.inj H; go_wp2
    repeat (go_quiet (fail); try go_wp2)
    go_ret; exact ⟨by first | rfl | (simp; done) | (simp [*]; done), by repeat (first | exact Drawn0.refl _ | apply Drawn0.step)⟩
 rw [if_neg c3] at H; have c3b0 : ((l0.length : Int) == (l1.length : Int)) = false := beq_eq_false_iff_ne.mpr c3; have c3b1 : ((l0.length : Int) != (l1.length : Int)) = true := bne_iff_ne.mpr c3
 have c3b2 : (l0.length == l1.length) = false := by first | simpa using c3 | (simp at c3 ⊢; omega)
 obtain rfl := Option.some.inj H; go_enter Tryd.func39, Tryd.ntmps39; go_wp2
 repeat (go_quiet (fail); try go_wp2)
 go_ret; exact ⟨by first | rfl | (simp; done) | (simp [*]; done), by repeat (first | exact Drawn0.refl _ | apply Drawn0.step)⟩

/-! ### spec_l1Second: function 45 -/
def spec_l1Second.f (a0 : Int) (a1 : Int) : Option (Int) := if a1 < 2 then (some a1) else (if a1 ≤ (wrap64 (a0 + 1)) then (if a0 = 0 then (none) else (some (Int.tmod (wrap64 (a1 - 1)) a0))) else (if a0 = 0 then (none) else (some (Int.tmod a1 a0))))
set_option maxHeartbeats 8000000 in
set_option maxRecDepth 100000 in
theorem spec_l1Second.calls (a0 : Int) (a1 : Int) (r : Int) (w : World) (h : spec_l1Second.f a0 a1 = some r) :
  Calls Tryd.prog 45 #[.int .i64 a0, .int .i64 a1] w fun e w' => e = .returned (.int .i64 r) ∧ Drawn0 w w' := by
 have H : (if a1 < 2 then (some a1) else (if a1 ≤ (wrap64 (a0 + 1)) then (if a0 = 0 then (none) else (some (Int.tmod (wrap64 (a1 - 1)) a0))) else (if a0 = 0 then (none) else (some (Int.tmod a1 a0))))) = some r := h; clear h; revert H; refine ic_ (fun c3b0 H => ?_) (fun c3b0 H => ?_)
 ·obtain rfl := Option.some.inj H; go_enter Tryd.func45, Tryd.ntmps45; go_wp2; go_ret; exact ⟨by first | rfl | (simp; done) | (simp [*]; done), by repeat (first | exact Drawn0.refl _ | apply Drawn0.step)⟩
 revert H; refine ic_ (fun c4b0 H => ?_) (fun c4b0 H => ?_)
 ·by_cases c5 : a0 = 0
  ·rw [if_pos c5] at H; exact absurd H (by simp)
  rw [if_neg c5] at H; have c5b0 : (a0 == 0) = false := beq_eq_false_iff_ne.mpr c5; have c5b1 : (a0 != 0) = true := bne_iff_ne.mpr c5; obtain rfl := Option.some.inj H; go_enter Tryd.func45, Tryd.ntmps45; go_wp2; go_ret; exact ⟨by first | rfl | (simp; done) | (simp [*]; done), by repeat (first | exact Drawn0.refl _ | apply Drawn0.step)⟩
 by_cases c6 : a0 = 0
 ·rw [if_pos c6] at H; exact absurd H (by simp)
 rw [if_neg c6] at H; have c6b0 : (a0 == 0) = false := beq_eq_false_iff_ne.mpr c6; have c6b1 : (a0 != 0) = true := bne_iff_ne.mpr c6; obtain rfl := Option.some.inj H; go_enter Tryd.func45, Tryd.ntmps45; go_wp2; go_ret; exact ⟨by first | rfl | (simp; done) | (simp [*]; done), by repeat (first | exact Drawn0.refl _ | apply Drawn0.step)⟩

/-! ### spec_l1Pair: function 46 -/
def spec_l1Pair.f (a0 : Int) (a1 : Int) (a2 : Int) : Option (Int) := if (wrap64 ((wrap64 (a1 * a0)) + a2)) = 0 then (some 0) else (if (wrap64 ((wrap64 (a1 * a0)) + a2)) = (wrap64 (a0 + 1)) then (some 1) else (if (wrap64 ((wrap64 (a1 * a0)) + a2)) < (wrap64 (a0 + 1)) then (some (wrap64 ((wrap64 ((wrap64 (a1 * a0)) + a2)) + 1))) else (some (wrap64 ((wrap64 (a1 * a0)) + a2)))))
set_option maxHeartbeats 8000000 in
set_option maxRecDepth 100000 in
theorem spec_l1Pair.calls (a0 : Int) (a1 : Int) (a2 : Int) (r : Int) (w : World) (h : spec_l1Pair.f a0 a1 a2 = some r) :
  Calls Tryd.prog 46 #[.int .i64 a0, .int .i64 a1, .int .i64 a2] w fun e w' => e = .returned (.int .i64 r) ∧ Drawn0 w w' := by
 have H : (if (wrap64 ((wrap64 (a1 * a0)) + a2)) = 0 then (some 0) else (if (wrap64 ((wrap64 (a1 * a0)) + a2)) = (wrap64 (a0 + 1)) then (some 1) else (if (wrap64 ((wrap64 (a1 * a0)) + a2)) < (wrap64 (a0 + 1)) then (some (wrap64 ((wrap64 ((wrap64 (a1 * a0)) + a2)) + 1))) else (some (wrap64 ((wrap64 (a1 * a0)) + a2)))))) = some r := h; clear h; by_cases c4 : (wrap64 ((wrap64 (a1 * a0)) + a2)) = 0
 ·rw [if_pos c4] at H; have c4b0 : ((wrap64 ((wrap64 (a1 * a0)) + a2)) == 0) = true := beq_iff_eq.mpr c4; have c4b1 : ((wrap64 ((wrap64 (a1 * a0)) + a2)) != 0) = false := bne_eq_false_iff_eq.mpr c4; clear c4; obtain rfl := Option.some.inj H; go_enter Tryd.func46, Tryd.ntmps46; go_wp2; go_ret; exact ⟨by first | rfl | (simp; done) | (simp [*]; done), by repeat (first | exact Drawn0.refl _ | apply Drawn0.step)⟩
 rw [if_neg c4] at H; have c4b0 : ((wrap64 ((wrap64 (a1 * a0)) + a2)) == 0) = false := beq_eq_false_iff_ne.mpr c4; have c4b1 : ((wrap64 ((wrap64 (a1 * a0)) + a2)) != 0) = true := bne_iff_ne.mpr c4; by_cases c5 : (wrap64 ((wrap64 (a1 * a0)) + a2)) = (wrap64 (a0 + 1))
 ·rw [if_pos c5] at H; have c5b0 : ((wrap64 ((wrap64 (a1 * a0)) + a2)) == (wrap64 (a0 + 1))) = true := beq_iff_eq.mpr c5; have c5b1 : ((wrap64 ((wrap64 (a1 * a0)) + a2)) != (wrap64 (a0 + 1))) = false := bne_eq_false_iff_eq.mpr c5; clear c5; obtain rfl := Option.some.inj H; go_enter Tryd.func46, Tryd.ntmps46; go_wp2; go_ret; exact ⟨by first | rfl | (simp; done) | (simp [*]; done), by repeat (first | exact Drawn0.refl _ | apply Drawn0.step)⟩
 rw [if_neg c5] at H; have c5b0 : ((wrap64 ((wrap64 (a1 * a0)) + a2)) == (wrap64 (a0 + 1))) = false := beq_eq_false_iff_ne.mpr c5; have c5b1 : ((wrap64 ((wrap64 (a1 * a0)) + a2)) != (wrap64 (a0 + 1))) = true := bne_iff_ne.mpr c5; revert H; refine ic_ (fun c6b0 H => ?_) (fun c6b0 H => ?_)
 ·obtain rfl := Option.some.inj H; go_enter Tryd.func46, Tryd.ntmps46; go_wp2; go_ret; exact ⟨by first | rfl | (simp; done) | (simp [*]; done), by repeat (first | exact Drawn0.refl _ | apply Drawn0.step)⟩
 obtain rfl := Option.some.inj H; go_enter Tryd.func46, Tryd.ntmps46; go_wp2; go_ret; exact ⟨by first | rfl | (simp; done) | (simp [*]; done), by repeat (first | exact Drawn0.refl _ | apply Drawn0.step)⟩

end Go.Proofs.YtmcepfimcedocaaDoor.P
end

section
/-! shorter words -/
namespace Go.Proofs.YtmcepfimcedocaaDoor.P
open Go.RowKit Go.Proofs.YtmcepfimcedocaaDoorW.PrintWords Go.Proofs.YtmcepfimcedocaaDoorW.PrintLast Go.Proofs.YtmcepfimcedocaaDoorW.PrintMore
/-! ### strconv_Itoa_50: function 50 (by hand) -/
def strconv_Itoa_50.f (a0 : Int) : Option ByteArray := if 0 ≤ a0 then (if a0 < 100 then some (⟨(Go.Lib.decDigits a0.toNat).toArray⟩ : ByteArray) else none) else none
theorem strconv_Itoa_50.calls (a0 : Int) (r : ByteArray) (w : World) (h : strconv_Itoa_50.f a0 = some r) :
  Calls Tryd.prog 50 #[.int .i64 a0] w fun e w' => e = .returned (.string r) ∧ Drawn0 w w' := by
 unfold strconv_Itoa_50.f at h
 by_cases c : 0 ≤ a0
 ·rw [if_pos c] at h; by_cases c1 : a0 < 100
  ·rw [if_pos c1] at h; obtain rfl := Option.some.inj h; obtain ⟨i, rfl⟩ := Int.eq_ofNat_of_zero_le c
   refine (itoa_small i (by omega) w).mono fun e w' ⟨he, hw⟩ => ?_
   subst he hw; exact ⟨rfl, Drawn0.refl _⟩
  rw [if_neg c1] at h; cases h
 rw [if_neg c] at h; cases h
end Go.Proofs.YtmcepfimcedocaaDoor.P
end
