-- Printed by this session's own program (wip/tools/mkprint.py) out of the translation. Not trusted: Lean checks it.
import Derived.Test.YtlhiacnmcckjgaaDoorP0
/-! short words -/
namespace Go.Proofs.YtlhiacnmcckjgaaDoor.P
open Go.RowKit Go.Proofs.YtlhiacnmcckjgaaDoorW.PrintWords Go.Proofs.YtlhiacnmcckjgaaDoorW.PrintLast Go.Proofs.YtlhiacnmcckjgaaDoorW.PrintMore
attribute [local go_sem] max2_int min2_int max_two min_two max_three min_three max_four min_four   -- for this text's walks alone
set_option linter.unusedVariables false
set_option linter.unusedSimpArgs false

/-! ### spec_l1Decimal: function 31 -/
def spec_l1Decimal.f : Nat → Int → Option (ByteArray)
 | 0, _ => none
 | k + 1, a0 => (some (([(wrap64 (48 + (Int.tmod a0 10))) % 256] : List Int) : List Int)).bind fun y108 => (if a0 ≥ 10 then ((spec_l1Decimal.f k (wrap64 (Int.tdiv a0 10))).bind fun t111 => (if t111.size + (strOfNums y108).size ≤ 9223372036854775807 then (some (t111 ++ (strOfNums y108))) else (none))) else (some (strOfNums y108)))
set_option maxHeartbeats 8000000 in
set_option maxRecDepth 100000 in
theorem spec_l1Decimal.calls (k : Nat) : ∀ (a0 : Int) (r : ByteArray) (w : World) (h : spec_l1Decimal.f k a0 = some r),
  Calls Tryd.prog 31 #[.int .i64 a0] w fun e w' => e = .returned (.string r) ∧ Below w.heap.size w w' := by
 induction k using Nat.strongRecOn with
 | _ k ih =>
 intro a0 r w h
 cases k with
 | zero => exact absurd h (by simp [spec_l1Decimal.f])
 | succ k =>
 simp only [spec_l1Decimal.f] at h
 have HB := sd_ (Below.refl w.heap.size w)
 have H : ((some (([(wrap64 (48 + (Int.tmod a0 10))) % 256] : List Int) : List Int)).bind fun y108 => (if a0 ≥ 10 then ((spec_l1Decimal.f k (wrap64 (Int.tdiv a0 10))).bind fun t111 => (if t111.size + (strOfNums y108).size ≤ 9223372036854775807 then (some (t111 ++ (strOfNums y108))) else (none))) else (some (strOfNums y108)))) = some r := h
 clear h
 obtain ⟨y108, hy108⟩ : ∃ y_ : List Int, y_ = (([(wrap64 (48 + (Int.tmod a0 10))) % 256] : List Int)) := ⟨_, rfl⟩
 replace H : (if a0 ≥ 10 then ((spec_l1Decimal.f k (wrap64 (Int.tdiv a0 10))).bind fun t111 => (if t111.size + (strOfNums y108).size ≤ 9223372036854775807 then (some (t111 ++ (strOfNums y108))) else (none))) else (some (strOfNums y108))) = some r := by first | (rw [hy108]; with_reducible exact H) | (have H2_ := (Option.bind_some _ _).symm.trans H; rw [hy108]; with_reducible exact H2_) | (have H2_ := (Option.bind_some _ _).symm.trans H; with_reducible exact H2_) | with_reducible exact H | (rw [hy108]; exact H) | exact H
 have Ny108 := sd_ hy108
 clear hy108
 have HP2 := sd_ H
 clear H
 go_enter Tryd.func31, Tryd.ntmps31
 go_upto_if 11 with (first | ((with_reducible refine gate_dst (N := 8) rfl ?_); refine Kd.R_lit (Kd.int .u8) _ 5 ?hg (N := 8) ?hd (xs := ([(wrap64 (48 + (Int.tmod a0 10))) % 256] : List Int)) (inner := [.int .u8 ((wrap64 (48 + (Int.tmod a0 10))) % 256)]) (ok := fun _ => True) (okp := fun _ => True) ?hr ?hp (fun _ hk => hk) trivial (Below.refl _ _) (Nat.le_refl _) (by simp) ?_; (case hd => rfl); (case hg => rfl); (case hr => first | (go_simp; done) | (go_simp; rfl)); (case hp => exact (Reps.one (show Kd.M (Kd.int .u8) _ _ _ ((wrap64 (48 + (Int.tmod a0 10))) % 256) [.int .u8 ((wrap64 (48 + (Int.tmod a0 10))) % 256)] from rfl) (Reps.none _ _))); intro v109 w3 ho4 hb hg_ hnew_; clear hg_ hnew_; (first | rw [← Ny108.out] at ho4 | (simp only [Int.reduceToNat] at ho4; rw [← Ny108.out] at ho4)); have HO110 := sd_ (Kd.R_lower ho4 (below_size (bw0_ HB.out))); replace HB := sd_ (below_step (bw0_ HB.out) hb); clear hb ho4; have hcv5 := own_string (P := Tryd.prog) Tryd.underlying46 Tryd.underlying5 Tryd.underlying9 (Kd.own_of_R HO110.out)))
 have H := HP2.out
 clear HP2
 by_cases c6 : a0 ≥ 10
 ·rw [if_pos c6] at H
  have c6b0 : decide (10 ≤ a0) = true := decide_eq_true c6
  clear c6
  (first | rw [c6b0] | (simp only [i64_w, i32_w]; rw [c6b0]) | skip)
  replace H := Option.bind_eq_some_iff.mp H
  obtain ⟨t111, A70, H⟩ := H
  try dsimp only at H
  have A7 := sd_ A70
  clear A70
  by_cases c8 : t111.size + (strOfNums y108).size ≤ 9223372036854775807
  ·rw [if_pos c8] at H
   have c8b0 := eq_true c8
   have c8b1 : decide (t111.size + (strOfNums y108).size ≤ 9223372036854775807) = true := decide_eq_true c8
   try have c8b2 : (9223372036854775807 < t111.size + (strOfNums y108).size) = False := eq_false (Nat.not_lt.2 c8)
   obtain rfl := Option.some.inj H
   go_wp2_with (first | ((with_reducible refine gate_callee (f := 31) rfl ?_); refine goesL_ (some 14) rfl rfl Tryd.func31 (by kernel_rfl) rfl #[.int .i64 (wrap64 (Int.tdiv a0 10))] rfl la_ ?_; (with_reducible refine (ih k (by omega) (wrap64 (Int.tdiv a0 10)) t111 _ A7.out).mono ?_); rintro e w9 ⟨rfl, hb⟩; refine ⟨_, rfl, ?_⟩; replace HO110 := sd_ (Kd.R_below (ro_ HO110.out) hb); replace HB := sd_ (below_step (bw0_ HB.out) hb); (try clear hb)))
   go_ret
   exact ⟨an_, bw0_ HB.out⟩
  rw [if_neg c8] at H
  exact absurd H (by simp)
 rw [if_neg c6] at H
 have c6b0 : decide (10 ≤ a0) = false := decide_eq_false c6
 clear c6
 (first | rw [c6b0] | (simp only [i64_w, i32_w]; rw [c6b0]) | skip)
 obtain rfl := Option.some.inj H
 go_wp2
 go_ret
 exact ⟨an_, bw0_ HB.out⟩

end Go.Proofs.YtlhiacnmcckjgaaDoor.P
