-- Several texts in one (wip/tools/merge.py).
import Derived.Test.YtipfkicndjddgaaP0
import Derived.Lib.SliceRun
import Derived.Test.YtipfkicndjddgaaM2
import Derived.Test.YtipfkicndjddgaaM6
section
namespace Go.Proofs.Ytipfkicndjddgaa.P
open Go.RowKit Go.Proofs.YtipfkicndjddgaaW.PrintWords Go.Proofs.YtipfkicndjddgaaW.PrintLast
set_option linter.unusedVariables false
set_option linter.unusedSimpArgs false
/-! ### slices_Clone_int_int: function 121 (by hand) -/
def slices_Clone_int_int.f (l0 : List Int) : Option (List Int) := if ([] : List Int).length + l0.length < 17592186044416 then some ([] ++ l0) else none
set_option maxHeartbeats 8000000 in
set_option maxRecDepth 100000 in
theorem slices_Clone_int_int.calls (A0 : Option Addr) (c0 : Nat) (l0 : List Int) (r : List Int) (w : World) (hr0 : Kd.C (Kd.int .i64) w A0 l0.length l0) (hc0 : l0.length ≤ c0) (h : slices_Clone_int_int.f l0 = some r) :
  Calls Try.prog 121 #[.slice A0 l0.length c0] w fun e w' => ∃ v0_ : Value, e = .returned (v0_) ∧ Kd.R (Kd.int .i64) 3 w' w.heap.size (fun _ => True) v0_ r ∧ Below w.heap.size w w' := by
 have HR0 := sd_ hr0
 have HC0 := sd_ hc0
 clear hr0 hc0
 have HB := sd_ (Below.refl w.heap.size w)
 have H : (if ([] : List Int).length + l0.length < 17592186044416 then some ([] ++ l0) else none) = some r := h
 clear h
 obtain ⟨y108, hy108⟩ : ∃ y_ : List Int, y_ = (([] : List Int)) := ⟨_, rfl⟩
 rw [← hy108] at H
 have Ny108 := sd_ hy108
 clear hy108
 by_cases c2 : y108.length + l0.length < 17592186044416
 ·rw [if_pos c2] at H
  have LMc2 := sd_ c2
  clear c2
  obtain ⟨y111, hy111⟩ : ∃ y_ : List Int, y_ = (y108 ++ l0) := ⟨_, rfl⟩
  rw [← hy111] at H
  have Ny111 := sd_ hy111
  clear hy111
  obtain rfl := Option.some.inj H
  have q22 : ∀ (w : World) (a : Option Addr) (n c : Nat), (binOp .eql 22 (.slice a n c) (.slice none 0 0)).run Try.prog w = .ok (.bool a.isNone) w := fun w a n c => Go.Lib.run_eql_slice_nil w 22 3 a n c 0 0 Try.underlying22
  cases A0 with
  | none =>
   have e0 : l0 = [] := by
    rcases l0 with _ | ⟨z, zs⟩
    ·rfl
    obtain ⟨ad, e, _⟩ := Kd.at_int HR0.out 0 (by omega) (by simp only [List.length_cons]; omega)
    cases e
   subst e0
   have e1 : y111 = [] := by rw [Ny111.out, Ny108.out]; rfl
   rw [e1]
   go_enter Try.func121, Try.ntmps121
   go_wp2
   go_ret
   exact ⟨_, by first | rfl | simp, Kd.R_nil _ _ _ _ _, HB.out⟩
  | some ad =>
   go_enter Try.func121, Try.ntmps121
   go_wp2_with (first | ((with_reducible refine gate_dst (N := 5) rfl ?_); refine Kd.R_lit (Kd.int .i64) _ 3 ?hg (N := 5) ?hd (xs := ([] : List Int)) (inner := []) (ok := fun _ => True) (okp := fun _ => True) ?hr ?hp (fun _ hk => hk) trivial (Below.refl _ _) (Nat.le_refl _) (by simp) ?_; (case hd => rfl); (case hg => rfl); (case hr => first | (go_simp; done) | (go_simp; rfl)); (case hp => exact (Reps.none _ _)); intro v109 w3 ho4 hb hg_ hnew_; clear hg_ hnew_; (first | rw [← Ny108.out] at ho4 | (simp only [Int.reduceToNat] at ho4; rw [← Ny108.out] at ho4)); have HO110 := sd_ (Kd.R_lower ho4 (below_size HB.out)); replace HB := sd_ (below_step HB.out hb); clear hb ho4) | ((with_reducible refine gate_builtin (b := .append) (xs := #[.tmp 5, .tmp 6]) rfl ?_); at_builtin; refine Kd.R_append_rows (Kd.int .i64) (w0 := w) w.heap.size rfl (.tmp 5) (.tmp 6) 22 3 (.int .i64 0) 8 rfl Try.underlying22 info3 rfl (by decide) (by omega) v109 y108 l0 _ _ _ (fun _ => True) (fun _ => False) rfl rfl ?aO ?aR (fun _ _ h => h) (fun _ h => h.elim) ?aF ?aB ?aS ?aL ?_; (case aR => exact (Kd.C_below HR0.out HB.out)); (case aB => exact HB.out); (case aF => exact (fun _ _ => trivial)); (case aO => exact HO110.out); (case aS => exact (below_size HB.out)); (case aL => have := LMc2.out; omega); intro v112 w5 ho hb hg hat; rw [← Ny111.out] at ho; have n0_ := sd_ (hb); have n1_ := sd_ (ho); clear HB; clear HO110; have HB := n0_; have HO113 := n1_; clear n0_ n1_; clear ho hb hg hat))
   go_ret
   exact ⟨_, by first | rfl | simp, HO113.out, HB.out⟩
 rw [if_neg c2] at H
 exact absurd H (by simp)
end Go.Proofs.Ytipfkicndjddgaa.P
end

section
namespace Go.Proofs.Ytipfkicndjddgaa.P
open Go.RowKit Go.Proofs.YtipfkicndjddgaaW.PrintWords Go.Proofs.YtipfkicndjddgaaW.PrintLast Go.Proofs.YtipfkicndjddgaaW.PrintMore
attribute [local go_sem] max2_int min2_int max_two min_two max_three min_three max_four min_four   -- for this text's walks alone
set_option linter.unusedVariables false
set_option linter.unusedSimpArgs false

/-! ### impl_shape: function 122 -/
def impl_shape.f (a0 : Int) : Option (Int × Int) := (impl_within.f a0 0 2).bind fun t225 => (if t225 = true then (some (a0, (-1))) else ((impl_within.f a0 3 18).bind fun t226 => (if t226 = true then (some (3, wrap64 (a0 - 3))) else ((impl_within.f a0 19 34).bind fun t227 => (if t227 = true then (some (4, wrap64 (a0 - 19))) else (if a0 = 35 then (some (3, (-1))) else (if a0 = 36 then (some (4, (-1))) else (some (5, (-1))))))))))
set_option maxHeartbeats 8000000 in
set_option maxRecDepth 100000 in
theorem impl_shape.calls (a0 : Int) (r1 : Int) (r2 : Int) (w : World) (h : impl_shape.f a0 = some (r1, r2)) :
  Calls Try.prog 122 #[.int .i64 a0] w fun e w' => e = .returned (.tuple #[.int .i64 r1, .int .i64 r2]) ∧ Drawn0 w w' := by
 have H : ((impl_within.f a0 0 2).bind fun t225 => (if t225 = true then (some (a0, (-1))) else ((impl_within.f a0 3 18).bind fun t226 => (if t226 = true then (some (3, wrap64 (a0 - 3))) else ((impl_within.f a0 19 34).bind fun t227 => (if t227 = true then (some (4, wrap64 (a0 - 19))) else (if a0 = 35 then (some (3, (-1))) else (if a0 = 36 then (some (4, (-1))) else (some (5, (-1))))))))))) = some (r1, r2) := h
 clear h
 replace H := Option.bind_eq_some_iff.mp H
 obtain ⟨t225, A20, H⟩ := H
 try dsimp only at H
 have A2 := sd_ A20
 clear A20
 by_cases c3 : t225 = true
 ·subst c3
  have H1 : (some (a0, (-1))) = some (r1, r2) := by rw [if_pos rfl] at H; exact H
  clear H
  have H := H1
  clear H1
  simp only [Option.some.injEq, Prod.mk.injEq] at H
  obtain ⟨rfl, rfl⟩ := H
  go_enter Try.func122, Try.ntmps122
  go_wp2_with (first | ((with_reducible refine gate_callee (f := 104) rfl ?_); refine goesL_ (some 6) rfl rfl Try.func104 (by kernel_rfl) rfl #[.int .i64 a0, .int .i64 0, .int .i64 2] rfl la_ ?_; (with_reducible refine (impl_within.calls a0 0 2 true _ A2.out).mono ?_); rintro e w' ⟨rfl, ⟨nd, rfl⟩⟩; refine ⟨_, rfl, ?_⟩))
  go_ret2
  exact ⟨by first | rfl | (simp; done) | (simp [*]; done), by repeat (first | exact Drawn0.refl _ | apply Drawn0.step)⟩
 replace c3 := Bool.eq_false_iff.mpr c3
 subst c3
 have H1 : ((impl_within.f a0 3 18).bind fun t226 => (if t226 = true then (some (3, wrap64 (a0 - 3))) else ((impl_within.f a0 19 34).bind fun t227 => (if t227 = true then (some (4, wrap64 (a0 - 19))) else (if a0 = 35 then (some (3, (-1))) else (if a0 = 36 then (some (4, (-1))) else (some (5, (-1))))))))) = some (r1, r2) := by rw [if_neg (show ¬ (false = true) by decide)] at H; exact H
 clear H
 have H := H1
 clear H1
 replace H := Option.bind_eq_some_iff.mp H
 obtain ⟨t226, A40, H⟩ := H
 try dsimp only at H
 have A4 := sd_ A40
 clear A40
 by_cases c5 : t226 = true
 ·subst c5
  have H1 : (some (3, wrap64 (a0 - 3))) = some (r1, r2) := by rw [if_pos rfl] at H; exact H
  clear H
  have H := H1
  clear H1
  simp only [Option.some.injEq, Prod.mk.injEq] at H
  obtain ⟨rfl, rfl⟩ := H
  go_enter Try.func122, Try.ntmps122
  go_wp2_with (first | ((with_reducible refine gate_callee (f := 104) rfl ?_); refine goesL_ (some 6) rfl rfl Try.func104 (by kernel_rfl) rfl #[.int .i64 a0, .int .i64 0, .int .i64 2] rfl la_ ?_; (with_reducible refine (impl_within.calls a0 0 2 false _ A2.out).mono ?_); rintro e w' ⟨rfl, ⟨nd, rfl⟩⟩; refine ⟨_, rfl, ?_⟩) | ((with_reducible refine gate_callee (f := 104) rfl ?_); refine goesL_ (some 10) rfl rfl Try.func104 (by kernel_rfl) rfl #[.int .i64 a0, .int .i64 3, .int .i64 18] rfl la_ ?_; (with_reducible refine (impl_within.calls a0 3 18 true _ A4.out).mono ?_); rintro e w' ⟨rfl, ⟨nd, rfl⟩⟩; refine ⟨_, rfl, ?_⟩))
  go_ret2
  exact ⟨by first | rfl | (simp; done) | (simp [*]; done), by repeat (first | exact Drawn0.refl _ | apply Drawn0.step)⟩
 replace c5 := Bool.eq_false_iff.mpr c5
 subst c5
 have H1 : ((impl_within.f a0 19 34).bind fun t227 => (if t227 = true then (some (4, wrap64 (a0 - 19))) else (if a0 = 35 then (some (3, (-1))) else (if a0 = 36 then (some (4, (-1))) else (some (5, (-1))))))) = some (r1, r2) := by rw [if_neg (show ¬ (false = true) by decide)] at H; exact H
 clear H
 have H := H1
 clear H1
 replace H := Option.bind_eq_some_iff.mp H
 obtain ⟨t227, A60, H⟩ := H
 try dsimp only at H
 have A6 := sd_ A60
 clear A60
 by_cases c7 : t227 = true
 ·subst c7
  have H1 : (some (4, wrap64 (a0 - 19))) = some (r1, r2) := by rw [if_pos rfl] at H; exact H
  clear H
  have H := H1
  clear H1
  simp only [Option.some.injEq, Prod.mk.injEq] at H
  obtain ⟨rfl, rfl⟩ := H
  go_enter Try.func122, Try.ntmps122
  go_wp2_with (first | ((with_reducible refine gate_callee (f := 104) rfl ?_); refine goesL_ (some 6) rfl rfl Try.func104 (by kernel_rfl) rfl #[.int .i64 a0, .int .i64 0, .int .i64 2] rfl la_ ?_; (with_reducible refine (impl_within.calls a0 0 2 false _ A2.out).mono ?_); rintro e w' ⟨rfl, ⟨nd, rfl⟩⟩; refine ⟨_, rfl, ?_⟩) | ((with_reducible refine gate_callee (f := 104) rfl ?_); refine goesL_ (some 10) rfl rfl Try.func104 (by kernel_rfl) rfl #[.int .i64 a0, .int .i64 3, .int .i64 18] rfl la_ ?_; (with_reducible refine (impl_within.calls a0 3 18 false _ A4.out).mono ?_); rintro e w' ⟨rfl, ⟨nd, rfl⟩⟩; refine ⟨_, rfl, ?_⟩) | ((with_reducible refine gate_callee (f := 104) rfl ?_); refine goesL_ (some 15) rfl rfl Try.func104 (by kernel_rfl) rfl #[.int .i64 a0, .int .i64 19, .int .i64 34] rfl la_ ?_; (with_reducible refine (impl_within.calls a0 19 34 true _ A6.out).mono ?_); rintro e w' ⟨rfl, ⟨nd, rfl⟩⟩; refine ⟨_, rfl, ?_⟩))
  go_ret2
  exact ⟨by first | rfl | (simp; done) | (simp [*]; done), by repeat (first | exact Drawn0.refl _ | apply Drawn0.step)⟩
 replace c7 := Bool.eq_false_iff.mpr c7
 subst c7
 have H1 : (if a0 = 35 then (some (3, (-1))) else (if a0 = 36 then (some (4, (-1))) else (some (5, (-1))))) = some (r1, r2) := by rw [if_neg (show ¬ (false = true) by decide)] at H; exact H
 clear H
 have H := H1
 clear H1
 by_cases c8 : a0 = 35
 ·rw [if_pos c8] at H
  have c8b0 : (a0 == 35) = true := beq_iff_eq.mpr c8
  have c8b1 : (a0 != 35) = false := bne_eq_false_iff_eq.mpr c8
  clear c8
  simp only [Option.some.injEq, Prod.mk.injEq] at H
  obtain ⟨rfl, rfl⟩ := H
  go_enter Try.func122, Try.ntmps122
  go_wp2_with (first | ((with_reducible refine gate_callee (f := 104) rfl ?_); refine goesL_ (some 6) rfl rfl Try.func104 (by kernel_rfl) rfl #[.int .i64 a0, .int .i64 0, .int .i64 2] rfl la_ ?_; (with_reducible refine (impl_within.calls a0 0 2 false _ A2.out).mono ?_); rintro e w' ⟨rfl, ⟨nd, rfl⟩⟩; refine ⟨_, rfl, ?_⟩) | ((with_reducible refine gate_callee (f := 104) rfl ?_); refine goesL_ (some 10) rfl rfl Try.func104 (by kernel_rfl) rfl #[.int .i64 a0, .int .i64 3, .int .i64 18] rfl la_ ?_; (with_reducible refine (impl_within.calls a0 3 18 false _ A4.out).mono ?_); rintro e w' ⟨rfl, ⟨nd, rfl⟩⟩; refine ⟨_, rfl, ?_⟩) | ((with_reducible refine gate_callee (f := 104) rfl ?_); refine goesL_ (some 15) rfl rfl Try.func104 (by kernel_rfl) rfl #[.int .i64 a0, .int .i64 19, .int .i64 34] rfl la_ ?_; (with_reducible refine (impl_within.calls a0 19 34 false _ A6.out).mono ?_); rintro e w' ⟨rfl, ⟨nd, rfl⟩⟩; refine ⟨_, rfl, ?_⟩))
  go_ret2
  exact ⟨by first | rfl | (simp; done) | (simp [*]; done), by repeat (first | exact Drawn0.refl _ | apply Drawn0.step)⟩
 rw [if_neg c8] at H
 have c8b0 : (a0 == 35) = false := beq_eq_false_iff_ne.mpr c8
 have c8b1 : (a0 != 35) = true := bne_iff_ne.mpr c8
 by_cases c9 : a0 = 36
 ·rw [if_pos c9] at H
  have c9b0 : (a0 == 36) = true := beq_iff_eq.mpr c9
  have c9b1 : (a0 != 36) = false := bne_eq_false_iff_eq.mpr c9
  clear c9
  simp only [Option.some.injEq, Prod.mk.injEq] at H
  obtain ⟨rfl, rfl⟩ := H
  go_enter Try.func122, Try.ntmps122
  go_wp2_with (first | ((with_reducible refine gate_callee (f := 104) rfl ?_); refine goesL_ (some 6) rfl rfl Try.func104 (by kernel_rfl) rfl #[.int .i64 a0, .int .i64 0, .int .i64 2] rfl la_ ?_; (with_reducible refine (impl_within.calls a0 0 2 false _ A2.out).mono ?_); rintro e w' ⟨rfl, ⟨nd, rfl⟩⟩; refine ⟨_, rfl, ?_⟩) | ((with_reducible refine gate_callee (f := 104) rfl ?_); refine goesL_ (some 10) rfl rfl Try.func104 (by kernel_rfl) rfl #[.int .i64 a0, .int .i64 3, .int .i64 18] rfl la_ ?_; (with_reducible refine (impl_within.calls a0 3 18 false _ A4.out).mono ?_); rintro e w' ⟨rfl, ⟨nd, rfl⟩⟩; refine ⟨_, rfl, ?_⟩) | ((with_reducible refine gate_callee (f := 104) rfl ?_); refine goesL_ (some 15) rfl rfl Try.func104 (by kernel_rfl) rfl #[.int .i64 a0, .int .i64 19, .int .i64 34] rfl la_ ?_; (with_reducible refine (impl_within.calls a0 19 34 false _ A6.out).mono ?_); rintro e w' ⟨rfl, ⟨nd, rfl⟩⟩; refine ⟨_, rfl, ?_⟩))
  go_ret2
  exact ⟨by first | rfl | (simp; done) | (simp [*]; done), by repeat (first | exact Drawn0.refl _ | apply Drawn0.step)⟩
 rw [if_neg c9] at H
 have c9b0 : (a0 == 36) = false := beq_eq_false_iff_ne.mpr c9
 have c9b1 : (a0 != 36) = true := bne_iff_ne.mpr c9
 simp only [Option.some.injEq, Prod.mk.injEq] at H
 obtain ⟨rfl, rfl⟩ := H
 go_enter Try.func122, Try.ntmps122
 go_wp2_with (first | ((with_reducible refine gate_callee (f := 104) rfl ?_); refine goesL_ (some 6) rfl rfl Try.func104 (by kernel_rfl) rfl #[.int .i64 a0, .int .i64 0, .int .i64 2] rfl la_ ?_; (with_reducible refine (impl_within.calls a0 0 2 false _ A2.out).mono ?_); rintro e w' ⟨rfl, ⟨nd, rfl⟩⟩; refine ⟨_, rfl, ?_⟩) | ((with_reducible refine gate_callee (f := 104) rfl ?_); refine goesL_ (some 10) rfl rfl Try.func104 (by kernel_rfl) rfl #[.int .i64 a0, .int .i64 3, .int .i64 18] rfl la_ ?_; (with_reducible refine (impl_within.calls a0 3 18 false _ A4.out).mono ?_); rintro e w' ⟨rfl, ⟨nd, rfl⟩⟩; refine ⟨_, rfl, ?_⟩) | ((with_reducible refine gate_callee (f := 104) rfl ?_); refine goesL_ (some 15) rfl rfl Try.func104 (by kernel_rfl) rfl #[.int .i64 a0, .int .i64 19, .int .i64 34] rfl la_ ?_; (with_reducible refine (impl_within.calls a0 19 34 false _ A6.out).mono ?_); rintro e w' ⟨rfl, ⟨nd, rfl⟩⟩; refine ⟨_, rfl, ?_⟩))
 go_ret2
 exact ⟨by first | rfl | (simp; done) | (simp [*]; done), by repeat (first | exact Drawn0.refl _ | apply Drawn0.step)⟩


/-! ### impl_adds: function 123 -/
mutual
def impl_adds.j0 : Nat → Int → Int → Bool → Option (Int)
 | 0, _, _, _ => none
 | k + 1, x0, x1, x5 => if x5 = true then (some 2) else (if x0 = 8 then (impl_adds.j1 k x0 x1 (decide (x1 > 0))) else (impl_adds.j1 k x0 x1 false))
def impl_adds.j1 : Nat → Int → Int → Bool → Option (Int)
 | 0, _, _, _ => none
 | k + 1, x0, x1, x12 => if x12 = true then (some 1) else (if x0 = 9 then (some 1) else (if x0 = 12 then (if x1 = 1 then (some 1) else (some 0)) else (some 0)))
end
def impl_adds.f (k : Nat) (a0 : Int) (a1 : Int) : Option (Int) := if a0 = 5 then (impl_adds.j0 k a0 a1 (a1 == 1)) else (impl_adds.j0 k a0 a1 false)
set_option maxHeartbeats 8000000 in
set_option maxRecDepth 100000 in
theorem impl_adds.calls (k : Nat) (a0 : Int) (a1 : Int) (r : Int) (w : World) (h : impl_adds.f k a0 a1 = some r) :
  Calls Try.prog 123 #[.int .i64 a0, .int .i64 a1] w fun e w' => e = .returned (.int .i64 r) ∧ Drawn0 w w' := by
 have H : (if a0 = 5 then (impl_adds.j0 k a0 a1 (a1 == 1)) else (impl_adds.j0 k a0 a1 false)) = some r := h
 clear h
 have HC3 := sd_ H
 clear H
 go_enter Try.func123, Try.ntmps123
 go_upto_region 1 with (fail)
 go_cut [5] (fun v5 wc => ∃ (kq : Nat) (x5_2 : Bool), v5 = .bool x5_2 ∧ Aside0 (impl_adds.j0 kq a0 a1 x5_2 = some r) ∧ Aside0 (kq ≤ k) ∧ Drawn0 w wc)
 case first =>
  have H := HC3.out
  clear HC3
  by_cases c4 : a0 = 5
  ·rw [if_pos c4] at H
   have c4b0 : (a0 == 5) = true := beq_iff_eq.mpr c4
   have c4b1 : (a0 != 5) = false := bne_eq_false_iff_eq.mpr c4
   clear c4
   (first | rw [c4b0] | (simp only [i64_w, i32_w]; rw [c4b0]) | skip)
   have H' := sd_ H
   clear H
   go_wp2
   go_meet
   case rel => exact ⟨_, ((a1 == 1)), sm_, H', ⟨by first | omega | exact Nat.le_refl _⟩, by repeat (first | exact Drawn0.refl _ | apply Drawn0.step)⟩
  rw [if_neg c4] at H
  have c4b0 : (a0 == 5) = false := beq_eq_false_iff_ne.mpr c4
  have c4b1 : (a0 != 5) = true := bne_iff_ne.mpr c4
  (first | rw [c4b0] | (simp only [i64_w, i32_w]; rw [c4b0]) | skip)
  have H' := sd_ H
  clear H
  go_wp2
  go_meet
  case rel => exact ⟨_, (false), sm_, H', ⟨by first | omega | exact Nat.le_refl _⟩, by repeat (first | exact Drawn0.refl _ | apply Drawn0.step)⟩
 case rest =>
  clear HC3
  try clear c1
  obtain ⟨kq, x5_2, rfl, HA, HJ2, ⟨mc2, rfl⟩⟩ := hcut
  cases kq with
  | zero => exact absurd HA.out (by simp [impl_adds.j0])
  | succ kj2 =>
   have H := HA.out
   clear HA
   simp only [impl_adds.j0] at H
   by_cases c5 : x5_2 = true
   ·subst c5
    have H1 : (some 2) = some r := by rw [if_pos rfl] at H; exact H
    clear H
    have H := H1
    clear H1
    obtain rfl := Option.some.inj H
    go_wp2
    go_ret
    exact ⟨by first | rfl | (simp; done) | (simp [*]; done), by repeat (first | exact Drawn0.refl _ | apply Drawn0.step)⟩
   replace c5 := Bool.eq_false_iff.mpr c5
   subst c5
   have H1 : (if a0 = 8 then (impl_adds.j1 kj2 a0 a1 (decide (a1 > 0))) else (impl_adds.j1 kj2 a0 a1 false)) = some r := by rw [if_neg (show ¬ (false = true) by decide)] at H; exact H
   clear H
   have H := H1
   clear H1
   have HC6 := sd_ H
   clear H
   go_upto_region 3 with (fail)
   go_cut [12] (fun v12 wc => ∃ (kq : Nat) (x12_5 : Bool), v12 = .bool x12_5 ∧ Aside0 (impl_adds.j1 kq a0 a1 x12_5 = some r) ∧ Aside0 (kq ≤ kj2) ∧ Drawn0 w wc)
   case first =>
    have H := HC6.out
    clear HC6
    by_cases c7 : a0 = 8
    ·rw [if_pos c7] at H
     have c7b0 : (a0 == 8) = true := beq_iff_eq.mpr c7
     have c7b1 : (a0 != 8) = false := bne_eq_false_iff_eq.mpr c7
     clear c7
     (first | rw [c7b0] | (simp only [i64_w, i32_w]; rw [c7b0]) | skip)
     have H' := sd_ H
     clear H
     go_wp2
     go_meet
     case rel => exact ⟨_, (decide (a1 > 0)), sm_, H', ⟨by have := HJ2.out; first | omega | exact Nat.le_refl _⟩, by repeat (first | exact Drawn0.refl _ | apply Drawn0.step)⟩
    rw [if_neg c7] at H
    have c7b0 : (a0 == 8) = false := beq_eq_false_iff_ne.mpr c7
    have c7b1 : (a0 != 8) = true := bne_iff_ne.mpr c7
    (first | rw [c7b0] | (simp only [i64_w, i32_w]; rw [c7b0]) | skip)
    have H' := sd_ H
    clear H
    go_wp2
    go_meet
    case rel => exact ⟨_, (false), sm_, H', ⟨by have := HJ2.out; first | omega | exact Nat.le_refl _⟩, by repeat (first | exact Drawn0.refl _ | apply Drawn0.step)⟩
   case rest =>
    clear HC6
    try clear c1
    try clear c2
    try clear c5
    obtain ⟨kq, x12_5, rfl, HA, HJ5, ⟨mc5, rfl⟩⟩ := hcut
    cases kq with
    | zero => exact absurd HA.out (by simp [impl_adds.j1])
    | succ kj5 =>
     have H := HA.out
     clear HA
     simp only [impl_adds.j1] at H
     by_cases c8 : x12_5 = true
     ·subst c8
      have H1 : (some 1) = some r := by rw [if_pos rfl] at H; exact H
      clear H
      have H := H1
      clear H1
      obtain rfl := Option.some.inj H
      go_wp2
      go_ret
      exact ⟨by first | rfl | (simp; done) | (simp [*]; done), by repeat (first | exact Drawn0.refl _ | apply Drawn0.step)⟩
     replace c8 := Bool.eq_false_iff.mpr c8
     subst c8
     have H1 : (if a0 = 9 then (some 1) else (if a0 = 12 then (if a1 = 1 then (some 1) else (some 0)) else (some 0))) = some r := by rw [if_neg (show ¬ (false = true) by decide)] at H; exact H
     clear H
     have H := H1
     clear H1
     by_cases c9 : a0 = 9
     ·rw [if_pos c9] at H
      have c9b0 : (a0 == 9) = true := beq_iff_eq.mpr c9
      have c9b1 : (a0 != 9) = false := bne_eq_false_iff_eq.mpr c9
      clear c9
      obtain rfl := Option.some.inj H
      go_wp2
      go_ret
      exact ⟨by first | rfl | (simp; done) | (simp [*]; done), by repeat (first | exact Drawn0.refl _ | apply Drawn0.step)⟩
     rw [if_neg c9] at H
     have c9b0 : (a0 == 9) = false := beq_eq_false_iff_ne.mpr c9
     have c9b1 : (a0 != 9) = true := bne_iff_ne.mpr c9
     by_cases c10 : a0 = 12
     ·rw [if_pos c10] at H
      have c10b0 : (a0 == 12) = true := beq_iff_eq.mpr c10
      have c10b1 : (a0 != 12) = false := bne_eq_false_iff_eq.mpr c10
      clear c10
      by_cases c11 : a1 = 1
      ·rw [if_pos c11] at H
       have c11b0 : (a1 == 1) = true := beq_iff_eq.mpr c11
       have c11b1 : (a1 != 1) = false := bne_eq_false_iff_eq.mpr c11
       clear c11
       obtain rfl := Option.some.inj H
       go_wp2
       go_ret
       exact ⟨by first | rfl | (simp; done) | (simp [*]; done), by repeat (first | exact Drawn0.refl _ | apply Drawn0.step)⟩
      rw [if_neg c11] at H
      have c11b0 : (a1 == 1) = false := beq_eq_false_iff_ne.mpr c11
      have c11b1 : (a1 != 1) = true := bne_iff_ne.mpr c11
      obtain rfl := Option.some.inj H
      go_wp2
      go_ret
      exact ⟨by first | rfl | (simp; done) | (simp [*]; done), by repeat (first | exact Drawn0.refl _ | apply Drawn0.step)⟩
     rw [if_neg c10] at H
     have c10b0 : (a0 == 12) = false := beq_eq_false_iff_ne.mpr c10
     have c10b1 : (a0 != 12) = true := bne_iff_ne.mpr c10
     obtain rfl := Option.some.inj H
     go_wp2
     go_ret
     exact ⟨by first | rfl | (simp; done) | (simp [*]; done), by repeat (first | exact Drawn0.refl _ | apply Drawn0.step)⟩


/-! ### spec_l2Many: function 136 -/
def spec_l2Many.f (a0 : Int) : Option (Int) := (spec_l1In.f a0 0 12).bind fun t116 => (if t116 = true then ((some (([0, 0, 2, 3, 2, 2, 1, 1, 3, 1, 2, 1, 2] : List Int) : List Int)).bind fun y117 => (if 0 ≤ a0 then (if a0 < (y117.length : Int) then (some (rd y117 a0)) else (none)) else (none))) else (some (-1)))
set_option maxHeartbeats 8000000 in
set_option maxRecDepth 100000 in
theorem spec_l2Many.calls (a0 : Int) (r : Int) (w : World) (h : spec_l2Many.f a0 = some r) :
  Calls Try.prog 136 #[.int .i64 a0] w fun e w' => e = .returned (.int .i64 r) ∧ Below w.heap.size w w' := by
 have HB := sd_ (Below.refl w.heap.size w)
 have H : ((spec_l1In.f a0 0 12).bind fun t116 => (if t116 = true then ((some (([0, 0, 2, 3, 2, 2, 1, 1, 3, 1, 2, 1, 2] : List Int) : List Int)).bind fun y117 => (if 0 ≤ a0 then (if a0 < (y117.length : Int) then (some (rd y117 a0)) else (none)) else (none))) else (some (-1)))) = some r := h
 clear h
 replace H := Option.bind_eq_some_iff.mp H
 obtain ⟨t116, A20, H⟩ := H
 try dsimp only at H
 have A2 := sd_ A20
 clear A20
 by_cases c3 : t116 = true
 ·subst c3
  have H1 : ((some (([0, 0, 2, 3, 2, 2, 1, 1, 3, 1, 2, 1, 2] : List Int) : List Int)).bind fun y117 => (if 0 ≤ a0 then (if a0 < (y117.length : Int) then (some (rd y117 a0)) else (none)) else (none))) = some r := by rw [if_pos rfl] at H; exact H
  clear H
  have H := H1
  clear H1
  obtain ⟨y117, hy117⟩ : ∃ y_ : List Int, y_ = (([0, 0, 2, 3, 2, 2, 1, 1, 3, 1, 2, 1, 2] : List Int)) := ⟨_, rfl⟩
  replace H : (if 0 ≤ a0 then (if a0 < (y117.length : Int) then (some (rd y117 a0)) else (none)) else (none)) = some r := by first | (rw [hy117]; with_reducible exact H) | (have H2_ := (Option.bind_some _ _).symm.trans H; rw [hy117]; with_reducible exact H2_) | (have H2_ := (Option.bind_some _ _).symm.trans H; with_reducible exact H2_) | with_reducible exact H | (rw [hy117]; exact H) | exact H
  have Ny117 := sd_ hy117
  clear hy117
  by_cases c4 : 0 ≤ a0
  ·rw [if_pos c4] at H
   have c4b0 : decide (0 ≤ a0) = true := decide_eq_true c4
   clear c4
   by_cases c5 : a0 < (y117.length : Int)
   ·rw [if_pos c5] at H
    have c5b0 : decide (a0 < (y117.length : Int)) = true := decide_eq_true c5
    clear c5
    obtain rfl := Option.some.inj H
    go_enter Try.func136, Try.ntmps136
    go_wp2_with (first | ((with_reducible refine gate_callee (f := 112) rfl ?_); refine goesL_ (some 4) rfl rfl Try.func112 (by kernel_rfl) rfl #[.int .i64 a0, .int .i64 0, .int .i64 12] rfl la_ ?_; (with_reducible refine (spec_l1In.calls a0 0 12 true _ A2.out).mono ?_); rintro e w' ⟨rfl, ⟨nd, rfl⟩⟩; refine ⟨_, rfl, ?_⟩) | ((with_reducible refine gate_dst (N := 6) rfl ?_); refine Kd.R_lit (Kd.int .i64) _ 3 ?hg (N := 6) ?hd (xs := ([0, 0, 2, 3, 2, 2, 1, 1, 3, 1, 2, 1, 2] : List Int)) (inner := [.int .i64 0, .int .i64 0, .int .i64 2, .int .i64 3, .int .i64 2, .int .i64 2, .int .i64 1, .int .i64 1, .int .i64 3, .int .i64 1, .int .i64 2, .int .i64 1, .int .i64 2]) (ok := fun _ => True) (okp := fun _ => True) ?hr ?hp (fun _ hk => hk) trivial (Below.refl _ _) (Nat.le_refl _) (by simp) ?_; (case hd => rfl); (case hg => rfl); (case hr => first | (go_simp; done) | (go_simp; rfl)); (case hp => exact (Reps.one (show Kd.M (Kd.int .i64) _ _ _ 0 [.int .i64 0] from rfl) (Reps.one (show Kd.M (Kd.int .i64) _ _ _ 0 [.int .i64 0] from rfl) (Reps.one (show Kd.M (Kd.int .i64) _ _ _ 2 [.int .i64 2] from rfl) (Reps.one (show Kd.M (Kd.int .i64) _ _ _ 3 [.int .i64 3] from rfl) (Reps.one (show Kd.M (Kd.int .i64) _ _ _ 2 [.int .i64 2] from rfl) (Reps.one (show Kd.M (Kd.int .i64) _ _ _ 2 [.int .i64 2] from rfl) (Reps.one (show Kd.M (Kd.int .i64) _ _ _ 1 [.int .i64 1] from rfl) (Reps.one (show Kd.M (Kd.int .i64) _ _ _ 1 [.int .i64 1] from rfl) (Reps.one (show Kd.M (Kd.int .i64) _ _ _ 3 [.int .i64 3] from rfl) (Reps.one (show Kd.M (Kd.int .i64) _ _ _ 1 [.int .i64 1] from rfl) (Reps.one (show Kd.M (Kd.int .i64) _ _ _ 2 [.int .i64 2] from rfl) (Reps.one (show Kd.M (Kd.int .i64) _ _ _ 1 [.int .i64 1] from rfl) (Reps.one (show Kd.M (Kd.int .i64) _ _ _ 2 [.int .i64 2] from rfl) (Reps.none _ _))))))))))))))); intro v118 w6 ho7 hb hg_ hnew_; clear hg_ hnew_; (first | rw [← Ny117.out] at ho7 | (simp only [Int.reduceToNat] at ho7; rw [← Ny117.out] at ho7)); have HO119 := sd_ (Kd.R_lower ho7 (below_size (bw0_ HB.out))); replace HB := sd_ (below_step (bw0_ HB.out) hb); clear hb ho7; obtain ⟨Ao8, co8, eo8⟩ := Kd.R_slice HO119.out; subst eo8; have p120 : 0 ≤ (a0 : Int) := dt_; have q120 : a0 < (y117.length : Int) := dt_; obtain ⟨ad120, e120, hx120_0⟩ := Kd.at_int (Kd.R_reads' HO119.out).2.2 a0 p120 q120; cases e120; replace p120 := eq_true p120; replace q120 := eq_true q120))
    go_ret
    exact ⟨an_, bw0_ HB.out⟩
   rw [if_neg c5] at H
   exact absurd H (by simp)
  rw [if_neg c4] at H
  exact absurd H (by simp)
 replace c3 := Bool.eq_false_iff.mpr c3
 subst c3
 have H1 : (some (-1)) = some r := by rw [if_neg (show ¬ (false = true) by decide)] at H; exact H
 clear H
 have H := H1
 clear H1
 obtain rfl := Option.some.inj H
 go_enter Try.func136, Try.ntmps136
 go_wp2_with (first | ((with_reducible refine gate_callee (f := 112) rfl ?_); refine goesL_ (some 4) rfl rfl Try.func112 (by kernel_rfl) rfl #[.int .i64 a0, .int .i64 0, .int .i64 12] rfl la_ ?_; (with_reducible refine (spec_l1In.calls a0 0 12 false _ A2.out).mono ?_); rintro e w' ⟨rfl, ⟨nd, rfl⟩⟩; refine ⟨_, rfl, ?_⟩))
 go_ret
 exact ⟨an_, bw0_ HB.out⟩


/-! ### spec_l2Box: function 139 -/
def spec_l2Box.f (a0 : Int) : Option (Bool) := (spec_l1In.f a0 19 34).bind fun t110 => (if t110 = true then (some true) else (some (a0 == 36)))
set_option maxHeartbeats 8000000 in
set_option maxRecDepth 100000 in
theorem spec_l2Box.calls (a0 : Int) (r : Bool) (w : World) (h : spec_l2Box.f a0 = some r) :
  Calls Try.prog 139 #[.int .i64 a0] w fun e w' => e = .returned (.bool r) ∧ Drawn0 w w' := by
 have H : ((spec_l1In.f a0 19 34).bind fun t110 => (if t110 = true then (some true) else (some (a0 == 36)))) = some r := h
 clear h
 replace H := Option.bind_eq_some_iff.mp H
 obtain ⟨t110, A20, H⟩ := H
 try dsimp only at H
 have A2 := sd_ A20
 clear A20
 by_cases c3 : t110 = true
 ·subst c3
  have H1 : (some true) = some r := by rw [if_pos rfl] at H; exact H
  clear H
  have H := H1
  clear H1
  obtain rfl := Option.some.inj H
  go_enter Try.func139, Try.ntmps139
  go_wp2_with (first | ((with_reducible refine gate_callee (f := 112) rfl ?_); refine goesL_ (some 4) rfl rfl Try.func112 (by kernel_rfl) rfl #[.int .i64 a0, .int .i64 19, .int .i64 34] rfl la_ ?_; (with_reducible refine (spec_l1In.calls a0 19 34 true _ A2.out).mono ?_); rintro e w' ⟨rfl, ⟨nd, rfl⟩⟩; refine ⟨_, rfl, ?_⟩))
  go_ret
  exact ⟨by first | rfl | (simp; done) | (simp [*]; done), by repeat (first | exact Drawn0.refl _ | apply Drawn0.step)⟩
 replace c3 := Bool.eq_false_iff.mpr c3
 subst c3
 have H1 : (some (a0 == 36)) = some r := by rw [if_neg (show ¬ (false = true) by decide)] at H; exact H
 clear H
 have H := H1
 clear H1
 obtain rfl := Option.some.inj H
 go_enter Try.func139, Try.ntmps139
 go_wp2_with (first | ((with_reducible refine gate_callee (f := 112) rfl ?_); refine goesL_ (some 4) rfl rfl Try.func112 (by kernel_rfl) rfl #[.int .i64 a0, .int .i64 19, .int .i64 34] rfl la_ ?_; (with_reducible refine (spec_l1In.calls a0 19 34 false _ A2.out).mono ?_); rintro e w' ⟨rfl, ⟨nd, rfl⟩⟩; refine ⟨_, rfl, ?_⟩))
 go_ret
 exact ⟨by first | rfl | (simp; done) | (simp [*]; done), by repeat (first | exact Drawn0.refl _ | apply Drawn0.step)⟩


/-! ### spec_l2Kids: function 114 -/
def spec_l2Kids.j0 : Nat → Int → Bool → Option (Int)
 | 0, _, _ => none
 | k + 1, x0, x6 => if x6 = true then (some 2) else ((spec_l2Box.f x0).bind fun t112 => (if t112 = true then (some 1) else (some (-1))))
def spec_l2Kids.f (k : Nat) (a0 : Int) : Option (Int) := if a0 = 0 then (some 0) else (if a0 = 1 then (spec_l2Kids.j0 k a0 true) else (if a0 = 2 then (spec_l2Kids.j0 k a0 true) else ((spec_l2Arrow.f a0).bind fun t111 => (spec_l2Kids.j0 k a0 t111))))
set_option maxHeartbeats 8000000 in
set_option maxRecDepth 100000 in
theorem spec_l2Kids.calls (k : Nat) (a0 : Int) (r : Int) (w : World) (h : spec_l2Kids.f k a0 = some r) :
  Calls Try.prog 114 #[.int .i64 a0] w fun e w' => e = .returned (.int .i64 r) ∧ Drawn0 w w' := by
 have H : (if a0 = 0 then (some 0) else (if a0 = 1 then (spec_l2Kids.j0 k a0 true) else (if a0 = 2 then (spec_l2Kids.j0 k a0 true) else ((spec_l2Arrow.f a0).bind fun t111 => (spec_l2Kids.j0 k a0 t111))))) = some r := h
 clear h
 by_cases c2 : a0 = 0
 ·rw [if_pos c2] at H
  have c2b0 : (a0 == 0) = true := beq_iff_eq.mpr c2
  have c2b1 : (a0 != 0) = false := bne_eq_false_iff_eq.mpr c2
  clear c2
  obtain rfl := Option.some.inj H
  go_enter Try.func114, Try.ntmps114
  go_wp2
  go_ret
  exact ⟨by first | rfl | (simp; done) | (simp [*]; done), by repeat (first | exact Drawn0.refl _ | apply Drawn0.step)⟩
 rw [if_neg c2] at H
 have c2b0 : (a0 == 0) = false := beq_eq_false_iff_ne.mpr c2
 have c2b1 : (a0 != 0) = true := bne_iff_ne.mpr c2
 have HC3 := sd_ H
 clear H
 go_enter Try.func114, Try.ntmps114
 go_upto_region 3 with (fail)
 go_cut [6] (fun v6 wc => ∃ (kq : Nat) (x6_2 : Bool), v6 = .bool x6_2 ∧ Aside0 (spec_l2Kids.j0 kq a0 x6_2 = some r) ∧ Aside0 (kq ≤ k) ∧ Drawn0 w wc)
 case first =>
  have H := HC3.out
  clear HC3
  by_cases c4 : a0 = 1
  ·rw [if_pos c4] at H
   have c4b0 : (a0 == 1) = true := beq_iff_eq.mpr c4
   have c4b1 : (a0 != 1) = false := bne_eq_false_iff_eq.mpr c4
   clear c4
   (first | rw [c4b0] | (simp only [i64_w, i32_w]; rw [c4b0]) | skip)
   have H' := sd_ H
   clear H
   go_wp2
   go_meet
   case rel => exact ⟨_, (true), sm_, H', ⟨by first | omega | exact Nat.le_refl _⟩, by repeat (first | exact Drawn0.refl _ | apply Drawn0.step)⟩
  rw [if_neg c4] at H
  have c4b0 : (a0 == 1) = false := beq_eq_false_iff_ne.mpr c4
  have c4b1 : (a0 != 1) = true := bne_iff_ne.mpr c4
  (first | rw [c4b0] | (simp only [i64_w, i32_w]; rw [c4b0]) | skip)
  by_cases c5 : a0 = 2
  ·rw [if_pos c5] at H
   have c5b0 : (a0 == 2) = true := beq_iff_eq.mpr c5
   have c5b1 : (a0 != 2) = false := bne_eq_false_iff_eq.mpr c5
   clear c5
   have H' := sd_ H
   clear H
   go_wp2
   go_meet
   case rel => exact ⟨_, (true), sm_, H', ⟨by first | omega | exact Nat.le_refl _⟩, by repeat (first | exact Drawn0.refl _ | apply Drawn0.step)⟩
  rw [if_neg c5] at H
  have c5b0 : (a0 == 2) = false := beq_eq_false_iff_ne.mpr c5
  have c5b1 : (a0 != 2) = true := bne_iff_ne.mpr c5
  replace H := Option.bind_eq_some_iff.mp H
  obtain ⟨t111, A60, H⟩ := H
  try dsimp only at H
  have A6 := sd_ A60
  clear A60
  have H' := sd_ H
  clear H
  go_wp2_with (first | (go_at_call 117; (with_reducible refine (spec_l2Arrow.calls a0 t111 _ A6.out).mono ?_); rintro e w' ⟨rfl, ⟨nd, rfl⟩⟩))
  go_meet
  case rel => exact ⟨_, (t111), sm_, H', ⟨by first | omega | exact Nat.le_refl _⟩, by repeat (first | exact Drawn0.refl _ | apply Drawn0.step)⟩
 case rest =>
  clear HC3
  try clear c1
  try clear c2
  try clear c2b0
  try clear c2b1
  obtain ⟨kq, x6_2, rfl, HA, HJ2, ⟨mc2, rfl⟩⟩ := hcut
  cases kq with
  | zero => exact absurd HA.out (by simp [spec_l2Kids.j0])
  | succ kj2 =>
   have H := HA.out
   clear HA
   simp only [spec_l2Kids.j0] at H
   by_cases c7 : x6_2 = true
   ·subst c7
    have H1 : (some 2) = some r := by rw [if_pos rfl] at H; exact H
    clear H
    have H := H1
    clear H1
    obtain rfl := Option.some.inj H
    go_wp2
    go_ret
    exact ⟨by first | rfl | (simp; done) | (simp [*]; done), by repeat (first | exact Drawn0.refl _ | apply Drawn0.step)⟩
   replace c7 := Bool.eq_false_iff.mpr c7
   subst c7
   have H1 : ((spec_l2Box.f a0).bind fun t112 => (if t112 = true then (some 1) else (some (-1)))) = some r := by rw [if_neg (show ¬ (false = true) by decide)] at H; exact H
   clear H
   have H := H1
   clear H1
   replace H := Option.bind_eq_some_iff.mp H
   obtain ⟨t112, A80, H⟩ := H
   try dsimp only at H
   have A8 := sd_ A80
   clear A80
   by_cases c9 : t112 = true
   ·subst c9
    have H1 : (some 1) = some r := by rw [if_pos rfl] at H; exact H
    clear H
    have H := H1
    clear H1
    obtain rfl := Option.some.inj H
    go_wp2_with (first | ((with_reducible refine gate_callee (f := 139) rfl ?_); refine goesL_ (some 19) rfl rfl Try.func139 (by kernel_rfl) rfl #[.int .i64 a0] rfl la_ ?_; (with_reducible refine (spec_l2Box.calls a0 true _ A8.out).mono ?_); rintro e w' ⟨rfl, ⟨nd, rfl⟩⟩; refine ⟨_, rfl, ?_⟩))
    go_ret
    exact ⟨by first | rfl | (simp; done) | (simp [*]; done), by repeat (first | exact Drawn0.refl _ | apply Drawn0.step)⟩
   replace c9 := Bool.eq_false_iff.mpr c9
   subst c9
   have H1 : (some (-1)) = some r := by rw [if_neg (show ¬ (false = true) by decide)] at H; exact H
   clear H
   have H := H1
   clear H1
   obtain rfl := Option.some.inj H
   go_wp2_with (first | ((with_reducible refine gate_callee (f := 139) rfl ?_); refine goesL_ (some 19) rfl rfl Try.func139 (by kernel_rfl) rfl #[.int .i64 a0] rfl la_ ?_; (with_reducible refine (spec_l2Box.calls a0 false _ A8.out).mono ?_); rintro e w' ⟨rfl, ⟨nd, rfl⟩⟩; refine ⟨_, rfl, ?_⟩))
   go_ret
   exact ⟨by first | rfl | (simp; done) | (simp [*]; done), by repeat (first | exact Drawn0.refl _ | apply Drawn0.step)⟩

end Go.Proofs.Ytipfkicndjddgaa.P
end
