-- Several texts in one (wip/tools/merge.py).
import Derived.Test.YtjjkagnbdfofbaaM6
import Derived.Test.YtjjkagnbdfofbaaM2
import Derived.Test.YtjjkagnbdfofbaaM5
import Derived.Test.YtjjkagnbdfofbaaM1
import Derived.Test.YtjjkagnbdfofbaaM3
section
/- slices.ContainsFunc over whole numbers. -/
set_option linter.unusedSimpArgs false
set_option linter.unusedVariables false
namespace Go.Proofs.Ytjjkagnbdfofbaa.Pure
open Go.RowKit Go.Proofs.Ytjjkagnbdfofbaa.P Go.Proofs.YtjjkagnbdfofbaaW.PrintWords Go.Proofs.YtjjkagnbdfofbaaW.PrintLast
def fi (xs : List Int) (φ : Int → Bool) (i : Int) : Option Int := if φ (rd xs i) = true then some i else none
theorem fi_any (xs : List Int) (φ : Int → Bool) : ∀ (m i : Nat), i + m = xs.length → decide ((findO (fi xs φ) (i : Int) m).getD (-1) ≥ 0) = (xs.drop i).any φ
  | 0, i, h => by
    rw [List.drop_eq_nil_of_le (by omega)]
    rfl
  | m + 1, i, h => by
    have ih := fi_any xs φ m (i + 1) (by omega)
    rw [List.drop_eq_getElem_cons (by omega), List.any_cons, ← ih]
    show decide (((fi xs φ (i : Int)).or (findO (fi xs φ) ((i : Int) + 1) m)).getD (-1) ≥ 0) = _
    unfold fi
    rw [rd_get (by omega)]
    cases φ xs[i]
    · simp
    · simp
theorem containsV (xs : List Int) (hl : xs.length ≤ 1048576) (f : Int → Option Bool) (φ : Int → Bool) (hf : ∀ x, f x = some (φ x)) : Ev (fun k => slices_ContainsFunc_int_int.f k xs f) (xs.any φ) := by
  unfold slices_ContainsFunc_int_int.f slices_IndexFunc_int_int.f
  have h0 := fi_any xs φ xs.length 0 (by omega)
  rw [List.drop_zero] at h0
  rw [← h0]
  refine Ev.bind (a := (findO (fi xs φ) 0 xs.length).getD (-1)) ?_ (Ev.now _)
  refine loop (F := fun k i => slices_IndexFunc_int_int.l0 k xs f (xs.length : Int) i) (n := (xs.length : Int)) ?_ ?_ xs.length 0 (by omega) (by omega)
  · refine Ev.step (f := fun _ => some (-1)) (fun k => ?_) (Ev.now _)
    simp only [slices_IndexFunc_int_int.l0]; rw [if_neg (by omega)]
  · intro i h0 h1 r hr
    refine Ev.step (f := fun k => if φ (rd xs i) = true then some i else slices_IndexFunc_int_int.l0 k xs f (xs.length : Int) (i + 1)) (fun k => ?_) ?_
    · simp only [slices_IndexFunc_int_int.l0, hf, Option.bind_some]
      rw [if_pos h1, if_pos h0, if_pos h1, w64 (x := i + 1) (by omega) (by omega)]
    · unfold fi
      cases φ (rd xs i)
      · simpa using hr
      · simpa using Ev.now i
end Go.Proofs.Ytjjkagnbdfofbaa.Pure
end

section
namespace Go.Proofs.Ytjjkagnbdfofbaa.P
open Go.RowKit Go.Proofs.YtjjkagnbdfofbaaW.PrintWords Go.Proofs.YtjjkagnbdfofbaaW.PrintLast Go.Proofs.YtjjkagnbdfofbaaW.PrintMore
attribute [local go_sem] max2_int min2_int max_two min_two
set_option linter.unusedVariables false
set_option linter.unusedSimpArgs false

def cmp_Compare_int.f (a0 : Int) (a1 : Int) : Option (Int) := (cmp_isNaN_int.f a0).bind fun J1 => ((cmp_isNaN_int.f a1).bind fun J0 => (if J1 = true then (if J0 = true then (some 0) else (some (-1))) else (if J0 = true then (some 1) else (if a0 < a1 then (some (-1)) else (if a0 > a1 then (some 1) else (some 0))))))
set_option maxHeartbeats 8000000 in
set_option maxRecDepth 100000 in
theorem cmp_Compare_int.calls (a0 : Int) (a1 : Int) (r : Int) (w : World) (h : cmp_Compare_int.f a0 a1 = some r) :
  Calls Try.prog 57 #[.int .i64 a0, .int .i64 a1] w fun e w' => e = .returned (.int .i64 r) ∧ Drawn0 w w' := by
 have H : ((cmp_isNaN_int.f a0).bind fun J1 => ((cmp_isNaN_int.f a1).bind fun J0 => (if J1 = true then (if J0 = true then (some 0) else (some (-1))) else (if J0 = true then (some 1) else (if a0 < a1 then (some (-1)) else (if a0 > a1 then (some 1) else (some 0))))))) = some r := h; clear h
 revert H; refine ob_ fun J1 A3 H => ?_
 revert H; refine ob_ fun J0 A4 H => ?_
 obtain rfl | rfl := bt_ J1
 ·replace H := it_ H; obtain rfl | rfl := bt_ J0
  ·replace H := it_ H; obtain rfl := Option.some.inj H; go_enter Try.func57, Try.ntmps57; go_wp2_with (first | ((with_reducible refine gate_callee (f := 83) rfl ?_); refine goesL_ (some 8) rfl rfl Try.func83 (by kernel_rfl) rfl #[.int .i64 a0] rfl la_ ?_; (with_reducible refine (cmp_isNaN_int.calls a0 true _ A3.out).mono ?_); rintro e w' ⟨rfl, ⟨nd, rfl⟩⟩; refine ⟨_, rfl, ?_⟩) | ((with_reducible refine gate_callee (f := 83) rfl ?_); refine goesL_ (some 10) rfl rfl Try.func83 (by kernel_rfl) rfl #[.int .i64 a1] rfl la_ ?_; (with_reducible refine (cmp_isNaN_int.calls a1 true _ A4.out).mono ?_); rintro e w' ⟨rfl, ⟨nd, rfl⟩⟩; refine ⟨_, rfl, ?_⟩)); go_ret; exact ⟨by first | rfl | (simp; done) | (simp [*]; done), by repeat (first | exact Drawn0.refl _ | apply Drawn0.step)⟩
  replace H := if_ H; obtain rfl := Option.some.inj H; go_enter Try.func57, Try.ntmps57; go_wp2_with (first | ((with_reducible refine gate_callee (f := 83) rfl ?_); refine goesL_ (some 8) rfl rfl Try.func83 (by kernel_rfl) rfl #[.int .i64 a0] rfl la_ ?_; (with_reducible refine (cmp_isNaN_int.calls a0 true _ A3.out).mono ?_); rintro e w' ⟨rfl, ⟨nd, rfl⟩⟩; refine ⟨_, rfl, ?_⟩) | ((with_reducible refine gate_callee (f := 83) rfl ?_); refine goesL_ (some 10) rfl rfl Try.func83 (by kernel_rfl) rfl #[.int .i64 a1] rfl la_ ?_; (with_reducible refine (cmp_isNaN_int.calls a1 false _ A4.out).mono ?_); rintro e w' ⟨rfl, ⟨nd, rfl⟩⟩; refine ⟨_, rfl, ?_⟩)); go_ret; exact ⟨by first | rfl | (simp; done) | (simp [*]; done), by repeat (first | exact Drawn0.refl _ | apply Drawn0.step)⟩
 replace H := if_ H; obtain rfl | rfl := bt_ J0
 ·replace H := it_ H; obtain rfl := Option.some.inj H; go_enter Try.func57, Try.ntmps57; go_wp2_with (first | ((with_reducible refine gate_callee (f := 83) rfl ?_); refine goesL_ (some 8) rfl rfl Try.func83 (by kernel_rfl) rfl #[.int .i64 a0] rfl la_ ?_; (with_reducible refine (cmp_isNaN_int.calls a0 false _ A3.out).mono ?_); rintro e w' ⟨rfl, ⟨nd, rfl⟩⟩; refine ⟨_, rfl, ?_⟩) | ((with_reducible refine gate_callee (f := 83) rfl ?_); refine goesL_ (some 10) rfl rfl Try.func83 (by kernel_rfl) rfl #[.int .i64 a1] rfl la_ ?_; (with_reducible refine (cmp_isNaN_int.calls a1 true _ A4.out).mono ?_); rintro e w' ⟨rfl, ⟨nd, rfl⟩⟩; refine ⟨_, rfl, ?_⟩)); go_ret; exact ⟨by first | rfl | (simp; done) | (simp [*]; done), by repeat (first | exact Drawn0.refl _ | apply Drawn0.step)⟩
 replace H := if_ H; revert H; refine ic_ (fun c8b0 H => ?_) (fun c8b0 H => ?_)
 ·obtain rfl := Option.some.inj H; go_enter Try.func57, Try.ntmps57; go_wp2_with (first | ((with_reducible refine gate_callee (f := 83) rfl ?_); refine goesL_ (some 8) rfl rfl Try.func83 (by kernel_rfl) rfl #[.int .i64 a0] rfl la_ ?_; (with_reducible refine (cmp_isNaN_int.calls a0 false _ A3.out).mono ?_); rintro e w' ⟨rfl, ⟨nd, rfl⟩⟩; refine ⟨_, rfl, ?_⟩) | ((with_reducible refine gate_callee (f := 83) rfl ?_); refine goesL_ (some 10) rfl rfl Try.func83 (by kernel_rfl) rfl #[.int .i64 a1] rfl la_ ?_; (with_reducible refine (cmp_isNaN_int.calls a1 false _ A4.out).mono ?_); rintro e w' ⟨rfl, ⟨nd, rfl⟩⟩; refine ⟨_, rfl, ?_⟩)); go_ret; exact ⟨by first | rfl | (simp; done) | (simp [*]; done), by repeat (first | exact Drawn0.refl _ | apply Drawn0.step)⟩
 by_cases c9 : a0 > a1
 ·rw [if_pos c9] at H; have c9b0 : decide (a1 < a0) = true := decide_eq_true c9; clear c9; obtain rfl := Option.some.inj H; go_enter Try.func57, Try.ntmps57; go_wp2_with (first | ((with_reducible refine gate_callee (f := 83) rfl ?_); refine goesL_ (some 8) rfl rfl Try.func83 (by kernel_rfl) rfl #[.int .i64 a0] rfl la_ ?_; (with_reducible refine (cmp_isNaN_int.calls a0 false _ A3.out).mono ?_); rintro e w' ⟨rfl, ⟨nd, rfl⟩⟩; refine ⟨_, rfl, ?_⟩) | ((with_reducible refine gate_callee (f := 83) rfl ?_); refine goesL_ (some 10) rfl rfl Try.func83 (by kernel_rfl) rfl #[.int .i64 a1] rfl la_ ?_; (with_reducible refine (cmp_isNaN_int.calls a1 false _ A4.out).mono ?_); rintro e w' ⟨rfl, ⟨nd, rfl⟩⟩; refine ⟨_, rfl, ?_⟩)); go_ret; exact ⟨by first | rfl | (simp; done) | (simp [*]; done), by repeat (first | exact Drawn0.refl _ | apply Drawn0.step)⟩
 rw [if_neg c9] at H; have c9b0 : decide (a1 < a0) = false := decide_eq_false c9; clear c9; obtain rfl := Option.some.inj H; go_enter Try.func57, Try.ntmps57; go_wp2_with (first | ((with_reducible refine gate_callee (f := 83) rfl ?_); refine goesL_ (some 8) rfl rfl Try.func83 (by kernel_rfl) rfl #[.int .i64 a0] rfl la_ ?_; (with_reducible refine (cmp_isNaN_int.calls a0 false _ A3.out).mono ?_); rintro e w' ⟨rfl, ⟨nd, rfl⟩⟩; refine ⟨_, rfl, ?_⟩) | ((with_reducible refine gate_callee (f := 83) rfl ?_); refine goesL_ (some 10) rfl rfl Try.func83 (by kernel_rfl) rfl #[.int .i64 a1] rfl la_ ?_; (with_reducible refine (cmp_isNaN_int.calls a1 false _ A4.out).mono ?_); rintro e w' ⟨rfl, ⟨nd, rfl⟩⟩; refine ⟨_, rfl, ?_⟩)); go_ret; exact ⟨by first | rfl | (simp; done) | (simp [*]; done), by repeat (first | exact Drawn0.refl _ | apply Drawn0.step)⟩


def slices_Compare_int_int.l0 : Nat → List Int → List Int → List Int → Int → Int → Option (Int)
 | 0, _, _, _, _, _ => none
 | k + 1, x0, x1, x9, x10, x11 => if x11 < x10 then (if 0 ≤ x11 then (if x11 < (x9.length : Int) then (if x11 ≥ (x1.length : Int) then (some 1) else (if x11 < (x1.length : Int) then ((cmp_Compare_int.f (rd x9 x11) (rd x1 x11)).bind fun J0 => (if J0 = 0 then (slices_Compare_int_int.l0 k x0 x1 x9 x10 (wrap64 (x11 + 1))) else (some J0))) else (none))) else (none)) else (none)) else (if (x0.length : Int) < (x1.length : Int) then (some (-1)) else (some 0))
def slices_Compare_int_int.f (k : Nat) (l0 : List Int) (l1 : List Int) : Option (Int) := slices_Compare_int_int.l0 k l0 l1 l0 (l0.length : Int) 0
set_option maxHeartbeats 8000000 in
set_option maxRecDepth 100000 in
theorem slices_Compare_int_int.calls (k : Nat) (A0 : Option Addr) (c0 : Nat) (l0 : List Int) (A1 : Option Addr) (c1 : Nat) (l1 : List Int) (r : Int) (w : World) (hr0 : Kd.C (Kd.int .i64) w A0 l0.length l0) (hc0 : l0.length ≤ c0) (hr1 : Kd.C (Kd.int .i64) w A1 l1.length l1) (hc1 : l1.length ≤ c1) (h : slices_Compare_int_int.f k l0 l1 = some r) :
  Calls Try.prog 30 #[.slice A0 l0.length c0, .slice A1 l1.length c1] w fun e w' => e = .returned (.int .i64 r) ∧ Drawn0 w w' := by
 have HR0 := sd_ hr0; have HC0 := sd_ hc0; clear hr0 hc0; have HR1 := sd_ hr1; have HC1 := sd_ hc1; clear hr1 hc1; have H : (slices_Compare_int_int.l0 k l0 l1 l0 (l0.length : Int) 0) = some r := h; clear h; have H' := sd_ H; clear H; go_enter Try.func30, Try.ntmps30; go_wp2
 go_loopg [11] k (fun kq v11 w' => ∃ (x11_1 : Int), v11 = .int .i64 x11_1 ∧ Aside0 (slices_Compare_int_int.l0 kq l0 l1 l0 (l0.length : Int) x11_1 = some r) ∧ Aside0 (kq ≤ k) ∧ Drawn0 w w')
 case atStart => exact ⟨(0), sm_, H', ⟨Nat.le_refl _⟩, by repeat (first | exact Drawn0.refl _ | apply Drawn0.step)⟩
 case round =>
  clear H'; (try clear c1); (try clear p2); obtain ⟨x11_1, rfl, HA, HK1, ⟨m1, rfl⟩⟩ := hrel
  cases gk with
  | zero => exact absurd HA.out (by simp [slices_Compare_int_int.l0])
  | succ k1 =>
   have H := HA.out; clear HA; simp only [slices_Compare_int_int.l0] at H; revert H; refine ic_ (fun c3b0 H => ?_) (fun c3b0 H => ?_)
   ·revert H; refine ih_ fun c4b0 H => ?_
    revert H; refine ih_ fun c5b0 H => ?_
    by_cases c6 : x11_1 ≥ (l1.length : Int)
    ·rw [if_pos c6] at H; have c6b0 : decide ((l1.length : Int) ≤ x11_1) = true := decide_eq_true c6; clear c6; obtain rfl := Option.some.inj H; have p263 : 0 ≤ (x11_1 : Int) := dt_; have q263 : x11_1 < (l0.length : Int) := dt_; obtain ⟨J1, e263, hx263_0⟩ := Kd.at_int HR0.out x11_1 p263 q263
     cases e263
     replace p263 := eq_true p263; replace q263 := eq_true q263; go_wp2; go_ret; exact ⟨by first | rfl | (simp; done) | (simp [*]; done), by repeat (first | exact Drawn0.refl _ | apply Drawn0.step)⟩
    rw [if_neg c6] at H; have c6b0 : decide ((l1.length : Int) ≤ x11_1) = false := decide_eq_false c6; clear c6
    revert H; refine ih_ fun c7b0 H => ?_
    revert H; refine ob_ fun J0 A8 H => ?_
    by_cases c9 : J0 = 0
    ·rw [if_pos c9] at H; have c9b0 : (J0 == 0) = true := beq_iff_eq.mpr c9; have c9b1 : (J0 != 0) = false := bne_eq_false_iff_eq.mpr c9; clear c9; have H' := sd_ H; clear H; have p263 : 0 ≤ (x11_1 : Int) := dt_; have q263 : x11_1 < (l0.length : Int) := dt_; obtain ⟨J1, e263, hx263_0⟩ := Kd.at_int HR0.out x11_1 p263 q263
     cases e263
     replace p263 := eq_true p263; replace q263 := eq_true q263; have p264 : 0 ≤ (x11_1 : Int) := dt_; have q264 : x11_1 < (l1.length : Int) := dt_; obtain ⟨J2, e264, hx264_0⟩ := Kd.at_int HR1.out x11_1 p264 q264
     cases e264
     replace p264 := eq_true p264; replace q264 := eq_true q264; go_wp2_with (first | ((with_reducible refine gate_callee (f := 57) rfl ?_); refine goesL_ (some 26) rfl rfl Try.func57 (by kernel_rfl) rfl #[.int .i64 (rd l0 x11_1), .int .i64 (rd l1 x11_1)] rfl la_ ?_; (with_reducible refine (cmp_Compare_int.calls (rd l0 x11_1) (rd l1 x11_1) J0 _ A8.out).mono ?_); rintro e w' ⟨rfl, ⟨nd, rfl⟩⟩; refine ⟨_, rfl, ?_⟩)); go_roundg k1
     case measure => have := HK1.out; omega
     case rel => exact ⟨(wrap64 (x11_1 + 1)), sm_, H', ⟨by have := HK1.out; omega⟩, by repeat (first | exact Drawn0.refl _ | apply Drawn0.step)⟩
    rw [if_neg c9] at H; have c9b0 : (J0 == 0) = false := beq_eq_false_iff_ne.mpr c9; have c9b1 : (J0 != 0) = true := bne_iff_ne.mpr c9; obtain rfl := Option.some.inj H; have p263 : 0 ≤ (x11_1 : Int) := dt_; have q263 : x11_1 < (l0.length : Int) := dt_; obtain ⟨J1, e263, hx263_0⟩ := Kd.at_int HR0.out x11_1 p263 q263
    cases e263
    replace p263 := eq_true p263; replace q263 := eq_true q263; have p264 : 0 ≤ (x11_1 : Int) := dt_; have q264 : x11_1 < (l1.length : Int) := dt_; obtain ⟨J2, e264, hx264_0⟩ := Kd.at_int HR1.out x11_1 p264 q264
    cases e264
    replace p264 := eq_true p264; replace q264 := eq_true q264; go_wp2_with (first | ((with_reducible refine gate_callee (f := 57) rfl ?_); refine goesL_ (some 26) rfl rfl Try.func57 (by kernel_rfl) rfl #[.int .i64 (rd l0 x11_1), .int .i64 (rd l1 x11_1)] rfl la_ ?_; (with_reducible refine (cmp_Compare_int.calls (rd l0 x11_1) (rd l1 x11_1) J0 _ A8.out).mono ?_); rintro e w' ⟨rfl, ⟨nd, rfl⟩⟩; refine ⟨_, rfl, ?_⟩)); go_ret; exact ⟨by first | rfl | (simp; done) | (simp [*]; done), by repeat (first | exact Drawn0.refl _ | apply Drawn0.step)⟩
   by_cases c10 : (l0.length : Int) < (l1.length : Int)
   ·rw [if_pos c10] at H; have J3 : decide ((l0.length : Int) < (l1.length : Int)) = true := decide_eq_true c10; have J4 : decide (l0.length < l1.length) = true := decide_eq_true (Int.ofNat_lt.mp c10); clear c10; obtain rfl := Option.some.inj H; go_wp2; go_ret; exact ⟨by first | rfl | (simp; done) | (simp [*]; done), by repeat (first | exact Drawn0.refl _ | apply Drawn0.step)⟩
   rw [if_neg c10] at H; have J3 : decide ((l0.length : Int) < (l1.length : Int)) = false := decide_eq_false c10; have J4 : decide (l0.length < l1.length) = false := decide_eq_false (fun h => c10 (Int.ofNat_lt.mpr h)); clear c10; obtain rfl := Option.some.inj H; go_wp2; go_ret; exact ⟨by first | rfl | (simp; done) | (simp [*]; done), by repeat (first | exact Drawn0.refl _ | apply Drawn0.step)⟩


def impl_ViewsOf_1.f (k : Nat) (l0 : List Int) (l1 : List Int) : Option (Int) := (slices_Compare_int_int.f k l0 l1).bind fun J0 => (some J0)
set_option maxHeartbeats 8000000 in
set_option maxRecDepth 100000 in
theorem impl_ViewsOf_1.calls (k : Nat) (A0 : Option Addr) (c0 : Nat) (l0 : List Int) (A1 : Option Addr) (c1 : Nat) (l1 : List Int) (r : Int) (w : World) (hr0 : Kd.C (Kd.int .i64) w A0 l0.length l0) (hc0 : l0.length ≤ c0) (hr1 : Kd.C (Kd.int .i64) w A1 l1.length l1) (hc1 : l1.length ≤ c1) (h : impl_ViewsOf_1.f k l0 l1 = some r) :
  Calls Try.prog 29 #[.slice A0 l0.length c0, .slice A1 l1.length c1] w fun e w' => e = .returned (.int .i64 r) ∧ Drawn0 w w' := by
 have HR0 := sd_ hr0; have HC0 := sd_ hc0; clear hr0 hc0; have HR1 := sd_ hr1; have HC1 := sd_ hc1; clear hr1 hc1; have H : ((slices_Compare_int_int.f k l0 l1).bind fun J0 => (some J0)) = some r := h; clear h
 revert H; refine ob_ fun J0 A3 H => ?_
 obtain rfl := Option.some.inj H; go_enter Try.func29, Try.ntmps29; go_wp2_with (first | ((with_reducible refine gate_callee (f := 30) rfl ?_); refine goesL_ (some 7) rfl rfl Try.func30 (by kernel_rfl) rfl #[.slice A0 l0.length c0, .slice A1 l1.length c1] rfl la_ ?_; (with_reducible refine (slices_Compare_int_int.calls k _ _ l0 _ _ l1 J0 _ (kp_ HR0.out) HC0.out (kp_ HR1.out) HC1.out A3.out).mono ?_); rintro e w' ⟨rfl, ⟨nd, rfl⟩⟩; refine ⟨_, rfl, ?_⟩)); go_ret; exact ⟨by first | rfl | (simp; done) | (simp [*]; done), by repeat (first | exact Drawn0.refl _ | apply Drawn0.step)⟩

end Go.Proofs.Ytjjkagnbdfofbaa.P
end

section
namespace Go.Proofs.Ytjjkagnbdfofbaa.P
open Go.Shelf Go.RowKit Go.Lib Go.Sort Go.Proofs.YtjjkagnbdfofbaaW.PrintWords Go.Proofs.YtjjkagnbdfofbaaW.PrintLast Go.Proofs.YtjjkagnbdfofbaaW.PrintMore
set_option linter.unusedVariables false
set_option linter.unusedSimpArgs false
def slices_SortFunc_int_int.f (l : List (List Int)) (x : List Int → List Int → Option Int) : Option (List (List Int)) := if l.length < 4611686018427387904 ∧ (∀ a ∈ [] :: l, ∀ b ∈ [] :: l, x a b = some (cmpL a b)) then some (sortL l) else none
theorem sortW_block {α : Type} [Inhabited α] (enc : α → Value) (w : World) (g m : Nat) (dk : Array α) (os : Array Obj) (hg : g < w.heap.size) {k : Nat} (hk : k < w.heap.size) (hne : k ≠ g) : (sortWorld enc w g 0 m dk os).heap[k]? = w.heap[k]? := by
  unfold sortWorld grow putRow mapBlock Go.Sort.ahead
  dsimp only
  rw [Array.getElem?_append_left (by rw [Array.size_modify]; exact hk), Array.getElem?_modify, if_neg (fun h => hne h.symm)]
theorem sortW_own {α : Type} [Inhabited α] (enc : α → Value) (w : World) (g m : Nat) (dk : Array α) (os : Array Obj) {cur : Array Value} {t : TypeId} (hh : w.heap[g]? = some (.cells cur t (0, 0))) : (sortWorld enc w g 0 m dk os).heap[g]? = some (.cells (putCells enc 0 dk cur) t (0, 0)) := by
  have hg : g < w.heap.size := (Array.getElem?_eq_some_iff.1 hh).1
  unfold sortWorld grow putRow mapBlock Go.Sort.ahead
  dsimp only
  rw [Array.getElem?_append_left (by rw [Array.size_modify]; exact hg), Array.getElem?_modify, if_pos rfl, hh]
  rfl
theorem sortW_size {α : Type} [Inhabited α] (enc : α → Value) (w : World) (g m : Nat) (dk : Array α) (os : Array Obj) : w.heap.size ≤ (sortWorld enc w g 0 m dk os).heap.size := by
  unfold sortWorld grow putRow mapBlock Go.Sort.ahead
  dsimp only
  rw [Array.size_append, Array.size_modify]
  omega
theorem getD_some {α : Type} {l : List α} {j : Nat} (z : α) (h : j < l.length) : l.getD j z = l[j] := by rw [List.getD_eq_getElem?_getD, List.getElem?_eq_getElem h]; rfl
theorem getD_none {α : Type} {l : List α} {j : Nat} (z : α) (h : ¬ j < l.length) : l.getD j z = z := by rw [List.getD_eq_getElem?_getD, List.getElem?_eq_none (by omega)]; rfl
theorem range_at {n j : Nat} (h : j < n) : (Array.range n)[j]! = j := by rw [getElem!_pos _ _ (by simpa using h)]; simp
set_option maxHeartbeats 4000000 in
set_option maxRecDepth 100000 in
theorem slices_SortFunc_int_int.calls (k : Nat) (u : Value) (l r : List (List Int)) {ok : Nat → Prop} (w0 w : World) (hB : Below w0.heap.size w0 w) (hS : Kd.S (Kd.slice 3 (Kd.int .i64)) 24 w w0.heap.size ok u l) (h : slices_SortFunc_int_int.f l (fun z0_ z1_ => impl_ViewsOf_1.f k z0_ z1_) = some r) :
    Calls Try.prog 28 #[u, .func (.func 29) #[] #[]] w fun e w' => e = .returned (.tuple #[]) ∧ Kd.S (Kd.slice 3 (Kd.int .i64)) 24 w' w0.heap.size ok u r ∧ Below w0.heap.size w0 w' ∧ Kept w w' (fun k_ => some k_ = u.ownBlock) := by
  unfold slices_SortFunc_int_int.f at h
  split at h
  case isFalse => cases h
  rename_i hx
  obtain ⟨hbound, hx⟩ := hx
  obtain rfl := Option.some.inj h
  obtain ⟨A, c, rfl⟩ := Kd.S_slice hS
  by_cases hl : l.length = 0
  · obtain rfl := List.length_eq_zero_iff.mp hl
    refine Calls.mono (AnyF.slices_SortFunc_none (P := Try.prog) (ρ := sortL_ren) { shelfSort with } A c (.func (.func 29) #[] #[]) w) ?_
    rintro e w' ⟨rfl, rfl⟩
    exact ⟨rfl, by simpa [Go.Proofs.Ytjjkagnbdfofbaa.P.sortL] using hS, hB, Kept.refl _ _⟩
  obtain ⟨f, h0, inner, ho, hr⟩ := hS
  obtain ⟨hlen, hv | ⟨g, cap, cur, hv, hg, hh, hn, hc, hsz, htk⟩⟩ := ho
  · exact absurd hv.2 (by rw [List.length_zipIdx]; exact hl)
  injection hv with hA hn' hcap
  subst hA hcap
  rw [List.length_zipIdx] at hlen hn htk
  have hsl : (Kd.tag f (Kd.slice 3 (Kd.int .i64))).sz = 1 := rfl
  rw [hsl, Nat.mul_one] at hlen htk
  rw [hsl, Nat.mul_one] at hsz
  have hgs : g < w.heap.size := (Array.getElem?_eq_some_iff.1 hh).1
  -- the rows' values
  have hrow : ∀ j (hj : j < l.length), ∃ v, inner[j]? = some v ∧ (Kd.int .i64).R 3 w w0.heap.size (fun k_ => (ok k_ ∧ some k_ ≠ (Value.slice (some ⟨g, 0, none⟩) l.length c).ownBlock) ∧ f k_ = j) v l[j] := by
    intro j hj
    obtain ⟨v, e, hR⟩ := hr.2 j (l[j], j) (by rw [List.getElem?_zipIdx, List.getElem?_eq_getElem hj, Nat.zero_add]; rfl)
    refine ⟨v, ?_, hR⟩
    rw [hsl, Nat.mul_one, List.drop_eq_getElem_cons (by omega)] at e
    have := congrArg List.head? e
    rw [List.take_succ_cons] at this
    rw [List.getElem?_eq_getElem (by omega)]
    exact this
  let enc : Nat → Value := fun j => inner.getD j (.slice none 0 0)
  let cf : Nat → Nat → Int := fun i j => cmpL (l.getD i []) (l.getD j [])
  have henc : ∀ j (hj : j < l.length), (Kd.int .i64).R 3 w w0.heap.size (fun k_ => (ok k_ ∧ some k_ ≠ (Value.slice (some ⟨g, 0, none⟩) l.length c).ownBlock) ∧ f k_ = j) (enc j) l[j] := by
    intro j hj
    obtain ⟨v, e, hR⟩ := hrow j hj
    have : enc j = v := by show inner.getD j _ = v; rw [List.getD_eq_getElem?_getD, e]; rfl
    rw [this]; exact hR
  have hout : ∀ j, ¬ j < l.length → enc j = .slice none 0 0 := fun j hj => getD_none _ (by omega)
  have hone : OneCell enc := fun j => by
    by_cases hj : j < l.length
    · obtain ⟨A', c', e⟩ := Kd.R_slice (henc j hj)
      rw [e]; rfl
    · rw [hout j hj]; rfl
  have hO : SWO (ltOf cf) := {
    irrefl := fun x => by simp [ltOf, cf, cmpL_self]
    trans := fun x y z h1 h2 => by
      simp only [ltOf, decide_eq_true_eq, cf] at h1 h2 ⊢
      have h3 := cmpL_trans _ _ _ (Int.le_of_lt h1) (Int.le_of_lt h2)
      have h4 : cmpL (l.getD x []) (l.getD z []) ≠ 0 := fun e => by
        have e2 := cmpL_eq _ _ e
        rw [e2] at h1
        have := cmpL_neg (l.getD y []) (l.getD z [])
        omega
      omega
    ntrans := fun x y z h1 h2 => by
      simp only [ltOf, decide_eq_false_iff_not, cf] at h1 h2 ⊢
      have n1 := cmpL_neg (l.getD x []) (l.getD y [])
      have n2 := cmpL_neg (l.getD y []) (l.getD z [])
      have n3 := cmpL_neg (l.getD x []) (l.getD z [])
      have := cmpL_trans (l.getD z []) (l.getD y []) (l.getD x []) (by omega) (by omega)
      omega }
  have hd : (Array.range l.length).size = l.length := by simp
  have hreads : ∀ (m : Nat) (os : Array Obj) (dk : Array Nat) (j : Nat), ∃ A' c', enc j = .slice A' (l.getD j []).length c' ∧ (l.getD j []).length ≤ c' ∧ (Kd.int .i64).C (sortWorld enc w g 0 m dk os) A' (l.getD j []).length (l.getD j []) := by
    intro m os dk j
    by_cases hj : j < l.length
    · have h1 := Kd.R_step (w1 := sortWorld enc w g 0 m dk os) (henc j hj) (fun k_ hk hlt => sortW_block enc w g m dk os hgs hlt (fun e => hk.1.2 (by simp [Value.ownBlock, e])))
      obtain ⟨A', c', e, hl', hC⟩ := Kd.R_reads h1
      rw [getD_some [] hj]
      exact ⟨A', c', e, hl', hC⟩
    · rw [getD_none [] hj, hout j hj]
      exact ⟨none, 0, rfl, Nat.le_refl _, Kd.C_nil _ _⟩
  have hmem : ∀ j, l.getD j [] ∈ [] :: l := fun j => by
    by_cases hj : j < l.length
    · rw [getD_some [] hj]; exact List.mem_cons_of_mem _ (List.getElem_mem _)
    · rw [getD_none [] hj]; exact List.mem_cons_self
  have hcmp : CmpReads Try.prog 29 #[] enc cf g 0 (Array.range l.length).size w := by
    intro m os dk _ x y
    obtain ⟨A1, c1, e1, h1, r1⟩ := hreads m os dk x
    obtain ⟨A2, c2, e2, h2, r2⟩ := hreads m os dk y
    rw [e1, e2]
    refine (impl_ViewsOf_1.calls k A1 c1 _ A2 c2 _ (cf x y) _ r1 h1 r2 h2 (hx _ (hmem x) _ (hmem y))).mono ?_
    rintro e w' ⟨rfl, hD⟩
    exact ⟨rfl, hD.out⟩
  have hcell : ∀ j (hj : j < l.length), cur[j]? = some (enc j) := by
    intro j hj
    obtain ⟨v, e, _⟩ := hrow j hj
    have e2 : enc j = v := by show inner.getD j _ = v; rw [List.getD_eq_getElem?_getD, e]; rfl
    rw [e2, ← Array.getElem?_toList, ← e, ← htk, List.getElem?_take_of_lt hj]
  have hH : Holds enc w g 0 (Array.range l.length) := by
    intro j hj
    rw [hd] at hj
    rw [range_at hj, Nat.zero_add]
    exact ⟨(blk_cell hh j).trans (hcell j hj), blk_frozen hh j⟩
  have hsmall : (Array.range l.length).size < 4611686018427387904 := by
    rw [hd]; exact hbound
  have main := Any.slices_SortFunc (ρ := sortL_ren) shelfSort enc hone cf hO 29 #[] g 0 c (Array.range l.length) w (enters_of Try.func29 (by kernel_rfl) rfl) hcmp.lays hH hgs hsmall
  rw [hd] at main
  refine Calls.mono main ?_
  rintro e w' ⟨rfl, d', m, os, hp, hs, rfl⟩
  obtain ⟨ps, _, pp⟩ := hp
  have e1 : d'.extract 0 l.length = d' := by rw [← hd, ← ps, Array.extract_size]
  have e2 : (Array.range l.length).extract 0 l.length = Array.range l.length := by
    have : (Array.range l.length).extract 0 (Array.range l.length).size = Array.range l.length := Array.extract_size
    rwa [hd] at this
  rw [e1, e2, Array.toList_range] at pp
  rw [hd] at ps
  have hlt : ∀ i ∈ d'.toList, i < l.length := fun i hi => by simpa using pp.mem_iff.1 hi
  have hI : ∀ j (hj : j < l.length), ∃ i, d'.toList[j]? = some i ∧ d'[j]! = i ∧ i < l.length := fun j hj => by
    have hj' : j < d'.toList.length := by simpa [ps] using hj
    refine ⟨d'.toList[j], List.getElem?_eq_getElem hj', ?_, hlt _ (List.getElem_mem _)⟩
    rw [getElem!_pos _ _ (by simpa [ps] using hj)]
    simp
  have hr1 : (d'.toList.map fun i => l.getD i []).Perm l := by
    refine (pp.map _).trans ?_
    have : (List.range l.length).map (fun i => l.getD i []) = l := by
      apply List.ext_getElem (by simp)
      intro i h1 h2
      rw [List.getElem_map, List.getElem_range]
      exact getD_some [] h2
    rw [this]
  have hr2 : (d'.toList.map fun i => l.getD i []).Pairwise fun a b => cmpL a b ≤ 0 := by
    rw [List.pairwise_map, List.pairwise_iff_getElem]
    intro i j hi hj hij
    have hi' : i < l.length := by simpa [ps] using hi
    have hj' : j < l.length := by simpa [ps] using hj
    have := hs i j (Nat.zero_le _) hij hj'
    simp only [ltOf, decide_eq_false_iff_not, cf] at this
    have n1 := cmpL_neg (l.getD d'[i]! []) (l.getD d'[j]! [])
    rw [getElem!_pos d' i (by rw [ps]; exact hi'), getElem!_pos d' j (by rw [ps]; exact hj')] at this n1
    simp only [Array.getElem_toList]
    omega
  have hres := sort_one hr1 hr2
  have hblk := sortW_own enc w g m d' os hh
  have hsl' : ∀ f', (Kd.tag f' (Kd.slice 3 (Kd.int .i64))).sz = 1 := fun _ => rfl
  have hnd : d'.toList.Nodup := pp.symm.nodup List.nodup_range
  refine ⟨rfl, ?_, ?_, ?_⟩
  · rw [← hres]
    refine ⟨fun k_ => d'.toList.idxOf (f k_), h0, d'.toList.map enc, ⟨?_, Or.inr ⟨g, c, putCells enc 0 d' cur, ?_, hg, hblk, ?_, hc, ?_, ?_⟩⟩, ?_, ?_⟩
    · rw [hsl']; simp
    · rw [List.length_zipIdx, List.length_map]
      simp [ps]
    · rw [List.length_zipIdx, List.length_map]; simpa [ps] using hn
    · rw [hsl']; simp [putCells, hsz]
    · rw [hsl', List.length_zipIdx, List.length_map]
      apply List.ext_getElem?
      intro j
      by_cases hj : j < l.length
      · obtain ⟨i, q1, q2, q3⟩ := hI j hj
        rw [List.getElem?_take_of_lt (by simpa [ps] using hj), List.getElem?_map, q1, Array.getElem?_toList]
        unfold putCells
        rw [Array.getElem?_mapIdx, hcell j hj]
        simp only [Option.map_some]
        rw [if_pos ⟨Nat.zero_le _, by rw [ps]; omega⟩, Nat.sub_zero, q2]
      · rw [List.getElem?_eq_none (by simp [ps]; omega), List.getElem?_eq_none (by simp [ps]; omega)]
    · rw [hsl', List.length_zipIdx]; simp
    · rintro j ⟨p, q⟩ hj
      rw [List.getElem?_zipIdx, Nat.zero_add] at hj
      obtain ⟨x, hx1, hx2⟩ := Option.map_eq_some_iff.1 hj
      simp only [Prod.mk.injEq] at hx2
      obtain ⟨rfl, rfl⟩ := hx2
      have hj' : j < l.length := by
        have := (List.getElem?_eq_some_iff.1 hx1).1
        simpa [ps] using this
      obtain ⟨i, q1, q2, q3⟩ := hI j hj'
      rw [List.getElem?_map, q1, Option.map_some, getD_some [] q3] at hx1
      obtain rfl := Option.some.inj hx1
      have hM := Kd.R_step (w1 := sortWorld enc w g 0 m d' os) (henc i q3) (fun k_ hk hlt' => sortW_block enc w g m d' os hgs hlt' (fun e => hk.1.2 (by simp [Value.ownBlock, e])))
      refine ⟨enc i, ?_, Kd.R_mono hM fun k_ hk => ⟨?_, ?_⟩⟩
      · rw [hsl', Nat.mul_one, List.drop_eq_getElem_cons (by simp [ps]; omega), List.take_succ_cons]
        have : d'.toList[j]? = some i := q1
        rw [List.getElem?_eq_some_iff] at this
        simp [this.2]
      · exact ⟨hk.1.1, by simpa [Value.ownBlock] using hk.1.2⟩
      · show d'.toList.idxOf (f k_) = j
        rw [hk.2]
        have hj2 : j < d'.toList.length := (List.getElem?_eq_some_iff.1 q1).1
        have e3 : d'.toList[j] = i := (List.getElem?_eq_some_iff.1 q1).2
        rw [← e3]
        exact hnd.idxOf_getElem j hj2
  · refine ⟨hB.os, hB.tape, hB.output, Nat.le_trans hB.size (sortW_size _ _ _ _ _ _), fun k_ hk => ?_⟩
    exact (sortW_block enc w g m d' os hgs (Nat.lt_of_lt_of_le hk hB.size) (by omega)).trans (hB.block k_ hk)
  · refine ⟨sortW_size _ _ _ _ _ _, fun k_ hk hne => sortW_block enc w g m d' os hgs hk (fun e => hne (by simp [Value.ownBlock, e]))⟩
end Go.Proofs.Ytjjkagnbdfofbaa.P
end

section
namespace Go.Proofs.Ytjjkagnbdfofbaa.P
open Go.RowKit Go.Proofs.YtjjkagnbdfofbaaW.PrintWords Go.Proofs.YtjjkagnbdfofbaaW.PrintLast Go.Proofs.YtjjkagnbdfofbaaW.PrintMore
attribute [local go_sem] max2_int min2_int max_two min_two
set_option linter.unusedVariables false
set_option linter.unusedSimpArgs false

def spec_l1Byte.f (s0_0 : List Int) (s0_1 : Int) (s0_2 : Int) : Option (Int × Int × Int) := if s0_1 < (s0_0.length : Int) then (if 0 ≤ s0_1 then (some (Go.bits .and .i64 (wrap64 ((Go.bits .and .i64 (Go.bits .xor .i64 ((wrap64 ((wrap64 (s0_2 * 6364136223846793005)) + 1442695040888963407)) / 8589934592) ((wrap64 ((wrap64 (s0_2 * 6364136223846793005)) + 1442695040888963407)) / 35184372088832)) 255) + (wrap64 (rd s0_0 s0_1)))) 255, wrap64 (s0_1 + 1), wrap64 ((wrap64 (s0_2 * 6364136223846793005)) + 1442695040888963407))) else (none)) else (some (Go.bits .and .i64 (Go.bits .xor .i64 ((wrap64 ((wrap64 (s0_2 * 6364136223846793005)) + 1442695040888963407)) / 8589934592) ((wrap64 ((wrap64 (s0_2 * 6364136223846793005)) + 1442695040888963407)) / 35184372088832)) 255, s0_1, wrap64 ((wrap64 (s0_2 * 6364136223846793005)) + 1442695040888963407)))
set_option maxHeartbeats 8000000 in
set_option maxRecDepth 100000 in
theorem spec_l1Byte.calls (g : Nat) (s0_0 : List Int) (s0_1 : Int) (s0_2 : Int) (r1 : Int) (r2 : Int) (r3 : Int) (w0 w : World) (hI : IsS61 w0 w g s0_0 s0_1 s0_2) (hB : Below w0.heap.size w0 w) (h : spec_l1Byte.f s0_0 s0_1 s0_2 = some (r1, r2, r3)) :
  Calls Try.prog 59 #[.pointer (some ⟨g, 0, none⟩)] w fun e w' => e = .returned (.int .i64 r1) ∧ IsS61 w0 w' g s0_0 r2 r3 ∧ Below w0.heap.size w0 w' ∧ KeepBut w w' g none := by
 have HI0 := sd_ hI; have HK := sd_ (KeepBut.refl w g none); have HL := sd_ hB.size; clear hI; have HW0 := sd_ hB.size; have HB := sd_ hB; clear hB; have H : (if s0_1 < (s0_0.length : Int) then (if 0 ≤ s0_1 then (some (Go.bits .and .i64 (wrap64 ((Go.bits .and .i64 (Go.bits .xor .i64 ((wrap64 ((wrap64 (s0_2 * 6364136223846793005)) + 1442695040888963407)) / 8589934592) ((wrap64 ((wrap64 (s0_2 * 6364136223846793005)) + 1442695040888963407)) / 35184372088832)) 255) + (wrap64 (rd s0_0 s0_1)))) 255, wrap64 (s0_1 + 1), wrap64 ((wrap64 (s0_2 * 6364136223846793005)) + 1442695040888963407))) else (none)) else (some (Go.bits .and .i64 (Go.bits .xor .i64 ((wrap64 ((wrap64 (s0_2 * 6364136223846793005)) + 1442695040888963407)) / 8589934592) ((wrap64 ((wrap64 (s0_2 * 6364136223846793005)) + 1442695040888963407)) / 35184372088832)) 255, s0_1, wrap64 ((wrap64 (s0_2 * 6364136223846793005)) + 1442695040888963407)))) = some (r1, r2, r3) := h; clear h; revert H; refine ic_ (fun c2b0 H => ?_) (fun c2b0 H => ?_)
 ·revert H; refine ih_ fun c3b0 H => ?_
  simp only [Option.some.injEq, Prod.mk.injEq] at H; obtain ⟨rfl, rfl, rfl⟩ := H; obtain ⟨ASz4_0, cSz4_0, HGz4, hgz4, HSz4_0⟩ := HI0.out; have J1 := cellS61_0 HGz4; have J2 := cellS61_1 HGz4; have J3 := cellS61_2 HGz4; have J4 := blk_frozen HGz4 1; have J5 := blk_frozen HGz4 2; clear HGz4 hgz4; have p321 : 0 ≤ (s0_1 : Int) := dt_; have q321 : s0_1 < (s0_0.length : Int) := dt_; obtain ⟨J0, e321, hx321_0⟩ := Kd.at_int HSz4_0 s0_1 p321 q321
  cases e321
  have hn321_0 : J0.block ≠ g := Nat.ne_of_lt (Nat.lt_of_lt_of_le (by have := World.block_lt_of_cell? _ _ hx321_0; first | rwa [add_block] at this | exact this) (IsS61.ge HI0.out)); replace hx321_0 := pw_cell_below HB.out hx321_0; replace hx321_0 := (cell_far (p := ⟨g, 2, none⟩) (by first | (rw [add_block]; exact hn321_0) | (show (Addr.add _ _).block ≠ _; rw [add_block]; exact hn321_0) | exact hn321_0) (.int .i64 (wrap64 ((wrap64 (s0_2 * 6364136223846793005)) + 1442695040888963407)))).trans hx321_0; (try have hy321_0 := fun (n_ : Nat) => (show (((w.drewN n_).setCell ⟨g, 2, none⟩ (.int .i64 (wrap64 ((wrap64 (s0_2 * 6364136223846793005)) + 1442695040888963407))))).cell? _ = some _ from hx321_0)); clear hn321_0; replace p321 := eq_true p321; replace q321 := eq_true q321; go_enter Try.func59, Try.ntmps59; go_wp2
  repeat (go_quiet (fail); try go_wp2)
  go_ret; exact ⟨an_, is0_ HI0.out, bw1_ HB.out (IsS61.ge HI0.out), kb0_ HK.out⟩
 simp only [Option.some.injEq, Prod.mk.injEq] at H; obtain ⟨rfl, rfl, rfl⟩ := H; obtain ⟨ASz5_0, cSz5_0, HGz5, hgz5, HSz5_0⟩ := HI0.out; have J6 := cellS61_0 HGz5; have J7 := cellS61_1 HGz5; have J8 := cellS61_2 HGz5; have J9 := blk_frozen HGz5 1; have K0 := blk_frozen HGz5 2; clear HGz5 hgz5; go_enter Try.func59, Try.ntmps59; go_wp2
 repeat (go_quiet (fail); try go_wp2)
 go_ret; exact ⟨an_, is0_ HI0.out, bw1_ HB.out (IsS61.ge HI0.out), kb0_ HK.out⟩


def spec_l1Max.f (a0 : Int) (a1 : Int) : Option (Int) := if a0 > a1 then (some a0) else (some a1)
set_option maxHeartbeats 8000000 in
set_option maxRecDepth 100000 in
theorem spec_l1Max.calls (a0 : Int) (a1 : Int) (r : Int) (w : World) (h : spec_l1Max.f a0 a1 = some r) :
  Calls Try.prog 60 #[.int .i64 a0, .int .i64 a1] w fun e w' => e = .returned (.int .i64 r) ∧ Drawn0 w w' := by
 have H : (if a0 > a1 then (some a0) else (some a1)) = some r := h; clear h; by_cases c3 : a0 > a1
 ·rw [if_pos c3] at H; have c3b0 : decide (a1 < a0) = true := decide_eq_true c3; clear c3; obtain rfl := Option.some.inj H; go_enter Try.func60, Try.ntmps60; go_wp2; go_ret; exact ⟨by first | rfl | (simp; done) | (simp [*]; done), by repeat (first | exact Drawn0.refl _ | apply Drawn0.step)⟩
 rw [if_neg c3] at H; have c3b0 : decide (a1 < a0) = false := decide_eq_false c3; clear c3; obtain rfl := Option.some.inj H; go_enter Try.func60, Try.ntmps60; go_wp2; go_ret; exact ⟨by first | rfl | (simp; done) | (simp [*]; done), by repeat (first | exact Drawn0.refl _ | apply Drawn0.step)⟩


def spec_l1Second.f (a0 : Int) (a1 : Int) : Option (Int) := if a1 < 2 then (some a1) else (if a1 ≤ (wrap64 (a0 + 1)) then (if a0 = 0 then (none) else (some (Int.tmod (wrap64 (a1 - 1)) a0))) else (if a0 = 0 then (none) else (some (Int.tmod a1 a0))))
set_option maxHeartbeats 8000000 in
set_option maxRecDepth 100000 in
theorem spec_l1Second.calls (a0 : Int) (a1 : Int) (r : Int) (w : World) (h : spec_l1Second.f a0 a1 = some r) :
  Calls Try.prog 69 #[.int .i64 a0, .int .i64 a1] w fun e w' => e = .returned (.int .i64 r) ∧ Drawn0 w w' := by
 have H : (if a1 < 2 then (some a1) else (if a1 ≤ (wrap64 (a0 + 1)) then (if a0 = 0 then (none) else (some (Int.tmod (wrap64 (a1 - 1)) a0))) else (if a0 = 0 then (none) else (some (Int.tmod a1 a0))))) = some r := h; clear h; revert H; refine ic_ (fun c3b0 H => ?_) (fun c3b0 H => ?_)
 ·obtain rfl := Option.some.inj H; go_enter Try.func69, Try.ntmps69; go_wp2; go_ret; exact ⟨by first | rfl | (simp; done) | (simp [*]; done), by repeat (first | exact Drawn0.refl _ | apply Drawn0.step)⟩
 revert H; refine ic_ (fun c4b0 H => ?_) (fun c4b0 H => ?_)
 ·by_cases c5 : a0 = 0
  ·rw [if_pos c5] at H; exact absurd H (by simp)
  rw [if_neg c5] at H; have c5b0 : (a0 == 0) = false := beq_eq_false_iff_ne.mpr c5; have c5b1 : (a0 != 0) = true := bne_iff_ne.mpr c5; obtain rfl := Option.some.inj H; go_enter Try.func69, Try.ntmps69; go_wp2; go_ret; exact ⟨by first | rfl | (simp; done) | (simp [*]; done), by repeat (first | exact Drawn0.refl _ | apply Drawn0.step)⟩
 by_cases c6 : a0 = 0
 ·rw [if_pos c6] at H; exact absurd H (by simp)
 rw [if_neg c6] at H; have c6b0 : (a0 == 0) = false := beq_eq_false_iff_ne.mpr c6; have c6b1 : (a0 != 0) = true := bne_iff_ne.mpr c6; obtain rfl := Option.some.inj H; go_enter Try.func69, Try.ntmps69; go_wp2; go_ret; exact ⟨by first | rfl | (simp; done) | (simp [*]; done), by repeat (first | exact Drawn0.refl _ | apply Drawn0.step)⟩

end Go.Proofs.Ytjjkagnbdfofbaa.P
end
