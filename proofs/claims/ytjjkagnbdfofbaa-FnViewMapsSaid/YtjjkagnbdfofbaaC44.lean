/- What is drawn: draws come to an end, and tell of some system. -/
import Derived.Test.YtjjkagnbdfofbaaPf16
import Derived.Test.YtjjkagnbdfofbaaM10
import Derived.Test.YtjjkagnbdfofbaaM3
import Derived.Test.YtjjkagnbdfofbaaM9
import Derived.Test.YtjjkagnbdfofbaaM13
import Derived.KernelRfl
set_option linter.unusedSimpArgs false
set_option linter.unusedVariables false
namespace Go.Proofs.Ytjjkagnbdfofbaa.Pure
open Go.RowKit Go.Proofs.Ytjjkagnbdfofbaa.P Go.Proofs.YtjjkagnbdfofbaaW.PrintWords Go.Proofs.YtjjkagnbdfofbaaW.PrintLast
abbrev Sy := Int × List Int × List Int × List Bool
theorem evK {α : Type} {g : Nat → Option α} {r : α} (K : Nat) (h : ∀ k, g (k + K) = some r) : Ev g r := ⟨K, fun k hk => by
  obtain ⟨j, rfl⟩ : ∃ j, k = j + K := ⟨k - K, by omega⟩
  exact h j⟩
theorem exE {α β : Type} {g : Nat → Option α} {f : Nat → α → Option β} {a : α} (h : Ev g a) (e : ∃ r, Ev (fun n => f n a) r) : ∃ r, Ev (fun n => (g n).bind (f n)) r := by
  obtain ⟨r, e⟩ := e
  exact ⟨r, Ev.bind h e⟩
theorem and255 (a : Int) : 0 ≤ Go.bits .and .i64 a 255 ∧ Go.bits .and .i64 a 255 ≤ 255 := by
  have h : ∃ n : Nat, n ≤ 255 ∧ Go.bits .and .i64 a 255 = IntKind.i64.wrap (n : Int) := by
    refine ⟨(BitVec.ofInt IntKind.i64.bits a &&& BitVec.ofInt IntKind.i64.bits 255).toNat, ?_, rfl⟩
    rw [BitVec.toNat_and]
    exact Nat.le_trans Nat.and_le_right (by decide)
  obtain ⟨n, hn, e⟩ := h
  rw [e, IntKind.wrap_i64]
  omega
section
variable {c : List Int} (hc : c.length ≤ 1048576)
include hc
theorem byteE (i h : Int) (h0 : 0 ≤ i) : ∃ x i' h', spec_l1Byte.f c i h = some (x, i', h') ∧ 0 ≤ x ∧ x ≤ 255 ∧ 0 ≤ i' := by
  unfold spec_l1Byte.f
  by_cases q : i < (c.length : Int)
  · rw [if_pos q, if_pos h0]
    exact ⟨_, _, _, rfl, (and255 _).1, (and255 _).2, by rw [w64 (by omega) (by omega)]; omega⟩
  · rw [if_neg q]
    exact ⟨_, _, _, rfl, (and255 _).1, (and255 _).2, h0⟩
theorem belowE (i h n : Int) (h0 : 0 ≤ i) (hn : n ≤ 256) : ∃ x i' h', spec_l1Below.f c i h n = some (x, i', h') ∧ 0 ≤ x ∧ (0 < n → x < n) ∧ 0 ≤ i' := by
  unfold spec_l1Below.f
  by_cases q : n ≤ 0
  · rw [if_pos q]; exact ⟨_, _, _, rfl, by omega, by omega, h0⟩
  · obtain ⟨x, i', h', e, x0, x1, hi⟩ := byteE hc i h h0
    rw [if_neg q, if_pos hn, e, Option.bind_some, if_neg (by omega)]
    exact ⟨_, _, _, rfl, Int.tmod_nonneg n x0, fun hp => Int.tmod_lt_of_pos x hp, hi⟩
/-- A system of few grades. -/
def gd (s : Sy) : Bool := decide (s.1 ≤ 9) && sysV s.1 s.2.1 s.2.2.1 s.2.2.2
def sC (n : Nat) : Sy := (spec_CountSystem.f 64 (n : Int)).getD (0, [], [], [])
def sB (n : Nat) : Sy := (spec_BoundSystem.f 64 (n : Int)).getD (0, [], [], [])
def sL (n : Nat) : Sy := (spec_LevelSystem.f 64 (n : Int)).getD (0, [], [], [])
def sP (n : Nat) : Sy × Bool := ((spec_ProductSystem.f 400 (sC 1).1 (sC 1).2.1 (sC 1).2.2.1 (sC 1).2.2.2 (sL n).1 (sL n).2.1 (sL n).2.2.1 (sL n).2.2.2).map fun r => ((r.1, r.2.1, r.2.2.1, r.2.2.2.1), r.2.2.2.2)).getD ((0, [], [], []), false)
omit hc in
theorem three {P : Nat → Prop} (h1 : P 1) (h2 : P 2) (h3 : P 3) (n : Int) (h0 : 1 ≤ n) (hn : n ≤ 3) : ∃ m : Nat, n = m ∧ P m := by
  have : n = 1 ∨ n = 2 ∨ n = 3 := by omega
  rcases this with rfl | rfl | rfl
  · exact ⟨1, rfl, h1⟩
  · exact ⟨2, rfl, h2⟩
  · exact ⟨3, rfl, h3⟩
omit hc in
theorem countE (n : Int) (h0 : 1 ≤ n) (hn : n ≤ 3) : ∃ m : Nat, n = m ∧ (Ev (fun k => spec_CountSystem.f k (m : Int)) (sC m) ∧ gd (sC m) = true) :=
  three ⟨evK 64 fun k => by kernel_rfl, by decide +kernel⟩ ⟨evK 64 fun k => by kernel_rfl, by decide +kernel⟩ ⟨evK 64 fun k => by kernel_rfl, by decide +kernel⟩ n h0 hn
omit hc in
theorem boundE (n : Int) (h0 : 1 ≤ n) (hn : n ≤ 3) : ∃ m : Nat, n = m ∧ (Ev (fun k => spec_BoundSystem.f k (m : Int)) (sB m) ∧ gd (sB m) = true) :=
  three ⟨evK 64 fun k => by kernel_rfl, by decide +kernel⟩ ⟨evK 64 fun k => by kernel_rfl, by decide +kernel⟩ ⟨evK 64 fun k => by kernel_rfl, by decide +kernel⟩ n h0 hn
omit hc in
theorem levelE (n : Int) (h0 : 1 ≤ n) (hn : n ≤ 3) : ∃ m : Nat, n = m ∧ (Ev (fun k => spec_LevelSystem.f k (m : Int)) (sL m) ∧ gd (sL m) = true) :=
  three ⟨evK 64 fun k => by kernel_rfl, by decide +kernel⟩ ⟨evK 64 fun k => by kernel_rfl, by decide +kernel⟩ ⟨evK 64 fun k => by kernel_rfl, by decide +kernel⟩ n h0 hn
omit hc in
theorem productE (n : Int) (h0 : 1 ≤ n) (hn : n ≤ 2) : ∃ m : Nat, n = m ∧ (Ev (fun k => spec_ProductSystem.f k (sC 1).1 (sC 1).2.1 (sC 1).2.2.1 (sC 1).2.2.2 (sL m).1 (sL m).2.1 (sL m).2.2.1 (sL m).2.2.2) ((sP m).1.1, (sP m).1.2.1, (sP m).1.2.2.1, (sP m).1.2.2.2, (sP m).2) ∧ gd (sP m).1 = true) :=
  (by omega : n = 1 ∨ n = 2).elim (fun e => ⟨1, e, evK 400 fun k => by kernel_rfl, by decide +kernel⟩) (fun e => ⟨2, e, evK 400 fun k => by kernel_rfl, by decide +kernel⟩)
abbrev S6 := Int × List Int × List Int × List Bool × Int × Int
def Fine6 (r : S6) : Prop := gd (r.1, r.2.1, r.2.2.1, r.2.2.2.1) = true ∧ 0 ≤ r.2.2.2.2.1
theorem j1E (n y : Int) (f : Bool) (i h : Int) (s : Sy) (h1 : 1 ≤ n) (h3 : n ≤ 3) (h0 : 0 ≤ i) (hs : gd s = true) : ∃ r, Ev (fun k => spec_dSystem.j1 k n y f c i h s.1 s.2.1 s.2.2.1 s.2.2.2) r ∧ Fine6 r := by
  cases f
  · by_cases hy : y = 5
    · obtain ⟨m1, e1, ec, _⟩ := countE 1 (by omega) (by omega)
      obtain rfl : m1 = 1 := by omega
      obtain ⟨x, i', h', ex, x0, x1, hi⟩ := belowE hc i h 2 h0 (by omega)
      have x2 := x1 (by omega)
      obtain ⟨m, em, el, _⟩ := levelE (1 + x) (by omega) (by omega)
      have ew : wrap64 (1 + x) = (m : Int) := by rw [w64 (by omega) (by omega)]; exact em
      obtain ⟨m', em', ep, gp⟩ := productE (1 + x) (by omega) (by omega)
      obtain rfl : m = m' := by omega
      refine ⟨((sP m).1.1, (sP m).1.2.1, (sP m).1.2.2.1, (sP m).1.2.2.2, i', h'), Ev.step (fun k => by simp only [spec_dSystem.j1, Bool.false_eq_true, if_false]; rw [if_pos hy]) ?_, gp, hi⟩
      refine Ev.bind ec ?_
      simp only [ex, Option.bind_some, ew]
      refine Ev.bind el ?_
      exact Ev.bind ep (Ev.now _)
    · exact ⟨(s.1, s.2.1, s.2.2.1, s.2.2.2, i, h), Ev.step (f := fun _ => some (s.1, s.2.1, s.2.2.1, s.2.2.2, i, h)) (fun k => by simp only [spec_dSystem.j1, Bool.false_eq_true, if_false]; rw [if_neg hy]) (Ev.now _), hs, h0⟩
  · obtain ⟨m, em, el, gl⟩ := levelE n h1 h3
    refine ⟨((sL m).1, (sL m).2.1, (sL m).2.2.1, (sL m).2.2.2, i, h), Ev.step (fun k => by simp only [spec_dSystem.j1, if_true]; rfl) ?_, gl, h0⟩
    rw [em]
    exact Ev.bind el (Ev.now _)
theorem j0E (n y : Int) (f : Bool) (i h : Int) (s : Sy) (h1 : 1 ≤ n) (h3 : n ≤ 3) (h0 : 0 ≤ i) (hs : gd s = true) : ∃ r, Ev (fun k => spec_dSystem.j0 k n y f c i h s.1 s.2.1 s.2.2.1 s.2.2.2) r ∧ Fine6 r := by
  cases f
  · by_cases hy : y = 3
    · obtain ⟨r, er, fr⟩ := j1E hc n y (y == 3) i h s h1 h3 h0 hs
      exact ⟨r, Ev.step (fun k => by simp only [spec_dSystem.j0, Bool.false_eq_true, if_false]; rw [if_pos hy]) er, fr⟩
    · obtain ⟨r, er, fr⟩ := j1E hc n y (y == 4) i h s h1 h3 h0 hs
      exact ⟨r, Ev.step (fun k => by simp only [spec_dSystem.j0, Bool.false_eq_true, if_false]; rw [if_neg hy]) er, fr⟩
  · obtain ⟨m, em, el, gl⟩ := countE n h1 h3
    refine ⟨((sC m).1, (sC m).2.1, (sC m).2.2.1, (sC m).2.2.2, i, h), Ev.step (fun k => by simp only [spec_dSystem.j0, if_true]; rfl) ?_, gl, h0⟩
    rw [em]
    exact Ev.bind el (Ev.now _)
theorem dSystemE (i h : Int) (h0 : 0 ≤ i) : ∃ r, Ev (fun k => spec_dSystem.f k c i h) r ∧ Fine6 r := by
  obtain ⟨x, i1, h1, e1, x0, x1, hi1⟩ := belowE hc i h 3 h0 (by omega)
  have x2 := x1 (by omega)
  obtain ⟨m, em, eb, gb⟩ := boundE (1 + x) (by omega) (by omega)
  have ew : wrap64 (1 + x) = (m : Int) := by rw [w64 (by omega) (by omega)]; exact em
  obtain ⟨y, i2, h2, e2, _, _, hi2⟩ := belowE hc i1 h1 8 hi1 (by omega)
  have fin : ∀ f, ∃ r, Ev (fun k => spec_dSystem.j0 k (m : Int) y f c i2 h2 (sB m).1 (sB m).2.1 (sB m).2.2.1 (sB m).2.2.2) r ∧ Fine6 r := fun f => j0E hc (m : Int) y f i2 h2 (sB m) (by omega) (by omega) hi2 gb
  unfold spec_dSystem.f
  simp only [e1, Option.bind_some, ew]
  by_cases y0 : y = 0
  · obtain ⟨r, er, fr⟩ := fin (y == 0)
    refine ⟨r, Ev.bind eb ?_, fr⟩
    simp only [e2, Option.bind_some, if_pos y0]; exact er
  · by_cases y1 : y = 1
    · obtain ⟨r, er, fr⟩ := fin (y == 1)
      refine ⟨r, Ev.bind eb ?_, fr⟩
      simp only [e2, Option.bind_some, if_neg y0, if_pos y1]; exact er
    · obtain ⟨r, er, fr⟩ := fin (y == 2)
      refine ⟨r, Ev.bind eb ?_, fr⟩
      simp only [e2, Option.bind_some, if_neg y0, if_neg y1]; exact er
theorem bentE (i h : Int) (h0 : 0 ≤ i) : ∃ x i' h', spec_dBent.f c i h = some (x, i', h') ∧ 0 ≤ i' := by
  obtain ⟨x, i', h', ex, x0, x1, hi⟩ := belowE hc i h 13 h0 (by omega)
  have x2 := x1 (by omega)
  unfold spec_dBent.f spec_l1PickInt.f
  refine ⟨rd [(-1), 0, 1, 2, 3, 7, 8, 15, 16, 17, 40, 9223372036854775807, (-9223372036854775808)] x, i', h', ?_, hi⟩
  rw [show (([(-1), 0, 1, 2, 3, 7, 8, 15, 16, 17, 40, 9223372036854775807, (-9223372036854775808)] : List Int).length : Int) = 13 from rfl, ex, Option.bind_some, if_pos x0, if_pos x2, Option.bind_some]
omit hc in
theorem newE : ∃ h, Ev (fun k => spec_l1New.f k c) (c, 0, h) := by
  have lp : ∀ (m : Nat) (i h : Int), 0 ≤ i → i + m = (c.length : Int) → ∃ h', Ev (fun k => spec_l1New.l0 k c h i) (c, 0, h') := by
    intro m
    induction m with
    | zero =>
      intro i h h0 hi
      refine ⟨h, Ev.step (f := fun _ => some (c, 0, h)) (fun k => ?_) (Ev.now _)⟩
      simp only [spec_l1New.l0]; rw [if_neg (by omega)]
    | succ m ih =>
      intro i h h0 hi
      by_cases q : i < 4000
      · obtain ⟨h', e⟩ := ih (i + 1) (Go.bits .and .i64 (wrap64 ((wrap64 ((wrap64 (h * 151)) + (wrap64 (rd c i)))) + 7)) 1073741823) (by omega) (by omega)
        refine ⟨h', Ev.step (fun k => ?_) e⟩
        simp only [spec_l1New.l0]; rw [if_pos (by omega), if_pos q, if_pos h0, w64 (x := i + 1) (by omega) (by omega)]
      · refine ⟨h, Ev.step (f := fun _ => some (c, 0, h)) (fun k => ?_) (Ev.now _)⟩
        simp only [spec_l1New.l0]; rw [if_pos (by omega), if_neg q]
  unfold spec_l1New.f
  exact lp c.length 0 _ (by omega) (by omega)
theorem onceE (i h n : Int) (h0 : 0 ≤ i) (hn : n ≤ 256) : ∃ x i' h', spec_l1Once.f c i h n = some (x, i', h') ∧ 0 ≤ i' := by
  obtain ⟨x, i', h', e, _, _, hi⟩ := belowE hc i h n h0 hn
  exact ⟨_, _, _, by unfold spec_l1Once.f; rw [e, Option.bind_some], hi⟩
end
end Go.Proofs.Ytjjkagnbdfofbaa.Pure
