-- Several texts in one (wip/tools/merge.py).
import Derived.Test.YtjjkagnbdfofbaaPf16
import Derived.Test.YtjjkagnbdfofbaaM10
import Derived.Test.YtjjkagnbdfofbaaM3
import Derived.Test.YtjjkagnbdfofbaaM8
import Derived.Test.YtjjkagnbdfofbaaM13
import Derived.KernelRfl
import Derived.Test.YtjjkagnbdfofbaaPf17
import Derived.Test.YtjjkagnbdfofbaaC43
import Derived.Test.YtjjkagnbdfofbaaM5
import Derived.Test.YtjjkagnbdfofbaaM15
section
/- What is drawn: draws come to an end, and tell of some system. -/
set_option linter.unusedSimpArgs false
set_option linter.unusedVariables false
namespace Go.Proofs.Ytjjkagnbdfofbaa.Pure
open Go.RowKit Go.Proofs.Ytjjkagnbdfofbaa.P Go.Proofs.YtjjkagnbdfofbaaW.PrintWords Go.Proofs.YtjjkagnbdfofbaaW.PrintLast
abbrev Sy := Int × List Int × List Int × List Bool
theorem evK {α : Type} {g : Nat → Option α} {r : α} (K : Nat) (h : ∀ k, g (k + K) = some r) : Ev g r := ⟨K, fun k hk => by
  obtain ⟨j, rfl⟩ : ∃ j, k = j + K := ⟨k - K, by omega⟩
  exact h j⟩
theorem and255 (a : Int) : 0 ≤ Go.bits .and .i64 a 255 ∧ Go.bits .and .i64 a 255 ≤ 255 := by
  have h : ∃ n : Nat, n ≤ 255 ∧ Go.bits .and .i64 a 255 = IntKind.i64.wrap (n : Int) := by
    refine ⟨(BitVec.ofInt IntKind.i64.bits a &&& BitVec.ofInt IntKind.i64.bits 255).toNat, ?_, rfl⟩
    rw [BitVec.toNat_and]
    exact Nat.le_trans Nat.and_le_right (by decide)
  obtain ⟨n, hn, e⟩ := h
  rw [e, IntKind.wrap_i64]
  omega
section
variable {c : List Int} (hc : c.length ≤ 1048576)
include hc
theorem byteE (i h : Int) (h0 : 0 ≤ i) : ∃ x i' h', spec_l1Byte.f c i h = some (x, i', h') ∧ 0 ≤ x ∧ x ≤ 255 ∧ 0 ≤ i' := by
  unfold spec_l1Byte.f
  by_cases q : i < (c.length : Int)
  · rw [if_pos q, if_pos h0]
    exact ⟨_, _, _, rfl, (and255 _).1, (and255 _).2, by rw [w64 (by omega) (by omega)]; omega⟩
  · rw [if_neg q]
    exact ⟨_, _, _, rfl, (and255 _).1, (and255 _).2, h0⟩
theorem belowE (i h n : Int) (h0 : 0 ≤ i) (hn : n ≤ 256) : ∃ x i' h', spec_l1Below.f c i h n = some (x, i', h') ∧ 0 ≤ x ∧ (0 < n → x < n) ∧ 0 ≤ i' := by
  unfold spec_l1Below.f
  by_cases q : n ≤ 0
  · rw [if_pos q]; exact ⟨_, _, _, rfl, by omega, by omega, h0⟩
  · obtain ⟨x, i', h', e, x0, x1, hi⟩ := byteE hc i h h0
    rw [if_neg q, if_pos hn, e, Option.bind_some, if_neg (by omega)]
    exact ⟨_, _, _, rfl, Int.tmod_nonneg n x0, fun hp => Int.tmod_lt_of_pos x hp, hi⟩
/-- A system of few grades. -/
def gd (s : Sy) : Bool := decide (s.1 ≤ 9) && sysV s.1 s.2.1 s.2.2.1 s.2.2.2
def sC (n : Nat) : Sy := (spec_CountSystem.f 64 (n : Int)).getD (0, [], [], [])
def sB (n : Nat) : Sy := (spec_BoundSystem.f 64 (n : Int)).getD (0, [], [], [])
def sL (n : Nat) : Sy := (spec_LevelSystem.f 64 (n : Int)).getD (0, [], [], [])
def sP (n : Nat) : Sy × Bool := ((spec_ProductSystem.f 400 (sC 1).1 (sC 1).2.1 (sC 1).2.2.1 (sC 1).2.2.2 (sL n).1 (sL n).2.1 (sL n).2.2.1 (sL n).2.2.2).map fun r => ((r.1, r.2.1, r.2.2.1, r.2.2.2.1), r.2.2.2.2)).getD ((0, [], [], []), false)
omit hc in
theorem three {P : Nat → Prop} (h1 : P 1) (h2 : P 2) (h3 : P 3) (n : Int) (h0 : 1 ≤ n) (hn : n ≤ 3) : ∃ m : Nat, n = m ∧ P m := by
  have : n = 1 ∨ n = 2 ∨ n = 3 := by omega
  rcases this with rfl | rfl | rfl
  · exact ⟨1, rfl, h1⟩
  · exact ⟨2, rfl, h2⟩
  · exact ⟨3, rfl, h3⟩
omit hc in
theorem countE (n : Int) (h0 : 1 ≤ n) (hn : n ≤ 3) : ∃ m : Nat, n = m ∧ (Ev (fun k => spec_CountSystem.f k (m : Int)) (sC m) ∧ gd (sC m) = true) :=
  three ⟨evK 64 fun k => by kernel_rfl, by decide +kernel⟩ ⟨evK 64 fun k => by kernel_rfl, by decide +kernel⟩ ⟨evK 64 fun k => by kernel_rfl, by decide +kernel⟩ n h0 hn
omit hc in
theorem boundE (n : Int) (h0 : 1 ≤ n) (hn : n ≤ 3) : ∃ m : Nat, n = m ∧ (Ev (fun k => spec_BoundSystem.f k (m : Int)) (sB m) ∧ gd (sB m) = true) :=
  three ⟨evK 64 fun k => by kernel_rfl, by decide +kernel⟩ ⟨evK 64 fun k => by kernel_rfl, by decide +kernel⟩ ⟨evK 64 fun k => by kernel_rfl, by decide +kernel⟩ n h0 hn
omit hc in
theorem levelE (n : Int) (h0 : 1 ≤ n) (hn : n ≤ 3) : ∃ m : Nat, n = m ∧ (Ev (fun k => spec_LevelSystem.f k (m : Int)) (sL m) ∧ gd (sL m) = true) :=
  three ⟨evK 64 fun k => by kernel_rfl, by decide +kernel⟩ ⟨evK 64 fun k => by kernel_rfl, by decide +kernel⟩ ⟨evK 64 fun k => by kernel_rfl, by decide +kernel⟩ n h0 hn
omit hc in
theorem productE (n : Int) (h0 : 1 ≤ n) (hn : n ≤ 2) : ∃ m : Nat, n = m ∧ (Ev (fun k => spec_ProductSystem.f k (sC 1).1 (sC 1).2.1 (sC 1).2.2.1 (sC 1).2.2.2 (sL m).1 (sL m).2.1 (sL m).2.2.1 (sL m).2.2.2) ((sP m).1.1, (sP m).1.2.1, (sP m).1.2.2.1, (sP m).1.2.2.2, (sP m).2) ∧ gd (sP m).1 = true) :=
  (by omega : n = 1 ∨ n = 2).elim (fun e => ⟨1, e, evK 400 fun k => by kernel_rfl, by decide +kernel⟩) (fun e => ⟨2, e, evK 400 fun k => by kernel_rfl, by decide +kernel⟩)
abbrev S6 := Int × List Int × List Int × List Bool × Int × Int
def Fine6 (r : S6) : Prop := gd (r.1, r.2.1, r.2.2.1, r.2.2.2.1) = true ∧ 0 ≤ r.2.2.2.2.1
theorem j1E (n y : Int) (f : Bool) (i h : Int) (s : Sy) (h1 : 1 ≤ n) (h3 : n ≤ 3) (h0 : 0 ≤ i) (hs : gd s = true) : ∃ r, Ev (fun k => spec_dSystem.j1 k n y f c i h s.1 s.2.1 s.2.2.1 s.2.2.2) r ∧ Fine6 r := by
  cases f
  · by_cases hy : y = 5
    · obtain ⟨m1, e1, ec, _⟩ := countE 1 (by omega) (by omega)
      obtain rfl : m1 = 1 := by omega
      obtain ⟨x, i', h', ex, x0, x1, hi⟩ := belowE hc i h 2 h0 (by omega)
      have x2 := x1 (by omega)
      obtain ⟨m, em, el, _⟩ := levelE (1 + x) (by omega) (by omega)
      have ew : wrap64 (1 + x) = (m : Int) := by rw [w64 (by omega) (by omega)]; exact em
      obtain ⟨m', em', ep, gp⟩ := productE (1 + x) (by omega) (by omega)
      obtain rfl : m = m' := by omega
      refine ⟨((sP m).1.1, (sP m).1.2.1, (sP m).1.2.2.1, (sP m).1.2.2.2, i', h'), Ev.step (fun k => by simp only [spec_dSystem.j1, Bool.false_eq_true, if_false]; rw [if_pos hy]) ?_, gp, hi⟩
      refine Ev.bind ec ?_
      simp only [ex, Option.bind_some, ew]
      refine Ev.bind el ?_
      exact Ev.bind ep (Ev.now _)
    · exact ⟨(s.1, s.2.1, s.2.2.1, s.2.2.2, i, h), Ev.step (f := fun _ => some (s.1, s.2.1, s.2.2.1, s.2.2.2, i, h)) (fun k => by simp only [spec_dSystem.j1, Bool.false_eq_true, if_false]; rw [if_neg hy]) (Ev.now _), hs, h0⟩
  · obtain ⟨m, em, el, gl⟩ := levelE n h1 h3
    refine ⟨((sL m).1, (sL m).2.1, (sL m).2.2.1, (sL m).2.2.2, i, h), Ev.step (fun k => by simp only [spec_dSystem.j1, if_true]; rfl) ?_, gl, h0⟩
    rw [em]
    exact Ev.bind el (Ev.now _)
theorem j0E (n y : Int) (f : Bool) (i h : Int) (s : Sy) (h1 : 1 ≤ n) (h3 : n ≤ 3) (h0 : 0 ≤ i) (hs : gd s = true) : ∃ r, Ev (fun k => spec_dSystem.j0 k n y f c i h s.1 s.2.1 s.2.2.1 s.2.2.2) r ∧ Fine6 r := by
  cases f
  · by_cases hy : y = 3
    · obtain ⟨r, er, fr⟩ := j1E hc n y (y == 3) i h s h1 h3 h0 hs
      exact ⟨r, Ev.step (fun k => by simp only [spec_dSystem.j0, Bool.false_eq_true, if_false]; rw [if_pos hy]) er, fr⟩
    · obtain ⟨r, er, fr⟩ := j1E hc n y (y == 4) i h s h1 h3 h0 hs
      exact ⟨r, Ev.step (fun k => by simp only [spec_dSystem.j0, Bool.false_eq_true, if_false]; rw [if_neg hy]) er, fr⟩
  · obtain ⟨m, em, el, gl⟩ := countE n h1 h3
    refine ⟨((sC m).1, (sC m).2.1, (sC m).2.2.1, (sC m).2.2.2, i, h), Ev.step (fun k => by simp only [spec_dSystem.j0, if_true]; rfl) ?_, gl, h0⟩
    rw [em]
    exact Ev.bind el (Ev.now _)
theorem dSystemE (i h : Int) (h0 : 0 ≤ i) : ∃ r, Ev (fun k => spec_dSystem.f k c i h) r ∧ Fine6 r := by
  obtain ⟨x, i1, h1, e1, x0, x1, hi1⟩ := belowE hc i h 3 h0 (by omega)
  have x2 := x1 (by omega)
  obtain ⟨m, em, eb, gb⟩ := boundE (1 + x) (by omega) (by omega)
  have ew : wrap64 (1 + x) = (m : Int) := by rw [w64 (by omega) (by omega)]; exact em
  obtain ⟨y, i2, h2, e2, _, _, hi2⟩ := belowE hc i1 h1 8 hi1 (by omega)
  have fin : ∀ f, ∃ r, Ev (fun k => spec_dSystem.j0 k (m : Int) y f c i2 h2 (sB m).1 (sB m).2.1 (sB m).2.2.1 (sB m).2.2.2) r ∧ Fine6 r := fun f => j0E hc (m : Int) y f i2 h2 (sB m) (by omega) (by omega) hi2 gb
  unfold spec_dSystem.f
  simp only [e1, Option.bind_some, ew]
  by_cases y0 : y = 0
  · obtain ⟨r, er, fr⟩ := fin (y == 0)
    refine ⟨r, Ev.bind eb ?_, fr⟩
    simp only [e2, Option.bind_some, if_pos y0]; exact er
  · by_cases y1 : y = 1
    · obtain ⟨r, er, fr⟩ := fin (y == 1)
      refine ⟨r, Ev.bind eb ?_, fr⟩
      simp only [e2, Option.bind_some, if_neg y0, if_pos y1]; exact er
    · obtain ⟨r, er, fr⟩ := fin (y == 2)
      refine ⟨r, Ev.bind eb ?_, fr⟩
      simp only [e2, Option.bind_some, if_neg y0, if_neg y1]; exact er
theorem bentE (i h : Int) (h0 : 0 ≤ i) : ∃ x i' h', spec_dBent.f c i h = some (x, i', h') ∧ 0 ≤ i' := by
  obtain ⟨x, i', h', ex, x0, x1, hi⟩ := belowE hc i h 13 h0 (by omega)
  have x2 := x1 (by omega)
  unfold spec_dBent.f spec_l1PickInt.f
  refine ⟨rd [(-1), 0, 1, 2, 3, 7, 8, 15, 16, 17, 40, 9223372036854775807, (-9223372036854775808)] x, i', h', ?_, hi⟩
  rw [show (([(-1), 0, 1, 2, 3, 7, 8, 15, 16, 17, 40, 9223372036854775807, (-9223372036854775808)] : List Int).length : Int) = 13 from rfl, ex, Option.bind_some, if_pos x0, if_pos x2, Option.bind_some]
omit hc in
theorem newE : ∃ h, Ev (fun k => spec_l1New.f k c) (c, 0, h) := by
  have lp : ∀ (m : Nat) (i h : Int), 0 ≤ i → i + m = (c.length : Int) → ∃ h', Ev (fun k => spec_l1New.l0 k c h i) (c, 0, h') := by
    intro m
    induction m with
    | zero =>
      intro i h h0 hi
      refine ⟨h, Ev.step (f := fun _ => some (c, 0, h)) (fun k => ?_) (Ev.now _)⟩
      simp only [spec_l1New.l0]; rw [if_neg (by omega)]
    | succ m ih =>
      intro i h h0 hi
      by_cases q : i < 4000
      · obtain ⟨h', e⟩ := ih (i + 1) (Go.bits .and .i64 (wrap64 ((wrap64 ((wrap64 (h * 151)) + (wrap64 (rd c i)))) + 7)) 1073741823) (by omega) (by omega)
        refine ⟨h', Ev.step (fun k => ?_) e⟩
        simp only [spec_l1New.l0]; rw [if_pos (by omega), if_pos q, if_pos h0, w64 (x := i + 1) (by omega) (by omega)]
      · refine ⟨h, Ev.step (f := fun _ => some (c, 0, h)) (fun k => ?_) (Ev.now _)⟩
        simp only [spec_l1New.l0]; rw [if_pos (by omega), if_neg q]
  unfold spec_l1New.f
  exact lp c.length 0 _ (by omega) (by omega)
theorem onceE (i h n : Int) (h0 : 0 ≤ i) (hn : n ≤ 256) : ∃ x i' h', spec_l1Once.f c i h n = some (x, i', h') ∧ 0 ≤ i' := by
  obtain ⟨x, i', h', e, _, _, hi⟩ := belowE hc i h n h0 hn
  exact ⟨_, _, _, by unfold spec_l1Once.f; rw [e, Option.bind_some], hi⟩
end
end Go.Proofs.Ytjjkagnbdfofbaa.Pure
end

section
/- Views that are drawn. -/
set_option linter.unusedSimpArgs false
set_option linter.unusedVariables false
namespace Go.Proofs.Ytjjkagnbdfofbaa.Pure
open Go.RowKit Go.Proofs.Ytjjkagnbdfofbaa.P Go.Proofs.YtjjkagnbdfofbaaW.PrintWords Go.Proofs.YtjjkagnbdfofbaaW.PrintLast
section
variable {c : List Int} (hc : c.length ≤ 1048576)
include hc
theorem gradeE (i h : Int) (h0 : 0 ≤ i) (n : Int) (p t : List Int) (b : List Bool) (hn : n ≤ 256) : ∃ x i' h', spec_dGrade.f c i h n p t b = some (x, i', h') ∧ 0 ≤ i' := by
  obtain ⟨x, i1, h1, e1, hi1⟩ := onceE hc i h 30 h0 (by omega)
  unfold spec_dGrade.f
  rw [e1, Option.bind_some]
  cases x
  · obtain ⟨x, i2, h2, e2, _, _, hi2⟩ := belowE hc i1 h1 n hi1 hn
    simp only [Bool.false_eq_true, if_false, e2, Option.bind_some]
    exact ⟨_, _, _, rfl, hi2⟩
  · obtain ⟨x, i2, h2, e2, hi2⟩ := bentE hc i1 h1 hi1
    simp only [if_true, e2, Option.bind_some]
    exact ⟨_, _, _, rfl, hi2⟩
theorem gradesE (n : Int) (p t : List Int) (b : List Bool) (hn : n ≤ 256) (x : Int) (hx : x ≤ 65536) : ∀ (m : Nat) (q : Int) (l : List Int) (i h : Int), 0 ≤ i → 0 ≤ q → q + m = x → (l.length : Int) = q → ∃ r i' h', Ev (fun k => spec_dGrades.l0 k x l q c i h n p t b) (r, i', h') ∧ 0 ≤ i' ∧ (r.length : Int) ≤ x := by
  intro m
  induction m with
  | zero =>
    intro q l i h h0 q0 hq hl
    refine ⟨l, i, h, Ev.step (f := fun _ => some (l, i, h)) (fun k => ?_) (Ev.now _), h0, by omega⟩
    simp only [spec_dGrades.l0]; rw [if_neg (by omega)]
  | succ m ih =>
    intro q l i h h0 q0 hq hl
    obtain ⟨y, i1, h1, e1, hi1⟩ := gradeE hc i h h0 n p t b hn
    obtain ⟨r, i2, h2, e2, hi2, hr⟩ := ih (q + 1) (l ++ [y]) i1 h1 hi1 (by omega) (by omega) (by simp; omega)
    refine ⟨r, i2, h2, Ev.step (fun k => ?_) e2, hi2, hr⟩
    simp only [spec_dGrades.l0]; rw [if_pos (by omega), e1, Option.bind_some, if_pos (by omega), w64 (by omega) (by omega)]
theorem viewE (n : Int) (p t : List Int) (b : List Bool) (g : gd (n, p, t, b) = true) (i h : Int) (h0 : 0 ≤ i) : ∃ v i' h', Ev (fun k => spec_dView.f k c i h n p t b) (v, i', h') ∧ 0 ≤ i' ∧ v.length ≤ 1048576 := by
  simp only [gd, Bool.and_eq_true, decide_eq_true_eq] at g
  have o := sysV_ok g.2
  have h1 := o.lo
  have sv := specViews n p t b
  rw [if_pos g.2] at sv
  have hl : (sortL (viewsL (markV n p t b) (n - 2).toNat [false, true])).length ≤ 128 := by
    rw [sortL_len]
    refine Nat.le_trans (viewsL_len _ _ _) ?_
    have g : 2 ^ (n - 2).toNat ≤ 2 ^ 7 := Nat.pow_le_pow_right (by decide) (by omega)
    exact g
  have he : ∀ a ∈ sortL (viewsL (markV n p t b) (n - 2).toNat [false, true]), a.length ≤ 16 := fun a ha => by
    have := viewsL_mem (sortL_mem.mp ha)
    simp at this
    omega
  generalize sortL (viewsL (markV n p t b) (n - 2).toNat [false, true]) = W at sv hl he
  have yes : ∀ i h, 0 ≤ i → ∃ v i' h', Ev (fun k => spec_dView.j0 k W true c i h n p t b) (v, i', h') ∧ 0 ≤ i' ∧ v.length ≤ 1048576 := by
    intro i h h0
    obtain ⟨x, i1, h1, e1, x0, x1, hi1⟩ := belowE hc i h 3 h0 (by omega)
    have x2 := x1 (by omega)
    obtain ⟨r, i2, h2, e2, hi2, hr⟩ := gradesE hc n p t b (by omega) x (by omega) x.toNat 0 [] i1 h1 hi1 (by omega) (by omega) rfl
    refine ⟨r, i2, h2, Ev.step (f := fun k => (spec_dGrades.f k c i1 h1 n p t b x).bind fun w => some (w.1, w.2.1, w.2.2)) (fun k => ?_) (Ev.bind e2 (Ev.now _)), hi2, by omega⟩
    simp only [spec_dView.j0, if_true, e1, Option.bind_some]
  have no : ∀ i h, 0 ≤ i → W.length ≠ 0 → ∃ v i' h', Ev (fun k => spec_dView.j0 k W false c i h n p t b) (v, i', h') ∧ 0 ≤ i' ∧ v.length ≤ 1048576 := by
    intro i h h0 hw
    obtain ⟨x, i1, h1, e1, x0, x1, hi1⟩ := belowE hc i h (W.length : Int) h0 (by omega)
    have x2 := x1 (by omega)
    obtain ⟨q, rfl⟩ := Int.eq_ofNat_of_zero_le x0
    have hq : q < W.length := by omega
    have er : rd_L3 W (q : Int) = W[q] := by unfold rd_L3; rw [Int.toNat_natCast, List.getD_eq_getElem?_getD, List.getElem?_eq_getElem hq]; rfl
    have h16 := he _ (List.getElem_mem hq)
    refine ⟨W[q], i1, h1, Ev.step (f := fun _ => some (W[q], i1, h1)) (fun k => ?_) (Ev.now _), hi1, by omega⟩
    simp only [spec_dView.j0, Bool.false_eq_true, if_false, e1, Option.bind_some]
    rw [if_pos x0, if_pos x2, er]
    unfold spec_l1Copy.f
    rw [Option.bind_some, if_pos (by simp; omega), Option.bind_some]
    simp
  unfold spec_dView.f
  by_cases c0 : W.length = 0
  · obtain ⟨v, i1, h1, e1, r1⟩ := yes i h h0
    refine ⟨v, i1, h1, Ev.bind sv ?_, r1⟩
    refine evCongr (fun k => if_pos (by omega)) e1
  · obtain ⟨x, i1, h1, e1, hi1⟩ := onceE hc i h 12 h0 (by omega)
    cases x
    · obtain ⟨v, i2, h2, e2, r2⟩ := no i1 h1 hi1 c0
      refine ⟨v, i2, h2, Ev.bind sv ?_, r2⟩
      refine evCongr (fun k => (if_neg (by omega)).trans (by rw [e1, Option.bind_some])) e2
    · obtain ⟨v, i2, h2, e2, r2⟩ := yes i1 h1 hi1
      refine ⟨v, i2, h2, Ev.bind sv ?_, r2⟩
      refine evCongr (fun k => (if_neg (by omega)).trans (by rw [e1, Option.bind_some])) e2
end
end Go.Proofs.Ytjjkagnbdfofbaa.Pure
end

section
/- Views, and what they show. -/
set_option linter.unusedSimpArgs false
set_option linter.unusedVariables false
namespace Go.Proofs.Ytjjkagnbdfofbaa.Pure
open Go.RowKit Go.Proofs.Ytjjkagnbdfofbaa.P Go.Proofs.YtjjkagnbdfofbaaW.PrintWords Go.Proofs.YtjjkagnbdfofbaaW.PrintLast
def lv1 : Sy := (2, [0, 1, 1, 1], [0, 0, 0, 1], [true, true, false, true])
theorem lv1E : Ev (fun k => impl_LevelSystem.f k 1) lv1 := evK 64 fun k => by kernel_rfl
/-- Grades that rise, within a system. -/
def Up (n : Int) (v : List Int) (m : Nat) : Prop := ∀ j, j < m → Rg n (rd v (j : Int)) ∧ (0 < j → rd v ((j - 1 : Nat) : Int) < rd v (j : Int))
def Marked (n : Int) (v : List Int) (m : Nat) (s : List Bool) : Prop := (s.length : Int) = n ∧ ∀ x, Rg n x → (rdOf false s x = true ↔ ∃ j, j < m ∧ rd v (j : Int) = x)
theorem marked_zero {n : Int} (hn : 0 ≤ n) (v : List Int) : Marked n v 0 (List.replicate n.toNat false) := by
  refine ⟨by rw [List.length_replicate]; omega, fun x hx => ?_⟩
  obtain ⟨q, rfl⟩ := Int.eq_ofNat_of_zero_le hx.1
  have hq : q < (List.replicate n.toNat false).length := by rw [List.length_replicate]; have := hx.2; omega
  rw [rdB_get hq]; simp
theorem marked_succ {n : Int} {v : List Int} {m : Nat} {s : List Bool} (h : Marked n v m s) (hr : Rg n (rd v (m : Int))) : Marked n v (m + 1) (s.set (rd v (m : Int)).toNat true) := by
  refine ⟨by rw [List.length_set]; exact h.1, fun x hx => ?_⟩
  obtain ⟨q, rfl⟩ := Int.eq_ofNat_of_zero_le hx.1
  have hq : q < s.length := by have := hx.2; have := h.1; omega
  have hq2 : q < (s.set (rd v (m : Int)).toNat true).length := by rw [List.length_set]; exact hq
  have h0 := h.2 _ hx
  rw [rdB_get hq] at h0
  rw [rdB_get hq2, List.getElem_set]
  by_cases c : (rd v (m : Int)).toNat = q
  · rw [if_pos c]
    refine ⟨fun _ => ⟨m, by omega, by have := hr.1; omega⟩, fun _ => rfl⟩
  · rw [if_neg c, h0]
    constructor
    · rintro ⟨j, j1, j2⟩; exact ⟨j, by omega, j2⟩
    · rintro ⟨j, j1, j2⟩
      refine ⟨j, ?_, j2⟩
      rcases Nat.lt_or_ge j m with q1 | q1
      · exact q1
      · obtain rfl : j = m := by omega
        omega
section
variable {n : Int} {p t : List Int} {b : List Bool}
theorem allM_length : ∀ (m : Nat) (u : List Bool), u ∈ allM m → u.length = m
  | 0, u, h => by simp [allM] at h; simp [h]
  | m + 1, u, h => by
    rw [allM, List.mem_append, List.mem_map, List.mem_map] at h
    rcases h with ⟨w, hw, rfl⟩ | ⟨w, hw, rfl⟩ <;> simp [allM_length m w hw]
theorem memL_in : ∀ (z : List Bool) (a x : Int), x ∈ memL z a ↔ ∃ q, q < z.length ∧ z[q]? = some true ∧ x = a + (q : Int)
  | [], a, x => by simp [memL]
  | c :: z, a, x => by
    have ih := memL_in z (a + 1) x
    have tail : (∃ q, q < (c :: z).length ∧ (c :: z)[q]? = some true ∧ x = a + (q : Int)) ↔ (c = true ∧ x = a) ∨ ∃ q, q < z.length ∧ z[q]? = some true ∧ x = a + 1 + (q : Int) := by
      constructor
      · rintro ⟨q, h1, h2, h3⟩
        cases q with
        | zero => exact Or.inl ⟨by simpa using h2, by omega⟩
        | succ q => exact Or.inr ⟨q, by simpa using h1, by simpa using h2, by omega⟩
      · rintro (⟨h1, h2⟩ | ⟨q, h1, h2, h3⟩)
        · exact ⟨0, by simp, by simp [h1], by omega⟩
        · exact ⟨q + 1, by simpa using h1, by simpa using h2, by omega⟩
    rw [tail, ← ih]
    show x ∈ (if c = true then a :: memL z (a + 1) else memL z (a + 1)) ↔ _
    cases c <;> simp
theorem up_mem {v : List Int} (x : Int) : (∃ j, j < v.length ∧ rd v (j : Int) = x) ↔ x ∈ v := by
  rw [List.mem_iff_getElem]
  constructor
  · rintro ⟨j, hj, e⟩; rw [rd_get hj] at e; exact ⟨j, hj, e⟩
  · rintro ⟨j, hj, e⟩; exact ⟨j, hj, by rw [rd_get hj]; exact e⟩
/-- What a list of grades shows, grade by grade. -/
def sh1 (v : List Int) (x : Int) : Int := if x ∈ v then 1 else 0
def shL (v : List Int) : Nat → List Int
  | 0 => []
  | m + 1 => shL v m ++ [sh1 v (m : Int)]
theorem shL_len (v : List Int) : ∀ m, (shL v m).length = m
  | 0 => rfl
  | m + 1 => by rw [shL, List.length_append, shL_len v m]; rfl
theorem shL_get (v : List Int) : ∀ (m q : Nat), q < m → rd (shL v m) (q : Int) = sh1 v (q : Int)
  | 0, q, h => by omega
  | m + 1, q, h => by
    have hq : q < (shL v (m + 1)).length := by rw [shL_len]; exact h
    rw [rd_get hq]
    simp only [shL]
    rw [List.getElem_append]
    split
    · rename_i h1
      have := shL_get v m q (by rw [shL_len] at h1; exact h1)
      rw [rd_get h1] at this
      exact this
    · rename_i h1
      rw [shL_len] at h1
      obtain rfl : q = m := by omega
      simp [shL_len]
theorem hasE (v : List Int) (hv : v.length ≤ 1048576) (x : Int) : ∀ (m i : Nat), i + m = v.length → (∀ j, j < i → rd v (j : Int) ≠ x) → Ev (fun k => laws_has.l0 k v x (i : Int)) (decide (x ∈ v)) := by
  intro m
  induction m with
  | zero =>
    intro i hi hn
    have : decide (x ∈ v) = false := decide_eq_false fun h => by
      obtain ⟨j, hj, e⟩ := (up_mem x).mpr h
      exact hn j (by omega) e
    rw [this]
    refine Ev.step (f := fun _ => some false) (fun k => ?_) (Ev.now _)
    simp only [laws_has.l0]; rw [if_neg (by omega)]
  | succ m ih =>
    intro i hi hn
    by_cases c : rd v (i : Int) = x
    · have : decide (x ∈ v) = true := decide_eq_true ((up_mem x).mp ⟨i, by omega, c⟩)
      rw [this]
      refine Ev.step (f := fun _ => some true) (fun k => ?_) (Ev.now _)
      simp only [laws_has.l0]; rw [if_pos (by omega), if_pos (by omega), if_pos c]
    · refine Ev.step (fun k => ?_) (ih (i + 1) (by omega) fun j hj => ?_)
      · simp only [laws_has.l0]; rw [if_pos (by omega), if_pos (by omega), if_neg c, w64 (by omega) (by omega)]; rfl
      · rcases Nat.lt_or_ge j i with q | q
        · exact hn j q
        · obtain rfl : j = i := by omega
          exact c
theorem shownE (v : List Int) (hv : v.length ≤ 1048576) (N : Nat) (hN : N ≤ 65536) : ∀ (m i : Nat), i + m = N → Ev (fun k => laws_shown.l0 k v (shL v i) (i : Int) (N : Int) p t b) (shL v N) := by
  intro m
  induction m with
  | zero =>
    intro i hi
    obtain rfl : i = N := by omega
    refine Ev.step (f := fun _ => some (shL v i)) (fun k => ?_) (Ev.now _)
    simp only [laws_shown.l0]; rw [if_neg (by omega)]
  | succ m ih =>
    intro i hi
    refine Ev.step (f := fun k => (laws_has.f k v (i : Int)).bind fun c => if c = true then laws_shown.l0 k v (shL v i ++ [1]) ((i : Int) + 1) (N : Int) p t b else laws_shown.l0 k v (shL v i ++ [0]) ((i : Int) + 1) (N : Int) p t b) (fun k => ?_) (Ev.bind (hasE v hv (i : Int) v.length 0 (by omega) (fun j hj => by omega)) ?_)
    · have hl : (shL v i).length < 17592186044416 := by rw [shL_len]; omega
      simp only [laws_shown.l0]; rw [if_pos (by omega)]
      simp only [if_pos hl, w64 (x := (i : Int) + 1) (by omega) (by omega)]
    · have := ih (i + 1) (by omega)
      simp only [shL, sh1] at this
      by_cases c : (i : Int) ∈ v
      · simp only [decide_eq_true c, if_true]; rw [if_pos c] at this; exact this
      · simp only [decide_eq_false c, Bool.false_eq_true, if_false]; rw [if_neg c] at this; exact this
/-- A set is a view just if what it shows is a map to levels of one. -/
theorem markMap (s : Sys n p t b) {v : List Int} {z : List Bool} (hz : Marked n v v.length z) : mapV n p t b lv1.1 lv1.2.1 lv1.2.2.1 lv1.2.2.2 (shL v n.toNat) = (sysV n p t b && markV n p t b z) := by
  have o := s.ok
  have h1 := o.lo
  have hn : ((n.toNat : Nat) : Int) = n := by omega
  have hsh : ∀ x, Rg n x → rd (shL v n.toNat) x = if rdOf false z x = true then 1 else 0 := fun x hx => by
    obtain ⟨q, rfl⟩ := Int.eq_ofNat_of_zero_le hx.1
    rw [shL_get v n.toNat q (by have := hx.2; omega)]
    unfold sh1
    have := (hz.2 _ hx).trans (up_mem (q : Int))
    by_cases c : (q : Int) ∈ v
    · rw [if_pos c, if_pos (this.mpr c)]
    · rw [if_neg c, if_neg (fun h => c (this.mp h))]
  have r0 := Rg_zero o
  have r1 := Rg_one o
  unfold mapV pre
  cases hsv : sysV n p t b
  · simp
  rw [show sysV lv1.1 lv1.2.1 lv1.2.2.1 lv1.2.2.2 = true by decide +kernel, decide_eq_true (by rw [shL_len]; exact hn)]
  simp only [Bool.and_self, Bool.true_and, if_true]
  have nb : (shL v n.toNat).any (bad lv1.1) = false := by
    rw [List.any_eq_false]
    intro x hx
    obtain ⟨q, hq, rfl⟩ := List.mem_iff_getElem.mp hx
    have hq' : q < n.toNat := by rw [shL_len] at hq; exact hq
    have := hsh (q : Int) ⟨by omega, by omega⟩
    rw [rd_get hq] at this
    rw [this]
    split <;> decide +kernel
  rw [nb]
  simp only [Bool.false_eq_true, if_false]
  have e : ends (shL v n.toNat) = decide (rdOf false z 0 = false ∧ rdOf false z 1 = true) := by
    unfold ends
    rw [hsh 0 r0, hsh 1 r1]
    cases rdOf false z 0 <;> cases rdOf false z 1 <;> decide
  have key : ∀ x y, Rg n x → Rg n y → (m1 n p t b lv1.1 lv1.2.1 lv1.2.2.1 lv1.2.2.2 (shL v n.toNat) x y = v1 n p t b z x y) := by
    intro x y hx hy
    unfold m1 mOk v1
    rw [hsh x hx, hsh y hy, hsh _ (A_in o hx hy), hsh _ (M_in o hx hy)]
    cases rdOf false z x <;> cases rdOf false z y <;> cases rdOf false z (A n p x y) <;> cases rdOf false z (A n t x y) <;> cases L n b x y <;> decide +kernel
  have all : findO (m0 n p t b lv1.1 lv1.2.1 lv1.2.2.1 lv1.2.2.2 (shL v n.toNat)) 0 n.toNat = findO (v0 n p t b z) 0 n.toNat :=
    findO_congr _ _ fun x x0 x1 => findO_congr _ _ fun y y0 y1 => key x y ⟨x0, by omega⟩ ⟨y0, by omega⟩
  rw [all, e]
  unfold markV
  by_cases c : rdOf false z 0 = false ∧ rdOf false z 1 = true
  · rw [if_pos c, decide_eq_true c]
    cases hf : findO (v0 n p t b z) 0 n.toNat with
    | none => simp
    | some w =>
      have : w = false := by
        refine findO_false ?_ _ _ _ hf
        intro x w h
        unfold v0 at h
        refine findO_false ?_ _ _ _ h
        intro y w h'
        unfold v1 at h'
        repeat' split at h'
        all_goals first | exact (Option.some.inj h').symm | cases h'
      rw [this]; simp
  · rw [if_neg c, decide_eq_false c]
    split <;> rfl
end
end Go.Proofs.Ytjjkagnbdfofbaa.Pure
end
