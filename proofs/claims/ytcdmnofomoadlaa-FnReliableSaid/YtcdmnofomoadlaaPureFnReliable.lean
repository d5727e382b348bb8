/- FnReliable: the pure statement, with the plain facts ahead of it. -/
import Derived.Test.YtcdmnofomoadlaaM2
import Derived.Test.YtcdmnofomoadlaaM1
import Derived.IntWalk
import Derived.Test.YtcdmnofomoadlaaPf96
import Derived.Test.YtcdmnofomoadlaaM5
import Derived.KernelRfl
import Derived.Test.YtcdmnofomoadlaaM8
import Derived.Test.YtcdmnofomoadlaaPf31
import Derived.Test.YtcdmnofomoadlaaPf39
import Derived.Test.YtcdmnofomoadlaaPf105
import Derived.Test.YtcdmnofomoadlaaPf40
import Derived.Test.YtcdmnofomoadlaaPf8
section
set_option linter.unusedSimpArgs false
set_option linter.unusedVariables false
namespace Go.Proofs.Ytcdmnofomoadlaa.Pure
open Go.RowKit Go.Proofs.Ytcdmnofomoadlaa.P Go.Proofs.YtcdmnofomoadlaaW.PrintWords Go.Proofs.YtcdmnofomoadlaaW.PrintLast
theorem evCongr {α : Type} {g f : Nat → Option α} {r : α} (h : ∀ k, g k = f k) (k : Ev f r) : Ev g r := by
  obtain ⟨K, k⟩ := k
  exact ⟨K, fun n hn => (h n).trans (k n hn)⟩
theorem evRounds {α : Type} {g : Nat → Option α} {r : α} (h : Ev g r) : ∃ k, g k = some r := by
  obtain ⟨K, h⟩ := h
  exact ⟨K, h K (Nat.le_refl _)⟩
/-! ## Loops -/
def findO {α : Type} (g : Int → Option α) : Int → Nat → Option α
  | _, 0 => none
  | x, m + 1 => (g x).or (findO g (x + 1) m)
theorem findO_none {α : Type} {g : Int → Option α} : ∀ (m : Nat) (x : Int), findO g x m = none → ∀ y, x ≤ y → y < x + m → g y = none
  | 0, x, _, y, h1, h2 => by omega
  | m + 1, x, h, y, h1, h2 => by
    have h' : (g x).or (findO g (x + 1) m) = none := h
    rw [Option.or_eq_none_iff] at h'
    by_cases e : y = x
    · rw [e]; exact h'.1
    · exact findO_none m (x + 1) h'.2 y (by omega) (by omega)
theorem findO_congr {α : Type} {g g' : Int → Option α} : ∀ (m : Nat) (x : Int), (∀ y, x ≤ y → y < x + m → g y = g' y) → findO g x m = findO g' x m
  | 0, _, _ => rfl
  | m + 1, x, h => by
    show (g x).or (findO g (x + 1) m) = (g' x).or (findO g' (x + 1) m)
    rw [h x (by omega) (by omega), findO_congr m (x + 1) fun y h1 h2 => h y (by omega) (by omega)]
theorem findO_nil {α : Type} : ∀ (m : Nat) (x : Int), findO (fun _ => (none : Option α)) x m = none
  | 0, _ => rfl
  | m + 1, x => findO_nil m (x + 1)
theorem loop {α : Type} {F : Nat → Int → Option α} {n : Int} {g : Int → Option α} {e : α} (he : Ev (fun k => F k n) e)
    (hs : ∀ x, 0 ≤ x → x < n → ∀ r, Ev (fun k => F k (x + 1)) r → Ev (fun k => F k x) ((g x).getD r)) :
    ∀ (m : Nat) (x : Int), 0 ≤ x → x + m = n → Ev (fun k => F k x) ((findO g x m).getD e)
  | 0, x, _, h => by
    obtain rfl : x = n := by omega
    exact he
  | m + 1, x, h0, h => by
    have ih := loop he hs m (x + 1) (by omega) (by omega)
    have := hs x h0 (by omega) _ ih
    show Ev _ (((g x).or (findO g (x + 1) m)).getD e)
    revert this
    cases g x <;> exact id
theorem loop0 {α : Type} {F : Nat → Int → Option α} {n : Int} {g : Int → Option α} {e : α} (hn : 0 ≤ n) (he : Ev (fun k => F k n) e)
    (hs : ∀ x, 0 ≤ x → x < n → ∀ r, Ev (fun k => F k (x + 1)) r → Ev (fun k => F k x) ((g x).getD r)) : Ev (fun k => F k 0) ((findO g 0 n.toNat).getD e) :=
  loop he hs n.toNat 0 (by omega) (by omega)
theorem loop_hit {α : Type} {F : Nat → Int → Option α} {n : Int} {g : Int → Option α} {v : α}
    (hs : ∀ x, 0 ≤ x → x < n → ∀ r, (g x = none → Ev (fun k => F k (x + 1)) r) → Ev (fun k => F k x) ((g x).getD r)) :
    ∀ (m : Nat) (x : Int), 0 ≤ x → x + m = n → findO g x m = some v → Ev (fun k => F k x) v
  | 0, x, _, _, h => by cases h
  | m + 1, x, h0, h, hf => by
    have hf' : (g x).or (findO g (x + 1) m) = some v := hf
    have := hs x h0 (by omega) v
    cases c : g x with
    | none =>
      rw [c] at hf' this
      exact this fun _ => loop_hit hs m (x + 1) (by omega) (by omega) hf'
    | some u =>
      rw [c] at hf' this
      obtain rfl : u = v := Option.some.inj hf'
      exact this (fun h => by cases h)
theorem w64 {x : Int} (h1 : -9223372036854775808 ≤ x) (h2 : x ≤ 9223372036854775807) : wrap64 x = x := by unfold wrap64; omega
/-! ## Copies and sizes -/
theorem wf_range {x : Int} (h : (Lit.int .i64 x).wf = true) : -9223372036854775808 ≤ x ∧ x ≤ 9223372036854775807 := by
  simp [Lit.wf, IntKind.min, IntKind.max, IntKind.signed, IntKind.bits] at h
  exact h
theorem rd_get {l : List Int} {i : Nat} (h : i < l.length) : rd l (i : Int) = l[i] := by
  unfold rd; rw [Int.toNat_natCast, List.getD_eq_getElem?_getD, List.getElem?_eq_getElem h]; rfl
theorem rdB_get {l : List Bool} {i : Nat} (h : i < l.length) : rdOf false l (i : Int) = l[i] := by
  unfold rdOf; rw [Int.toNat_natCast, List.getD_eq_getElem?_getD, List.getElem?_eq_getElem h]; rfl
def inV (x lo hi : Int) : Bool := decide (x ≥ lo) && decide (x ≤ hi)
theorem in_eq (x lo hi : Int) : spec_l1In.f x lo hi = some (inV x lo hi) := by
  unfold spec_l1In.f inV
  by_cases c : x ≥ lo
  · rw [if_pos c]; simp [c]
  · rw [if_neg c]; simp [c]
theorem within_eq (x lo hi : Int) : impl_within.f x lo hi = some (inV x lo hi) := in_eq x lo hi
abbrev Sy := Int × List Int × List Int × List Bool
theorem evK {α : Type} {g : Nat → Option α} {r : α} (K : Nat) (h : ∀ k, g (k + K) = some r) : Ev g r := ⟨K, fun k hk => by
  obtain ⟨j, rfl⟩ : ∃ j, k = j + K := ⟨k - K, by omega⟩
  exact h j⟩
theorem exE {α β : Type} {g : Nat → Option α} {f : Nat → α → Option β} {a : α} (h : Ev g a) (e : ∃ r, Ev (fun n => f n a) r) : ∃ r, Ev (fun n => (g n).bind (f n)) r := by
  obtain ⟨r, e⟩ := e
  exact ⟨r, Ev.bind h e⟩
theorem at0 (l : List Int) (hl : ∀ z ∈ l, (Lit.int .u8 z).wf = true) (hn : l.length ≤ 1048576) (i : Int) (h0 : 0 ≤ i) (h1 : i ≤ 2) : ∃ u : Int, laws_at0.f l i = some u ∧ 0 ≤ u := by
  unfold laws_at0.f
  by_cases c : i < (l.length : Int)
  · rw [if_pos c, if_pos h0]
    obtain ⟨j, rfl⟩ := Int.eq_ofNat_of_zero_le h0
    have hj : j < l.length := by omega
    rw [rd_get hj]
    have := hl _ (List.getElem_mem hj)
    simp [Lit.wf, IntKind.min, IntKind.max, IntKind.signed, IntKind.bits] at this
    exact ⟨_, rfl, by rw [w64 (by omega) (by omega)]; exact this.1⟩
  · rw [if_neg c, w64 (x := i * 7) (by omega) (by omega), w64 (by omega) (by omega)]
    exact ⟨_, rfl, Int.tmod_nonneg 256 (by omega)⟩
theorem and255 (a : Int) : 0 ≤ Go.bits .and .i64 a 255 ∧ Go.bits .and .i64 a 255 ≤ 255 := by
  have h : ∃ n : Nat, n ≤ 255 ∧ Go.bits .and .i64 a 255 = IntKind.i64.wrap (n : Int) := by
    refine ⟨(BitVec.ofInt IntKind.i64.bits a &&& BitVec.ofInt IntKind.i64.bits 255).toNat, ?_, rfl⟩
    rw [BitVec.toNat_and]
    exact Nat.le_trans Nat.and_le_right (by decide)
  obtain ⟨n, hn, e⟩ := h
  rw [e, IntKind.wrap_i64]
  omega
section
variable {c : List Int} (hc : c.length ≤ 1048576)
include hc
theorem byteE (i h : Int) (h0 : 0 ≤ i) : ∃ x i' h', spec_l1Byte.f c i h = some (x, i', h') ∧ 0 ≤ x ∧ x ≤ 255 ∧ 0 ≤ i' := by
  unfold spec_l1Byte.f
  by_cases q : i < (c.length : Int)
  · rw [if_pos q, if_pos h0]
    exact ⟨_, _, _, rfl, (and255 _).1, (and255 _).2, by rw [w64 (by omega) (by omega)]; omega⟩
  · rw [if_neg q]
    exact ⟨_, _, _, rfl, (and255 _).1, (and255 _).2, h0⟩
theorem belowE (i h n : Int) (h0 : 0 ≤ i) (hn : n ≤ 256) : ∃ x i' h', spec_l1Below.f c i h n = some (x, i', h') ∧ 0 ≤ x ∧ (0 < n → x < n) ∧ 0 ≤ i' := by
  unfold spec_l1Below.f
  by_cases q : n ≤ 0
  · rw [if_pos q]; exact ⟨_, _, _, rfl, by omega, by omega, h0⟩
  · obtain ⟨x, i', h', e, x0, x1, hi⟩ := byteE hc i h h0
    rw [if_neg q, if_pos hn, e, Option.bind_some, if_neg (by omega)]
    exact ⟨_, _, _, rfl, Int.tmod_nonneg n x0, fun hp => Int.tmod_lt_of_pos x hp, hi⟩
/-- A system that may be bent. -/
def gd (s : Sy) : Bool := decide (0 ≤ s.1 ∧ s.1 ≤ 255 ∧ 0 < s.2.1.length ∧ s.2.1.length ≤ 256 ∧ 0 < s.2.2.1.length ∧ s.2.2.1.length ≤ 256 ∧ 0 < s.2.2.2.length ∧ s.2.2.2.length ≤ 256)
def sC (n : Nat) : Sy := (spec_CountSystem.f 64 (n : Int)).getD (0, [], [], [])
def sB (n : Nat) : Sy := (spec_BoundSystem.f 64 (n : Int)).getD (0, [], [], [])
def sL (n : Nat) : Sy := (spec_LevelSystem.f 64 (n : Int)).getD (0, [], [], [])
def sP (n : Nat) : Sy × Bool := ((spec_ProductSystem.f 400 (sC 1).1 (sC 1).2.1 (sC 1).2.2.1 (sC 1).2.2.2 (sL n).1 (sL n).2.1 (sL n).2.2.1 (sL n).2.2.2).map fun r => ((r.1, r.2.1, r.2.2.1, r.2.2.2.1), r.2.2.2.2)).getD ((0, [], [], []), false)
omit hc in
theorem three {P : Nat → Prop} (h1 : P 1) (h2 : P 2) (h3 : P 3) (n : Int) (h0 : 1 ≤ n) (hn : n ≤ 3) : ∃ m : Nat, n = m ∧ P m := by
  have : n = 1 ∨ n = 2 ∨ n = 3 := by omega
  rcases this with rfl | rfl | rfl
  · exact ⟨1, rfl, h1⟩
  · exact ⟨2, rfl, h2⟩
  · exact ⟨3, rfl, h3⟩
omit hc in
theorem countE (n : Int) (h0 : 1 ≤ n) (hn : n ≤ 3) : ∃ m : Nat, n = m ∧ (Ev (fun k => spec_CountSystem.f k (m : Int)) (sC m) ∧ gd (sC m) = true) :=
  three ⟨evK 64 fun k => by kernel_rfl, by decide +kernel⟩ ⟨evK 64 fun k => by kernel_rfl, by decide +kernel⟩ ⟨evK 64 fun k => by kernel_rfl, by decide +kernel⟩ n h0 hn
omit hc in
theorem boundE (n : Int) (h0 : 1 ≤ n) (hn : n ≤ 3) : ∃ m : Nat, n = m ∧ (Ev (fun k => spec_BoundSystem.f k (m : Int)) (sB m) ∧ gd (sB m) = true) :=
  three ⟨evK 64 fun k => by kernel_rfl, by decide +kernel⟩ ⟨evK 64 fun k => by kernel_rfl, by decide +kernel⟩ ⟨evK 64 fun k => by kernel_rfl, by decide +kernel⟩ n h0 hn
omit hc in
theorem levelE (n : Int) (h0 : 1 ≤ n) (hn : n ≤ 3) : ∃ m : Nat, n = m ∧ (Ev (fun k => spec_LevelSystem.f k (m : Int)) (sL m) ∧ gd (sL m) = true) :=
  three ⟨evK 64 fun k => by kernel_rfl, by decide +kernel⟩ ⟨evK 64 fun k => by kernel_rfl, by decide +kernel⟩ ⟨evK 64 fun k => by kernel_rfl, by decide +kernel⟩ n h0 hn
omit hc in
theorem productE (n : Int) (h0 : 1 ≤ n) (hn : n ≤ 3) : ∃ m : Nat, n = m ∧ (Ev (fun k => spec_ProductSystem.f k (sC 1).1 (sC 1).2.1 (sC 1).2.2.1 (sC 1).2.2.2 (sL m).1 (sL m).2.1 (sL m).2.2.1 (sL m).2.2.2) ((sP m).1.1, (sP m).1.2.1, (sP m).1.2.2.1, (sP m).1.2.2.2, (sP m).2) ∧ gd (sP m).1 = true) :=
  three ⟨evK 400 fun k => by kernel_rfl, by decide +kernel⟩ ⟨evK 400 fun k => by kernel_rfl, by decide +kernel⟩ ⟨evK 400 fun k => by kernel_rfl, by decide +kernel⟩ n h0 hn
abbrev S6 := Int × List Int × List Int × List Bool × Int × Int
def Fine6 (r : S6) : Prop := gd (r.1, r.2.1, r.2.2.1, r.2.2.2.1) = true ∧ 0 ≤ r.2.2.2.2.1
theorem j1E (n y : Int) (f : Bool) (i h : Int) (s : Sy) (h1 : 1 ≤ n) (h3 : n ≤ 3) (h0 : 0 ≤ i) (hs : gd s = true) : ∃ r, Ev (fun k => spec_dSystem.j1 k n y f c i h s.1 s.2.1 s.2.2.1 s.2.2.2) r ∧ Fine6 r := by
  cases f
  · by_cases hy : y = 5
    · obtain ⟨m1, e1, ec, _⟩ := countE 1 (by omega) (by omega)
      obtain rfl : m1 = 1 := by omega
      obtain ⟨x, i', h', ex, x0, x1, hi⟩ := belowE hc i h 2 h0 (by omega)
      have x2 := x1 (by omega)
      obtain ⟨m, em, el, _⟩ := levelE (1 + x) (by omega) (by omega)
      have ew : wrap64 (1 + x) = (m : Int) := by rw [w64 (by omega) (by omega)]; exact em
      obtain ⟨m', em', ep, gp⟩ := productE (1 + x) (by omega) (by omega)
      obtain rfl : m = m' := by omega
      refine ⟨((sP m).1.1, (sP m).1.2.1, (sP m).1.2.2.1, (sP m).1.2.2.2, i', h'), Ev.step (fun k => by simp only [spec_dSystem.j1, Bool.false_eq_true, if_false]; rw [if_pos hy]) ?_, gp, hi⟩
      refine Ev.bind ec ?_
      simp only [ex, Option.bind_some, ew]
      refine Ev.bind el ?_
      exact Ev.bind ep (Ev.now _)
    · exact ⟨(s.1, s.2.1, s.2.2.1, s.2.2.2, i, h), Ev.step (f := fun _ => some (s.1, s.2.1, s.2.2.1, s.2.2.2, i, h)) (fun k => by simp only [spec_dSystem.j1, Bool.false_eq_true, if_false]; rw [if_neg hy]) (Ev.now _), hs, h0⟩
  · obtain ⟨m, em, el, gl⟩ := levelE n h1 h3
    refine ⟨((sL m).1, (sL m).2.1, (sL m).2.2.1, (sL m).2.2.2, i, h), Ev.step (fun k => by simp only [spec_dSystem.j1, if_true]; rfl) ?_, gl, h0⟩
    rw [em]
    exact Ev.bind el (Ev.now _)
theorem j0E (n y : Int) (f : Bool) (i h : Int) (s : Sy) (h1 : 1 ≤ n) (h3 : n ≤ 3) (h0 : 0 ≤ i) (hs : gd s = true) : ∃ r, Ev (fun k => spec_dSystem.j0 k n y f c i h s.1 s.2.1 s.2.2.1 s.2.2.2) r ∧ Fine6 r := by
  cases f
  · by_cases hy : y = 3
    · obtain ⟨r, er, fr⟩ := j1E hc n y (y == 3) i h s h1 h3 h0 hs
      exact ⟨r, Ev.step (fun k => by simp only [spec_dSystem.j0, Bool.false_eq_true, if_false]; rw [if_pos hy]) er, fr⟩
    · obtain ⟨r, er, fr⟩ := j1E hc n y (y == 4) i h s h1 h3 h0 hs
      exact ⟨r, Ev.step (fun k => by simp only [spec_dSystem.j0, Bool.false_eq_true, if_false]; rw [if_neg hy]) er, fr⟩
  · obtain ⟨m, em, el, gl⟩ := countE n h1 h3
    refine ⟨((sC m).1, (sC m).2.1, (sC m).2.2.1, (sC m).2.2.2, i, h), Ev.step (fun k => by simp only [spec_dSystem.j0, if_true]; rfl) ?_, gl, h0⟩
    rw [em]
    exact Ev.bind el (Ev.now _)
theorem dSystemE (i h : Int) (h0 : 0 ≤ i) : ∃ r, Ev (fun k => spec_dSystem.f k c i h) r ∧ Fine6 r := by
  obtain ⟨x, i1, h1, e1, x0, x1, hi1⟩ := belowE hc i h 3 h0 (by omega)
  have x2 := x1 (by omega)
  obtain ⟨m, em, eb, gb⟩ := boundE (1 + x) (by omega) (by omega)
  have ew : wrap64 (1 + x) = (m : Int) := by rw [w64 (by omega) (by omega)]; exact em
  obtain ⟨y, i2, h2, e2, _, _, hi2⟩ := belowE hc i1 h1 8 hi1 (by omega)
  have fin : ∀ f, ∃ r, Ev (fun k => spec_dSystem.j0 k (m : Int) y f c i2 h2 (sB m).1 (sB m).2.1 (sB m).2.2.1 (sB m).2.2.2) r ∧ Fine6 r := fun f => j0E hc (m : Int) y f i2 h2 (sB m) (by omega) (by omega) hi2 gb
  unfold spec_dSystem.f
  simp only [e1, Option.bind_some, ew]
  by_cases y0 : y = 0
  · obtain ⟨r, er, fr⟩ := fin (y == 0)
    refine ⟨r, Ev.bind eb ?_, fr⟩
    simp only [e2, Option.bind_some, if_pos y0]; exact er
  · by_cases y1 : y = 1
    · obtain ⟨r, er, fr⟩ := fin (y == 1)
      refine ⟨r, Ev.bind eb ?_, fr⟩
      simp only [e2, Option.bind_some, if_neg y0, if_pos y1]; exact er
    · obtain ⟨r, er, fr⟩ := fin (y == 2)
      refine ⟨r, Ev.bind eb ?_, fr⟩
      simp only [e2, Option.bind_some, if_neg y0, if_neg y1]; exact er
theorem bentE (i h : Int) (h0 : 0 ≤ i) : ∃ r, spec_dBent.f c i h = some r := by
  obtain ⟨x, i', h', ex, x0, x1, _⟩ := belowE hc i h 13 h0 (by omega)
  have x2 := x1 (by omega)
  unfold spec_dBent.f spec_l1PickInt.f
  refine ⟨(rd [(-1), 0, 1, 2, 3, 7, 8, 15, 16, 17, 40, 9223372036854775807, (-9223372036854775808)] x, i', h'), ?_⟩
  rw [show (([(-1), 0, 1, 2, 3, 7, 8, 15, 16, 17, 40, 9223372036854775807, (-9223372036854775808)] : List Int).length : Int) = 13 from rfl, ex, Option.bind_some, if_pos x0, if_pos x2, Option.bind_some]
theorem dAnyE (i h : Int) (h0 : 0 ≤ i) : ∃ r, Ev (fun k => spec_dAnySystem.f k c i h) r := by
  obtain ⟨⟨n, p, t, b, i1, h1⟩, er, g, hi1⟩ := dSystemE hc i h h0
  unfold gd at g
  simp only [decide_eq_true_eq] at g
  simp only at hi1
  obtain ⟨g1, g2, g3, g4, g5, g6, g7, g8⟩ := g
  obtain ⟨y, i2, h2, e2, _, _, hi2⟩ := belowE hc i1 h1 9 hi1 (by omega)
  unfold spec_dAnySystem.f
  by_cases y0 : y = 0
  · obtain ⟨x, i3, h3, e3, x0, x1, hi3⟩ := belowE hc i2 h2 (p.length : Int) hi2 (by omega)
    have x2 := x1 (by omega)
    obtain ⟨z, i4, h4, e4, _⟩ := belowE hc i3 h3 (wrap64 (n + 1)) hi3 (by rw [w64 (by omega) (by omega)]; omega)
    refine exE er ?_
    simp only [e2, e3, e4, Option.bind_some, if_pos y0, if_pos x0, if_pos x2]
    exact ⟨_, Ev.now _⟩
  · by_cases y1 : y = 1
    · obtain ⟨x, i3, h3, e3, x0, x1, hi3⟩ := belowE hc i2 h2 (t.length : Int) hi2 (by omega)
      have x2 := x1 (by omega)
      obtain ⟨z, i4, h4, e4, _⟩ := belowE hc i3 h3 n hi3 (by omega)
      refine exE er ?_
      simp only [e2, e3, e4, Option.bind_some, if_neg y0, if_pos y1, if_pos x0, if_pos x2]
      exact ⟨_, Ev.now _⟩
    · by_cases y2 : y = 2
      · obtain ⟨x, i3, h3, e3, x0, x1, hi3⟩ := belowE hc i2 h2 (b.length : Int) hi2 (by omega)
        have x2 := x1 (by omega)
        refine exE er ?_
        simp only [e2, e3, Option.bind_some, if_neg y0, if_neg y1, if_pos y2, if_pos x0, if_pos x2]
        exact ⟨_, Ev.now _⟩
      · by_cases y3 : y = 3
        · obtain ⟨r, hr⟩ := bentE hc i2 h2 hi2
          refine exE er ?_
          simp only [e2, hr, Option.bind_some, if_neg y0, if_neg y1, if_neg y2, if_pos y3]
          exact ⟨_, Ev.now _⟩
        · refine exE er ?_
          simp only [e2, Option.bind_some, if_neg y0, if_neg y1, if_neg y2, if_neg y3]
          exact ⟨_, Ev.now _⟩
omit hc in
theorem newE : ∃ h, Ev (fun k => spec_l1New.f k c) (c, 0, h) := by
  have lp : ∀ (m : Nat) (i h : Int), 0 ≤ i → i + m = (c.length : Int) → ∃ h', Ev (fun k => spec_l1New.l0 k c h i) (c, 0, h') := by
    intro m
    induction m with
    | zero =>
      intro i h h0 hi
      refine ⟨h, Ev.step (f := fun _ => some (c, 0, h)) (fun k => ?_) (Ev.now _)⟩
      simp only [spec_l1New.l0]; rw [if_neg (by omega)]
    | succ m ih =>
      intro i h h0 hi
      by_cases q : i < 4000
      · obtain ⟨h', e⟩ := ih (i + 1) (Go.bits .and .i64 (wrap64 ((wrap64 ((wrap64 (h * 151)) + (wrap64 (rd c i)))) + 7)) 1073741823) (by omega) (by omega)
        refine ⟨h', Ev.step (fun k => ?_) e⟩
        simp only [spec_l1New.l0]; rw [if_pos (by omega), if_pos q, if_pos h0, w64 (x := i + 1) (by omega) (by omega)]
      · refine ⟨h, Ev.step (f := fun _ => some (c, 0, h)) (fun k => ?_) (Ev.now _)⟩
        simp only [spec_l1New.l0]; rw [if_pos (by omega), if_neg q]
  unfold spec_l1New.f
  exact lp c.length 0 _ (by omega) (by omega)
theorem onceE (i h n : Int) (h0 : 0 ≤ i) (hn : n ≤ 256) : ∃ x i' h', spec_l1Once.f c i h n = some (x, i', h') ∧ 0 ≤ i' := by
  obtain ⟨x, i', h', e, _, _, hi⟩ := belowE hc i h n h0 hn
  exact ⟨_, _, _, by unfold spec_l1Once.f; rw [e, Option.bind_some], hi⟩
end
/-! ## Tables -/
def Rg (n x : Int) : Prop := 0 ≤ x ∧ x < n
structure OK (n : Int) (p t : List Int) (b : List Bool) : Prop where
  lo : 2 ≤ n
  hi : n ≤ 16
  lp : (p.length : Int) = n * n
  lt : (t.length : Int) = n * n
  lb : (b.length : Int) = n * n
  rp : ∀ i, 0 ≤ i → i < n * n → Rg n (rd p i)
  rt : ∀ i, 0 ≤ i → i < n * n → Rg n (rd t i)
def A (n : Int) (p : List Int) (x y : Int) : Int := rd p (x * n + y)
def L (n : Int) (b : List Bool) (x y : Int) : Bool := rdOf false b (x * n + y)
section
variable {n : Int} {p t : List Int} {b : List Bool}
theorem at_range (h : OK n p t b) {x y : Int} (hx : Rg n x) (hy : Rg n y) : wrap64 (wrap64 (x * n) + y) = x * n + y ∧ 0 ≤ x * n + y ∧ x * n + y < n * n := by
  have h1 : 0 ≤ x * n := Int.mul_nonneg hx.1 (by have := h.lo; omega)
  have h2 : (x + 1) * n ≤ n * n := Int.mul_le_mul_of_nonneg_right (by have := hx.2; omega) (by have := h.lo; omega)
  have h3 : n * n ≤ 16 * 16 := Int.mul_le_mul h.hi h.hi (by have := h.lo; omega) (by decide)
  rw [Int.add_mul] at h2
  have := hy.1; have := hy.2
  have e : x * n ≤ 4611686018427387904 := by omega
  rw [w64 (x := x * n) (by omega) (by omega), w64 (by omega) (by omega)]
  exact ⟨rfl, by omega, by omega⟩
theorem A_in (h : OK n p t b) {x y : Int} (hx : Rg n x) (hy : Rg n y) : Rg n (A n p x y) := by
  obtain ⟨_, h1, h2⟩ := at_range h hx hy
  exact h.rp _ h1 h2
theorem M_in (h : OK n p t b) {x y : Int} (hx : Rg n x) (hy : Rg n y) : Rg n (A n t x y) := by
  obtain ⟨_, h1, h2⟩ := at_range h hx hy
  exact h.rt _ h1 h2
theorem add_eq (h : OK n p t b) {x y : Int} (hx : Rg n x) (hy : Rg n y) : spec_l1Add.f n p t b x y = some (A n p x y) := by
  obtain ⟨e, h1, h2⟩ := at_range h hx hy
  unfold spec_l1Add.f
  rw [e, if_pos h1, if_pos (by rw [h.lp]; exact h2)]; rfl
theorem mul_eq (h : OK n p t b) {x y : Int} (hx : Rg n x) (hy : Rg n y) : spec_l1Mul.f n p t b x y = some (A n t x y) := by
  obtain ⟨e, h1, h2⟩ := at_range h hx hy
  unfold spec_l1Mul.f
  rw [e, if_pos h1, if_pos (by rw [h.lt]; exact h2)]; rfl
theorem le_eq (h : OK n p t b) {x y : Int} (hx : Rg n x) (hy : Rg n y) : spec_l1Le.f n p t b x y = some (L n b x y) := by
  obtain ⟨e, h1, h2⟩ := at_range h hx hy
  unfold spec_l1Le.f
  rw [e, if_pos h1, if_pos (by rw [h.lb]; exact h2)]; rfl
theorem plus_is : impl_System_plus.f = spec_l1Add.f := rfl
theorem times_is : impl_System_times.f = spec_l1Mul.f := rfl
theorem below_is : impl_System_below.f = spec_l1Le.f := rfl
theorem has_eq (x : Int) : impl_System_has.f n p t b x = some (inV x 0 (wrap64 (n - 1))) := by
  unfold impl_System_has.f; rw [within_eq]; rfl
theorem Rg_zero (h : OK n p t b) : Rg n 0 := ⟨by omega, by have := h.lo; omega⟩
theorem Rg_one (h : OK n p t b) : Rg n 1 := ⟨by omega, by have := h.lo; omega⟩
theorem inV_Rg (h : OK n p t b) {x : Int} : inV x 0 (wrap64 (n - 1)) = true ↔ Rg n x := by
  have := h.lo; have := h.hi
  unfold inV Rg
  rw [w64 (by omega) (by omega), Bool.and_eq_true, decide_eq_true_eq, decide_eq_true_eq]
  omega
/-! ## Joins -/
def jAll (n : Int) (b : List Bool) (x y z : Int) : Int → Nat → Bool
  | _, 0 => true
  | w, m + 1 => (!(L n b x w && L n b y w) || L n b z w) && jAll n b x y z (w + 1) m
def jg (n : Int) (b : List Bool) (x y z : Int) : Option Int := if (L n b x z && L n b y z && jAll n b x y z 0 n.toNat) = true then some z else none
def joinV (n : Int) (b : List Bool) (x y : Int) : Int := (findO (jg n b x y) 0 n.toNat).getD (-1)
theorem specJoin_in (h : OK n p t b) {x y z : Int} (hx : Rg n x) (hy : Rg n y) (hz : Rg n z) {r : Int} (hr : Ev (fun k => spec_l1Join.l0 k x y (z + 1) n p t b) r) :
    ∀ (m : Nat) (w : Int) (ok : Bool), 0 ≤ w → w + m = n → Ev (fun k => spec_l1Join.l1 k x y z ok w n p t b) (if (ok && jAll n b x y z w m) = true then z else r)
  | 0, w, ok, h0, hw => by
    refine Ev.step (f := fun k => spec_l1Join.j3 k x y z ok w false n p t b) (fun k => ?_) (Ev.step (f := fun k => if ok = true then some z else spec_l1Join.l0 k x y (z + 1) n p t b) (fun k => ?_) ?_)
    · simp only [spec_l1Join.l1]; rw [if_neg (by omega)]
    · simp only [spec_l1Join.j3]; rw [if_neg (by decide), w64 (by have := hz.1; omega) (by have := hz.2; have := h.hi; omega)]
    · cases ok
      · simpa [jAll] using hr
      · simpa [jAll] using Ev.now z
  | m + 1, w, ok, h0, hw => by
    have hw' : Rg n w := ⟨h0, by omega⟩
    have e1 : wrap64 (w + 1) = w + 1 := w64 (by omega) (by have := h.hi; omega)
    have e2 : wrap64 (z + 1) = z + 1 := w64 (by have := hz.1; omega) (by have := hz.2; have := h.hi; omega)
    have ih := specJoin_in h hx hy hz hr m (w + 1)
    cases ok
    · refine Ev.step (f := fun k => spec_l1Join.j3 k x y z false w false n p t b) (fun k => ?_) (Ev.step (f := fun k => spec_l1Join.l0 k x y (z + 1) n p t b) (fun k => ?_) ?_)
      · simp only [spec_l1Join.l1]; rw [if_pos (by omega)]
      · simp only [spec_l1Join.j3]; rw [if_neg (by decide), if_neg (by decide), e2]
      · simpa using hr
    · refine Ev.step (f := fun k => spec_l1Join.j3 k x y z true w true n p t b) (fun k => ?_) (Ev.step (f := fun k => spec_l1Join.l1 k x y z (!(L n b x w && L n b y w) || L n b z w) (w + 1) n p t b) (fun k => ?_) ?_)
      · simp only [spec_l1Join.l1]; rw [if_pos (by omega)]
      · simp only [spec_l1Join.j3, le_eq h hx hw', le_eq h hy hw', le_eq h hz hw', Option.bind_some, e1, if_true]
        cases L n b x w <;> cases L n b y w <;> simp
      · have := ih (!(L n b x w && L n b y w) || L n b z w) (by omega) (by omega)
        simpa [jAll] using this
theorem specJoin (h : OK n p t b) {x y : Int} (hx : Rg n x) (hy : Rg n y) : Ev (fun k => spec_l1Join.f k n p t b x y) (joinV n b x y) := by
  unfold spec_l1Join.f
  refine loop0 (F := fun k z => spec_l1Join.l0 k x y z n p t b) (by have := h.lo; omega) ?_ ?_
  · refine Ev.step (f := fun _ => some (-1)) (fun k => ?_) (Ev.now _)
    simp only [spec_l1Join.l0]; rw [if_neg (by omega)]
  · intro z h0 h1 r hr
    have hz : Rg n z := ⟨h0, h1⟩
    have := specJoin_in h hx hy hz hr n.toNat 0 (L n b x z && L n b y z) (by omega) (by omega)
    refine Ev.step (f := fun k => spec_l1Join.j1 k x y z (L n b x z && L n b y z) n p t b) (fun k => ?_) (Ev.step (f := fun k => spec_l1Join.l1 k x y z (L n b x z && L n b y z) 0 n p t b) (fun k => ?_) ?_)
    · simp only [spec_l1Join.l0, le_eq h hx hz, le_eq h hy hz, Option.bind_some]
      rw [if_pos h1]
      cases L n b x z <;> simp
    · simp only [spec_l1Join.j1]
    · unfold jg
      revert this
      cases (L n b x z && L n b y z && jAll n b x y z 0 n.toNat) <;> simp
theorem implJoin_in (h : OK n p t b) {x y z : Int} (hx : Rg n x) (hy : Rg n y) (hz : Rg n z) {r : Int} (hr : Ev (fun k => impl_System_join.l0 k x y (z + 1) n p t b) r) :
    ∀ (m : Nat) (w : Int) (ok : Bool), 0 ≤ w → w + m = n → Ev (fun k => impl_System_join.l1 k x y z ok w n p t b) (if (ok && jAll n b x y z w m) = true then z else r)
  | 0, w, ok, h0, hw => by
    refine Ev.step (f := fun k => if ok = true then some z else impl_System_join.l0 k x y (z + 1) n p t b) (fun k => ?_) ?_
    · simp only [impl_System_join.l1]; rw [if_neg (by omega), w64 (by have := hz.1; omega) (by have := hz.2; have := h.hi; omega)]
    · cases ok
      · simpa [jAll] using hr
      · simpa [jAll] using Ev.now z
  | m + 1, w, ok, h0, hw => by
    have hw' : Rg n w := ⟨h0, by omega⟩
    have e1 : wrap64 (w + 1) = w + 1 := w64 (by omega) (by have := h.hi; omega)
    have ih := implJoin_in h hx hy hz hr m (w + 1)
    cases ok
    · refine Ev.step (f := fun k => impl_System_join.l1 k x y z false (w + 1) n p t b) (fun k => ?_) ?_
      · simp only [impl_System_join.l1]; rw [if_pos (by omega), if_neg (by decide), e1]
      · simpa using ih false (by omega) (by omega)
    · refine Ev.step (f := fun k => impl_System_join.l1 k x y z (!(L n b x w && L n b y w) || L n b z w) (w + 1) n p t b) (fun k => ?_) ?_
      · simp only [impl_System_join.l1, below_is, le_eq h hx hw', le_eq h hy hw', le_eq h hz hw', Option.bind_some, e1, if_true]
        rw [if_pos (by omega)]
        cases L n b x w <;> cases L n b y w <;> simp
      · have := ih (!(L n b x w && L n b y w) || L n b z w) (by omega) (by omega)
        simpa [jAll] using this
theorem implJoin (h : OK n p t b) {x y : Int} (hx : Rg n x) (hy : Rg n y) : Ev (fun k => impl_System_join.f k n p t b x y) (joinV n b x y) := by
  unfold impl_System_join.f
  refine loop0 (F := fun k z => impl_System_join.l0 k x y z n p t b) (by have := h.lo; omega) ?_ ?_
  · refine Ev.step (f := fun _ => some (-1)) (fun k => ?_) (Ev.now _)
    simp only [impl_System_join.l0]; rw [if_neg (by omega)]
  · intro z h0 h1 r hr
    have hz : Rg n z := ⟨h0, h1⟩
    have e2 : wrap64 (z + 1) = z + 1 := w64 (by omega) (by have := h.hi; omega)
    have := implJoin_in h hx hy hz hr n.toNat 0 true (by omega) (by omega)
    refine Ev.step (f := fun k => impl_System_join.j1 k x y z (!(L n b x z && L n b y z)) n p t b) (fun k => ?_) (Ev.step (f := fun k => if (L n b x z && L n b y z) = true then impl_System_join.l1 k x y z true 0 n p t b else impl_System_join.l0 k x y (z + 1) n p t b) (fun k => ?_) ?_)
    · simp only [impl_System_join.l0, below_is, le_eq h hx hz, le_eq h hy hz, Option.bind_some]
      rw [if_pos h1]
      cases L n b x z <;> simp
    · simp only [impl_System_join.j1, e2]
      cases (L n b x z && L n b y z) <;> simp
    · unfold jg
      revert this
      cases (L n b x z && L n b y z)
      · simp; exact fun _ => hr
      · cases (jAll n b x y z 0 n.toNat) <;> simp
/-! ## Systems -/
def oneV (n : Int) (p t : List Int) (b : List Bool) (x : Int) : Bool :=
  decide (A n p 0 x = x) && decide (A n t 1 x = x) && decide (A n t x 1 = x) && decide (A n t 0 x = 0) && decide (A n t x 0 = 0) && L n b x x
def twoV (n : Int) (p : List Int) (b : List Bool) (x y : Int) : Bool :=
  decide (A n p x y = A n p y x) && !(decide (x ≠ y) && L n b x y && L n b y x) && decide (joinV n b x y ≥ 0)
def threeV (n : Int) (p t : List Int) (b : List Bool) (x y z : Int) : Bool :=
  decide (A n p (A n p x y) z = A n p x (A n p y z)) && decide (A n t (A n t x y) z = A n t x (A n t y z)) &&
  decide (A n t x (A n p y z) = A n p (A n t x y) (A n t x z)) && decide (A n t (A n p x y) z = A n p (A n t x z) (A n t y z)) &&
  (!L n b x y || ((!L n b y z || L n b x z) && L n b (A n p x z) (A n p y z) && L n b (A n t x z) (A n t y z) && L n b (A n t z x) (A n t z y)))
theorem specOne (h : OK n p t b) {x : Int} (hx : Rg n x) : spec_l1One.f n p t b x = some (oneV n p t b x) := by
  have h0 := Rg_zero h
  have h1 := Rg_one h
  unfold spec_l1One.f oneV
  simp only [add_eq h h0 hx, mul_eq h h1 hx, mul_eq h hx h1, mul_eq h h0 hx, mul_eq h hx h0, le_eq h hx hx, Option.bind_some]
  repeat' split
  all_goals simp_all
theorem specTwo (h : OK n p t b) {x y : Int} (hx : Rg n x) (hy : Rg n y) : Ev (fun k => spec_l1Two.f k n p t b x y) (twoV n p b x y) := by
  obtain ⟨K, hj⟩ := specJoin h hx hy
  refine ⟨K, fun k hk => ?_⟩
  unfold spec_l1Two.f twoV
  simp only [add_eq h hx hy, add_eq h hy hx, le_eq h hx hy, le_eq h hy hx, hj k hk, Option.bind_some]
  repeat' split
  all_goals simp_all
theorem specThree (h : OK n p t b) {x y z : Int} (hx : Rg n x) (hy : Rg n y) (hz : Rg n z) : Ev (fun k => spec_l1Three.f k n p t b x y z) (threeV n p t b x y z) := by
  refine ⟨3, fun k hk => ?_⟩
  obtain ⟨k, rfl⟩ : ∃ m, k = m + 3 := ⟨k - 3, by omega⟩
  have a1 := A_in h hx hy
  have a2 := A_in h hy hz
  have a3 := A_in h hx hz
  have m1 := M_in h hx hy
  have m2 := M_in h hy hz
  have m3 := M_in h hx hz
  have m4 := M_in h hz hx
  have m5 := M_in h hz hy
  unfold spec_l1Three.f threeV
  simp only [spec_l1Three.j0, spec_l1Three.j1, spec_l1Three.j2, add_eq h hx hy, add_eq h hy hz, add_eq h hx hz, mul_eq h hx hy, mul_eq h hy hz, mul_eq h hx hz, mul_eq h hz hx, mul_eq h hz hy,
    add_eq h a1 hz, add_eq h hx a2, mul_eq h m1 hz, mul_eq h hx m2, mul_eq h hx a2, add_eq h m1 m3, mul_eq h a1 hz, add_eq h m3 m2, le_eq h hx hy, le_eq h hy hz, le_eq h hx hz, le_eq h a3 a2, le_eq h m3 m2, le_eq h m4 m5, Option.bind_some]
  generalize L n b x y = q1
  generalize L n b y z = q2
  generalize L n b x z = q3
  generalize L n b (A n p x z) (A n p y z) = q4
  generalize L n b (A n t x z) (A n t y z) = q5
  generalize L n b (A n t z x) (A n t z y) = q6
  by_cases c1 : A n p (A n p x y) z = A n p x (A n p y z)
  · by_cases c2 : A n t (A n t x y) z = A n t x (A n t y z)
    · by_cases c3 : A n t x (A n p y z) = A n p (A n t x y) (A n t x z)
      · by_cases c4 : A n t (A n p x y) z = A n p (A n t x z) (A n t y z)
        · simp only [c1, c2, c3, c4]
          cases q1 <;> cases q2 <;> cases q3 <;> cases q4 <;> cases q5 <;> cases q6 <;> simp
        · simp [c1, c2, c3, c4]
      · simp [c1, c2, c3]
    · simp [c1, c2]
  · simp [c1]
theorem implThree (h : OK n p t b) {x y z : Int} (hx : Rg n x) (hy : Rg n y) (hz : Rg n z) : Ev (fun k => impl_System_lawsOf.f k n p t b x y z) (threeV n p t b x y z) := by
  refine ⟨3, fun k hk => ?_⟩
  obtain ⟨k, rfl⟩ : ∃ m, k = m + 3 := ⟨k - 3, by omega⟩
  have a1 := A_in h hx hy
  have a2 := A_in h hy hz
  have a3 := A_in h hx hz
  have m1 := M_in h hx hy
  have m2 := M_in h hy hz
  have m3 := M_in h hx hz
  have m4 := M_in h hz hx
  have m5 := M_in h hz hy
  unfold impl_System_lawsOf.f threeV
  simp only [impl_System_lawsOf.j0, impl_System_lawsOf.j1, impl_System_lawsOf.j2, plus_is, times_is, below_is, add_eq h hx hy, add_eq h hy hz, add_eq h hx hz, mul_eq h hx hy, mul_eq h hy hz, mul_eq h hx hz, mul_eq h hz hx, mul_eq h hz hy,
    add_eq h a1 hz, add_eq h hx a2, mul_eq h m1 hz, mul_eq h hx m2, mul_eq h hx a2, add_eq h m1 m3, mul_eq h a1 hz, add_eq h m3 m2, le_eq h hx hy, le_eq h hy hz, le_eq h hx hz, le_eq h a3 a2, le_eq h m3 m2, le_eq h m4 m5, Option.bind_some]
  generalize L n b x y = q1
  generalize L n b y z = q2
  generalize L n b x z = q3
  generalize L n b (A n p x z) (A n p y z) = q4
  generalize L n b (A n t x z) (A n t y z) = q5
  generalize L n b (A n t z x) (A n t z y) = q6
  by_cases c1 : A n p (A n p x y) z = A n p x (A n p y z)
  · by_cases c2 : A n t (A n t x y) z = A n t x (A n t y z)
    · by_cases c3 : A n t x (A n p y z) = A n p (A n t x y) (A n t x z)
      · by_cases c4 : A n t (A n p x y) z = A n p (A n t x z) (A n t y z)
        · simp only [c1, c2, c3, c4]
          cases q1 <;> cases q2 <;> cases q3 <;> cases q4 <;> cases q5 <;> cases q6 <;> simp
        · simp [c1, c2, c3, c4]
      · simp [c1, c2, c3]
    · simp [c1, c2]
  · simp [c1]
/-- What the laws of a system find: none, if all hold. -/
def g2 (n : Int) (p t : List Int) (b : List Bool) (x y z : Int) : Option Bool := if threeV n p t b x y z = true then none else some false
def g1 (n : Int) (p t : List Int) (b : List Bool) (x y : Int) : Option Bool := if twoV n p b x y = true then findO (g2 n p t b x y) 0 n.toNat else some false
def g0 (n : Int) (p t : List Int) (b : List Bool) (x : Int) : Option Bool := if oneV n p t b x = true then findO (g1 n p t b x) 0 n.toNat else some false
def lawsV (n : Int) (p t : List Int) (b : List Bool) : Bool := (findO (g0 n p t b) 0 n.toNat).getD true
theorem specLaws (h : OK n p t b) : Ev (fun k => spec_IsSystem.l0 k 0 n p t b) (lawsV n p t b) := by
  have hn : 0 ≤ n := by have := h.lo; omega
  have up : ∀ x, 0 ≤ x → x < n → wrap64 (x + 1) = x + 1 := fun x h0 h1 => w64 (by omega) (by have := h.hi; omega)
  refine loop0 (F := fun k x => spec_IsSystem.l0 k x n p t b) hn ?_ ?_
  · refine Ev.step (f := fun _ => some true) (fun k => ?_) (Ev.now _)
    simp only [spec_IsSystem.l0]; rw [if_neg (by omega)]
  · intro x x0 x1 r hr
    have hx : Rg n x := ⟨x0, x1⟩
    refine Ev.step (f := fun k => if oneV n p t b x = true then spec_IsSystem.l1 k x 0 n p t b else some false) (fun k => ?_) ?_
    · simp only [spec_IsSystem.l0, specOne h hx, Option.bind_some]; rw [if_pos x1]
    · unfold g0
      cases oneV n p t b x
      · simpa using Ev.now false
      · simp only [if_true]
        refine loop0 (F := fun k y => spec_IsSystem.l1 k x y n p t b) hn ?_ ?_
        · refine Ev.step (fun k => ?_) hr
          simp only [spec_IsSystem.l1]; rw [if_neg (by omega), up x x0 x1]
        · intro y y0 y1 r hr
          have hy : Rg n y := ⟨y0, y1⟩
          refine Ev.step (f := fun k => (spec_l1Two.f k n p t b x y).bind fun v => if v = true then spec_IsSystem.l2 k x y 0 n p t b else some false) (fun k => ?_) (Ev.bind (specTwo h hx hy) ?_)
          · simp only [spec_IsSystem.l1]; rw [if_pos y1]
          · unfold g1
            cases twoV n p b x y
            · simpa using Ev.now false
            · simp only [if_true]
              refine loop0 (F := fun k z => spec_IsSystem.l2 k x y z n p t b) hn ?_ ?_
              · refine Ev.step (fun k => ?_) hr
                simp only [spec_IsSystem.l2]; rw [if_neg (by omega), up y y0 y1]
              · intro z z0 z1 r hr
                have hz : Rg n z := ⟨z0, z1⟩
                refine Ev.step (f := fun k => (spec_l1Three.f k n p t b x y z).bind fun v => if v = true then spec_IsSystem.l2 k x y (z + 1) n p t b else some false) (fun k => ?_) (Ev.bind (specThree h hx hy hz) ?_)
                · simp only [spec_IsSystem.l2]; rw [if_pos z1, up z z0 z1]
                · unfold g2
                  cases threeV n p t b x y z
                  · simpa using Ev.now false
                  · simpa using hr
theorem implLaws (h : OK n p t b) : Ev (fun k => impl_IsSystem.l1 k n 0 n p t b) (lawsV n p t b) := by
  have hn : 0 ≤ n := by have := h.lo; omega
  have up : ∀ x, 0 ≤ x → x < n → wrap64 (x + 1) = x + 1 := fun x h0 h1 => w64 (by omega) (by have := h.hi; omega)
  have h0 := Rg_zero h
  have h1 := Rg_one h
  refine loop0 (F := fun k x => impl_IsSystem.l1 k n x n p t b) hn ?_ ?_
  · refine Ev.step (f := fun _ => some true) (fun k => ?_) (Ev.now _)
    simp only [impl_IsSystem.l1]; rw [if_neg (by omega)]
  · intro x x0 x1 r hr
    have hx : Rg n x := ⟨x0, x1⟩
    refine Ev.step (f := fun k => impl_IsSystem.j3 k n x (!oneV n p t b x) n p t b) (fun k => ?_) (Ev.step (f := fun k => if oneV n p t b x = true then impl_IsSystem.l2 k n x 0 n p t b else some false) (fun k => ?_) ?_)
    · simp only [impl_IsSystem.l1, plus_is, times_is, below_is, add_eq h h0 hx, mul_eq h h1 hx, mul_eq h hx h1, mul_eq h h0 hx, mul_eq h hx h0, le_eq h hx hx, Option.bind_some]
      rw [if_pos x1]
      unfold oneV
      repeat' split
      all_goals simp_all
    · simp only [impl_IsSystem.j3]
      cases oneV n p t b x <;> simp
    · unfold g0
      cases oneV n p t b x
      · simpa using Ev.now false
      · simp only [if_true]
        refine loop0 (F := fun k y => impl_IsSystem.l2 k n x y n p t b) hn ?_ ?_
        · refine Ev.step (fun k => ?_) hr
          simp only [impl_IsSystem.l2]; rw [if_neg (by omega), up x x0 x1]
        · intro y y0 y1 r hr
          have hy : Rg n y := ⟨y0, y1⟩
          obtain ⟨K, hj⟩ := implJoin h hx hy
          have key : Ev (fun k => impl_IsSystem.j5 k n x y (!twoV n p b x y) n p t b) ((g1 n p t b x y).getD r) := by
            refine Ev.step (f := fun k => if twoV n p b x y = true then impl_IsSystem.l3 k n x y 0 n p t b else some false) (fun k => ?_) ?_
            · simp only [impl_IsSystem.j5]
              cases twoV n p b x y <;> simp
            · unfold g1
              cases twoV n p b x y
              · simpa using Ev.now false
              · simp only [if_true]
                refine loop0 (F := fun k z => impl_IsSystem.l3 k n x y z n p t b) hn ?_ ?_
                · refine Ev.step (fun k => ?_) hr
                  simp only [impl_IsSystem.l3]; rw [if_neg (by omega), up y y0 y1]
                · intro z z0 z1 r hr
                  have hz : Rg n z := ⟨z0, z1⟩
                  refine Ev.step (f := fun k => (impl_System_lawsOf.f k n p t b x y z).bind fun v => if v = true then impl_IsSystem.l3 k n x y (z + 1) n p t b else some false) (fun k => ?_) (Ev.bind (implThree h hx hy hz) ?_)
                  · simp only [impl_IsSystem.l3]; rw [if_pos z1, up z z0 z1]
                  · unfold g2
                    cases threeV n p t b x y z
                    · simpa using Ev.now false
                    · simpa using hr
          obtain ⟨K', hk⟩ := key
          refine ⟨K + K' + 1, fun k hkk => ?_⟩
          obtain ⟨k, rfl⟩ : ∃ m, k = m + 1 := ⟨k - 1, by omega⟩
          rw [← hk k (by omega)]
          simp only [impl_IsSystem.l2, plus_is, below_is, add_eq h hx hy, add_eq h hy hx, le_eq h hx hy, le_eq h hy hx, hj k (by omega), Option.bind_some]
          rw [if_pos y1]
          unfold twoV
          have en : ∀ j : Int, decide (j < 0) = !decide (j ≥ 0) := fun j => by
            by_cases c : j < 0
            · rw [decide_eq_true c, decide_eq_false (by omega)]; rfl
            · rw [decide_eq_false c, decide_eq_true (by omega)]; rfl
          rw [en]
          generalize joinV n b x y = j
          generalize L n b x y = q1
          generalize L n b y x = q2
          by_cases c1 : A n p x y = A n p y x
          · by_cases c2 : x = y
            · simp [c1, c2]
            · cases q1 <;> cases q2 <;> simp [c1, c2]
          · simp [c1]
/-! ## The tables' own tests -/
def gt (n : Int) (p t : List Int) (i : Int) : Option Bool := if (inV (rd p i) 0 (wrap64 (n - 1)) && inV (rd t i) 0 (wrap64 (n - 1))) = true then none else some false
def preV (n : Int) (p t : List Int) (b : List Bool) : Bool :=
  inV n 2 16 && (decide ((p.length : Int) = wrap64 (n * n)) && decide ((t.length : Int) = wrap64 (n * n)) && decide ((b.length : Int) = wrap64 (n * n)))
/-- What IsSystem tells. -/
def sysV (n : Int) (p t : List Int) (b : List Bool) : Bool :=
  if preV n p t b = true then (if findO (gt n p t) 0 p.length = none then lawsV n p t b else false) else false
theorem pre_facts (h : preV n p t b = true) : 2 ≤ n ∧ n ≤ 16 ∧ (p.length : Int) = n * n ∧ (t.length : Int) = n * n ∧ (b.length : Int) = n * n ∧ n * n ≤ 256 := by
  unfold preV inV at h
  simp only [Bool.and_eq_true, decide_eq_true_eq] at h
  obtain ⟨⟨h1, h2⟩, ⟨h3, h4⟩, h5⟩ := h
  have h6 : n * n ≤ 16 * 16 := Int.mul_le_mul h2 h2 (by omega) (by decide)
  have h7 : 0 ≤ n * n := Int.mul_nonneg (by omega) (by omega)
  rw [w64 (by omega) (by omega)] at h3 h4 h5
  exact ⟨h1, h2, h3, h4, h5, by omega⟩
theorem ok_of (h : preV n p t b = true) (hf : findO (gt n p t) 0 p.length = none) : OK n p t b := by
  obtain ⟨h1, h2, h3, h4, h5, h6⟩ := pre_facts h
  have hb : ∀ x, inV x 0 (wrap64 (n - 1)) = true → Rg n x := fun x hx => by
    unfold inV at hx
    rw [w64 (by omega) (by omega)] at hx
    simp only [Bool.and_eq_true, decide_eq_true_eq] at hx
    exact ⟨hx.1, by omega⟩
  have hg : ∀ i, 0 ≤ i → i < n * n → (inV (rd p i) 0 (wrap64 (n - 1)) && inV (rd t i) 0 (wrap64 (n - 1))) = true := fun i h0 h1 => by
    have := findO_none _ _ hf i h0 (by omega)
    unfold gt at this
    split at this
    · assumption
    · exact absurd this (by simp)
  exact ⟨h1, h2, h3, h4, h5, fun i h0 h1 => hb _ ((Bool.and_eq_true _ _).mp (hg i h0 h1)).1, fun i h0 h1 => hb _ ((Bool.and_eq_true _ _).mp (hg i h0 h1)).2⟩
theorem sysV_ok (h : sysV n p t b = true) : OK n p t b := by
  unfold sysV at h
  split at h
  · split at h
    · exact ok_of (by assumption) (by assumption)
    · cases h
  · cases h
theorem gt_getD (x : Int) (r : Bool) : (gt n p t x).getD r = if (inV (rd p x) 0 (wrap64 (n - 1)) && inV (rd t x) 0 (wrap64 (n - 1))) = true then r else false := by
  unfold gt; split <;> rfl
theorem gt_find (m : Nat) (x : Int) (e : Bool) : (findO (gt n p t) x m).getD e = if findO (gt n p t) x m = none then e else false := by
  cases c : findO (gt n p t) x m with
  | none => simp
  | some v =>
    have : ∀ (m : Nat) (x : Int), findO (gt n p t) x m = some v → v = false := by
      intro m
      induction m with
      | zero => intro x hx; cases hx
      | succ m ih =>
        intro x hx
        have hx' : (gt n p t x).or (findO (gt n p t) (x + 1) m) = some v := hx
        by_cases c : gt n p t x = none
        · rw [c] at hx'; exact ih (x + 1) hx'
        · unfold gt at hx' c
          split at hx'
          · next h => rw [if_pos h] at c; exact absurd rfl c
          · exact (Option.some.inj hx').symm
    simp [this m x c]
theorem specTables (n : Int) (p t : List Int) (b : List Bool) : Ev (fun k => spec_l1Tables.f k n p t b) (if preV n p t b = true then (if findO (gt n p t) 0 p.length = none then true else false) else false) := by
  unfold spec_l1Tables.f
  by_cases hp : preV n p t b = true
  · obtain ⟨h1, h2, h3, h4, h5, h6⟩ := pre_facts hp
    rw [if_pos hp]
    have e : wrap64 (n * n) = n * n := w64 (by omega) (by omega)
    have hin : inV n 2 16 = true := by unfold preV at hp; exact ((Bool.and_eq_true _ _).mp hp).1
    refine evCongr (f := fun k => spec_l1Tables.j0 k false n p t b) (fun k => ?_) (Ev.step (f := fun k => spec_l1Tables.l0 k 0 n p t b) (fun k => ?_) ?_)
    · simp [in_eq, hin, e, h3, h4, h5]
    · simp [spec_l1Tables.j0]
    · rw [← gt_find]
      refine (loop0 (F := fun k x => spec_l1Tables.l0 k x n p t b) (n := (p.length : Int)) (by omega) ?_ ?_)
      · refine Ev.step (f := fun _ => some true) (fun k => ?_) (Ev.now _)
        simp only [spec_l1Tables.l0]; rw [if_neg (by omega)]
      · intro x h0 h1 r hr
        rw [gt_getD]
        refine Ev.step (f := fun k => if (inV (rd p x) 0 (wrap64 (n - 1)) && inV (rd t x) 0 (wrap64 (n - 1))) = true then spec_l1Tables.l0 k (x + 1) n p t b else some false) (fun k => ?_) ?_
        · simp only [spec_l1Tables.l0, in_eq, Option.bind_some]
          rw [if_pos h1, if_pos h0, if_pos (show x < (t.length : Int) by omega), w64 (x := x + 1) (by omega) (by omega)]
          cases inV (rd p x) 0 (wrap64 (n - 1)) <;> simp
        · cases (inV (rd p x) 0 (wrap64 (n - 1)) && inV (rd t x) 0 (wrap64 (n - 1)))
          · simpa using Ev.now false
          · simpa using hr
  · rw [if_neg hp]
    refine evCongr (f := fun k => spec_l1Tables.j0 k true n p t b) (fun k => ?_) (Ev.step (f := fun _ => some false) (fun k => ?_) (Ev.now _))
    · rw [in_eq, Option.bind_some]
      unfold preV at hp
      revert hp
      cases inV n 2 16
      · simp
      · intro hp
        simp only [Bool.true_and, Bool.and_eq_true, decide_eq_true_eq, not_and] at hp
        rw [if_pos rfl]
        by_cases c1 : (p.length : Int) = wrap64 (n * n)
        · rw [if_pos c1]
          by_cases c2 : (t.length : Int) = wrap64 (n * n)
          · rw [if_pos c2, bne_iff_ne.mpr (hp ⟨c1, c2⟩)]
          · rw [if_neg c2]
        · rw [if_neg c1]
    · simp [spec_l1Tables.j0]
theorem specSystem (n : Int) (p t : List Int) (b : List Bool) : Ev (fun k => spec_IsSystem.f k n p t b) (sysV n p t b) := by
  unfold spec_IsSystem.f
  refine Ev.bind (specTables n p t b) ?_
  unfold sysV
  by_cases hp : preV n p t b = true
  · rw [if_pos hp, if_pos hp]
    by_cases hf : findO (gt n p t) 0 p.length = none
    · rw [if_pos hf, if_pos hf]
      simpa using specLaws (ok_of hp hf)
    · rw [if_neg hf, if_neg hf]
      simpa using Ev.now false
  · rw [if_neg hp, if_neg hp]
    simpa using Ev.now false
theorem implSystem (n : Int) (p t : List Int) (b : List Bool) : Ev (fun k => impl_IsSystem.f k n p t b) (sysV n p t b) := by
  unfold impl_IsSystem.f sysV
  by_cases hp : preV n p t b = true
  · obtain ⟨h1, h2, h3, h4, h5, h6⟩ := pre_facts hp
    rw [if_pos hp]
    have e : wrap64 (n * n) = n * n := w64 (by omega) (by omega)
    have hin : inV n 2 16 = true := by unfold preV at hp; exact ((Bool.and_eq_true _ _).mp hp).1
    refine evCongr (f := fun k => impl_IsSystem.j0 k n false n p t b) (fun k => ?_) (Ev.step (f := fun k => impl_IsSystem.l0 k n (p.length : Int) 0 n p t b) (fun k => ?_) ?_)
    · simp [within_eq, hin, e, h3, h4, h5]
    · simp [impl_IsSystem.j0]
    · have step : ∀ x : Int, 0 ≤ x → x < (p.length : Int) → ∀ r, (gt n p t x = none → Ev (fun k => impl_IsSystem.l0 k n (p.length : Int) (x + 1) n p t b) r) → Ev (fun k => impl_IsSystem.l0 k n (p.length : Int) x n p t b) ((gt n p t x).getD r) := by
        intro x h0 h1 r hr
        rw [gt_getD]
        refine Ev.step (f := fun k => if (inV (rd p x) 0 (wrap64 (n - 1)) && inV (rd t x) 0 (wrap64 (n - 1))) = true then impl_IsSystem.l0 k n (p.length : Int) (x + 1) n p t b else some false) (fun k => ?_) ?_
        · simp only [impl_IsSystem.l0, has_eq, Option.bind_some]
          rw [if_pos h1, if_pos h0, if_pos h1, if_pos (show x < (t.length : Int) by omega), w64 (x := x + 1) (by omega) (by omega)]
          cases inV (rd p x) 0 (wrap64 (n - 1)) <;> simp
        · unfold gt at hr
          revert hr
          cases (inV (rd p x) 0 (wrap64 (n - 1)) && inV (rd t x) 0 (wrap64 (n - 1)))
          · intro _; simpa using Ev.now false
          · intro hr; simpa using hr (by simp)
      by_cases hf : findO (gt n p t) 0 p.length = none
      · rw [if_pos hf]
        have := loop (F := fun k x => impl_IsSystem.l0 k n (p.length : Int) x n p t b) (n := (p.length : Int)) (e := lawsV n p t b)
          (Ev.step (f := fun k => impl_IsSystem.l1 k n 0 n p t b) (fun k => by simp only [impl_IsSystem.l0]; rw [if_neg (by omega)]) (implLaws (ok_of hp hf))) (fun x h0 h1 r hr => step x h0 h1 r fun _ => hr) p.length 0 (by omega) (by omega)
        rw [hf] at this
        exact this
      · rw [if_neg hf]
        have hv := gt_find (n := n) (p := p) (t := t) p.length 0 true
        rw [if_neg hf] at hv
        cases c : findO (gt n p t) 0 p.length with
        | none => exact absurd c hf
        | some v =>
          rw [c] at hv
          obtain rfl : v = false := hv
          exact loop_hit (F := fun k x => impl_IsSystem.l0 k n (p.length : Int) x n p t b) step p.length 0 (by omega) (by omega) c
  · rw [if_neg hp]
    refine evCongr (f := fun k => impl_IsSystem.j0 k n true n p t b) (fun k => ?_) (Ev.step (f := fun _ => some false) (fun k => ?_) (Ev.now _))
    · rw [within_eq, Option.bind_some]
      unfold preV at hp
      revert hp
      cases inV n 2 16
      · simp
      · intro hp
        simp only [Bool.true_and, Bool.and_eq_true, decide_eq_true_eq, not_and] at hp
        rw [if_pos rfl]
        by_cases c1 : (p.length : Int) = wrap64 (n * n)
        · rw [if_pos c1]
          by_cases c2 : (t.length : Int) = wrap64 (n * n)
          · rw [if_pos c2, bne_iff_ne.mpr (hp ⟨c1, c2⟩)]
          · rw [if_neg c2]
        · rw [if_neg c1]
    · simp [impl_IsSystem.j0]
end
theorem findO_false {g : Int → Option Bool} (hg : ∀ x v, g x = some v → v = false) : ∀ (m : Nat) (x : Int) (v : Bool), findO g x m = some v → v = false
  | 0, x, v, h => by cases h
  | m + 1, x, v, h => by
    have h' : (g x).or (findO g (x + 1) m) = some v := h
    cases c : g x with
    | none => rw [c] at h'; exact findO_false hg m (x + 1) v h'
    | some u => rw [c] at h'; obtain rfl : u = v := Option.some.inj h'; exact hg x u c
theorem findO_all {g : Int → Option Bool} (hg : ∀ x v, g x = some v → v = false) {m : Nat} {x : Int} : (findO g x m).getD true = true ↔ ∀ y, x ≤ y → y < x + m → g y = none := by
  constructor
  · intro h
    cases c : findO g x m with
    | none => exact findO_none m x c
    | some v => rw [c] at h; have := findO_false hg m x v c; subst this; cases h
  · intro h
    have : findO g x m = findO (fun _ => none) x m := findO_congr m x h
    rw [this, findO_nil]; rfl
section
variable {n : Int} {p t : List Int} {b : List Bool}
theorem g2_false {x y : Int} : ∀ z v, g2 n p t b x y z = some v → v = false := by
  intro z v h
  unfold g2 at h
  split at h
  · cases h
  · exact (Option.some.inj h).symm
theorem g1_false {x : Int} : ∀ y v, g1 n p t b x y = some v → v = false := by
  intro y v h
  unfold g1 at h
  split at h
  · exact findO_false g2_false _ _ _ h
  · exact (Option.some.inj h).symm
theorem g0_false : ∀ x v, g0 n p t b x = some v → v = false := by
  intro x v h
  unfold g0 at h
  split at h
  · exact findO_false g1_false _ _ _ h
  · exact (Option.some.inj h).symm
theorem sys_laws (h : sysV n p t b = true) : (∀ x, Rg n x → oneV n p t b x = true) ∧ (∀ x y, Rg n x → Rg n y → twoV n p b x y = true) ∧ (∀ x y z, Rg n x → Rg n y → Rg n z → threeV n p t b x y z = true) := by
  have o := sysV_ok h
  have hn : ((n.toNat : Nat) : Int) = n := by have := o.lo; omega
  unfold sysV at h
  split at h
  · split at h
    · unfold lawsV at h
      have h0 := (findO_all g0_false).mp h
      have one : ∀ x, Rg n x → oneV n p t b x = true ∧ findO (g1 n p t b x) 0 n.toNat = none := fun x hx => by
        have := h0 x hx.1 (by have := hx.2; omega)
        unfold g0 at this
        split at this
        · exact ⟨by assumption, this⟩
        · cases this
      have two : ∀ x y, Rg n x → Rg n y → twoV n p b x y = true ∧ findO (g2 n p t b x y) 0 n.toNat = none := fun x y hx hy => by
        have := findO_none _ _ (one x hx).2 y hy.1 (by have := hy.2; omega)
        unfold g1 at this
        split at this
        · exact ⟨by assumption, this⟩
        · cases this
      refine ⟨fun x hx => (one x hx).1, fun x y hx hy => (two x y hx hy).1, fun x y z hx hy hz => ?_⟩
      have := findO_none _ _ (two x y hx hy).2 z hz.1 (by have := hz.2; omega)
      unfold g2 at this
      split at this
      · assumption
      · cases this
    · cases h
  · cases h
/-- The laws, one by one. -/
structure Sys (n : Int) (p t : List Int) (b : List Bool) : Prop where
  ok : OK n p t b
  a0 : ∀ x, Rg n x → A n p 0 x = x
  m1 : ∀ x, Rg n x → A n t 1 x = x
  m0 : ∀ x, Rg n x → A n t 0 x = 0
  mz : ∀ x, Rg n x → A n t x 0 = 0
  rf : ∀ x, Rg n x → L n b x x = true
  ac : ∀ x y, Rg n x → Rg n y → A n p x y = A n p y x
  an : ∀ x y, Rg n x → Rg n y → L n b x y = true → L n b y x = true → x = y
  jo : ∀ x y, Rg n x → Rg n y → joinV n b x y ≥ 0
  di : ∀ x y z, Rg n x → Rg n y → Rg n z → A n t x (A n p y z) = A n p (A n t x y) (A n t x z)
  tr : ∀ x y z, Rg n x → Rg n y → Rg n z → L n b x y = true → L n b y z = true → L n b x z = true
theorem sys_of (h : sysV n p t b = true) : Sys n p t b := by
  obtain ⟨h1, h2, h3⟩ := sys_laws h
  have o := sysV_ok h
  unfold oneV at h1
  unfold twoV at h2
  unfold threeV at h3
  simp only [Bool.and_eq_true, decide_eq_true_eq, Bool.not_eq_true', Bool.or_eq_true] at h1 h2 h3
  refine ⟨o, fun x hx => (h1 x hx).1.1.1.1.1, fun x hx => (h1 x hx).1.1.1.1.2, fun x hx => (h1 x hx).1.1.2, fun x hx => (h1 x hx).1.2, fun x hx => (h1 x hx).2, fun x y hx hy => (h2 x y hx hy).1.1, fun x y hx hy l1 l2 => ?_, fun x y hx hy => (h2 x y hx hy).2, fun x y z hx hy hz => (h3 x y z hx hy hz).1.1.2, fun x y z hx hy hz l1 l2 => ?_⟩
  · have := (h2 x y hx hy).1.2
    by_cases e : x = y
    · exact e
    · rw [l1, l2] at this
      simp [e] at this
  · have := (h3 x y z hx hy hz).2
    rw [l1, l2] at this
    simp at this
    exact this.1.1.1
theorem jAll_iff (h : OK n p t b) {x y z : Int} : jAll n b x y z 0 n.toNat = true ↔ ∀ w, Rg n w → L n b x w = true → L n b y w = true → L n b z w = true := by
  have go : ∀ (m : Nat) (a : Int), jAll n b x y z a m = true ↔ ∀ w, a ≤ w → w < a + m → L n b x w = true → L n b y w = true → L n b z w = true := by
    intro m
    induction m with
    | zero => intro a; exact ⟨fun _ w h1 h2 => by omega, fun _ => rfl⟩
    | succ m ih =>
      intro a
      show ((!(L n b x a && L n b y a) || L n b z a) && jAll n b x y z (a + 1) m) = true ↔ _
      rw [Bool.and_eq_true, ih]
      constructor
      · rintro ⟨h1, h2⟩ w hw1 hw2 l1 l2
        by_cases e : w = a
        · subst e; rw [l1, l2] at h1; simpa using h1
        · exact h2 w (by omega) (by omega) l1 l2
      · intro hh
        refine ⟨?_, fun w h1 h2 => hh w (by omega) (by omega)⟩
        cases c1 : L n b x a
        · rfl
        · cases c2 : L n b y a
          · rfl
          · rw [hh a (by omega) (by omega) c1 c2]; rfl
  have hn : ((n.toNat : Nat) : Int) = n := by have := h.lo; omega
  rw [go]
  exact ⟨fun hh w hw => hh w hw.1 (by have := hw.2; omega), fun hh w h1 h2 => hh w ⟨h1, by omega⟩⟩
theorem findO_some {g : Int → Option Int} (hg : ∀ x v, g x = some v → v = x) : ∀ (m : Nat) (x v : Int), findO g x m = some v → g v = some v ∧ x ≤ v ∧ v < x + m
  | 0, x, v, h => by cases h
  | m + 1, x, v, h => by
    have h' : (g x).or (findO g (x + 1) m) = some v := h
    cases c : g x with
    | none => rw [c] at h'; obtain ⟨h1, h2, h3⟩ := findO_some hg m (x + 1) v h'; exact ⟨h1, by omega, by omega⟩
    | some u => rw [c] at h'; obtain rfl : u = v := Option.some.inj h'; have := hg x u c; subst this; exact ⟨c, by omega, by omega⟩
/-- A join is the least that both are below. -/
theorem join_is (s : Sys n p t b) {x y : Int} (hx : Rg n x) (hy : Rg n y) : Rg n (joinV n b x y) ∧ L n b x (joinV n b x y) = true ∧ L n b y (joinV n b x y) = true ∧ ∀ w, Rg n w → L n b x w = true → L n b y w = true → L n b (joinV n b x y) w = true := by
  have h := s.jo x y hx hy
  have hn : ((n.toNat : Nat) : Int) = n := by have := s.ok.lo; omega
  unfold joinV at h ⊢
  cases c : findO (jg n b x y) 0 n.toNat with
  | none => rw [c] at h; exact absurd h (by decide)
  | some v =>
    obtain ⟨h1, h2, h3⟩ := findO_some (fun x' v' h' => by unfold jg at h'; split at h' <;> simp at h'; exact h'.symm) _ _ _ c
    unfold jg at h1
    split at h1
    · rename_i hh
      rw [Bool.and_eq_true, Bool.and_eq_true] at hh
      show Rg n v ∧ L n b x v = true ∧ L n b y v = true ∧ ∀ w, Rg n w → L n b x w = true → L n b y w = true → L n b v w = true
      exact ⟨⟨h2, by omega⟩, hh.1.1, hh.1.2, (jAll_iff s.ok).mp hh.2⟩
    · cases h1
end
def rg1 (n : Int) (p t : List Int) (x y : Int) : Option Bool := if (A n p x y = 0 ∧ ¬ (x = 0 ∧ y = 0)) ∨ (A n t x y = 0 ∧ x ≠ 0 ∧ y ≠ 0) then some false else none
def rg0 (n : Int) (p t : List Int) (b : List Bool) (x : Int) : Option Bool := if x ≠ 0 ∧ L n b x 0 = true then some false else findO (rg1 n p t x) 0 n.toNat
def relV (n : Int) (p t : List Int) (b : List Bool) : Bool := (findO (rg0 n p t b) 0 n.toNat).getD true
section
variable {n : Int} {p t : List Int} {b : List Bool}
theorem implRel (h : OK n p t b) : Ev (fun k => impl_IsReliable.l0 k 0 n p t b) (relV n p t b) := by
  have hn : 0 ≤ n := by have := h.lo; omega
  have up : ∀ x, 0 ≤ x → x < n → wrap64 (x + 1) = x + 1 := fun x h0 h1 => w64 (by omega) (by have := h.hi; omega)
  refine loop0 (F := fun k x => impl_IsReliable.l0 k x n p t b) hn ?_ ?_
  · refine Ev.step (f := fun _ => some true) (fun k => ?_) (Ev.now _)
    simp only [impl_IsReliable.l0]; rw [if_neg (by omega)]
  · intro x x0 x1 r hr
    have hx : Rg n x := ⟨x0, x1⟩
    refine Ev.step (f := fun k => impl_IsReliable.j1 k x (decide (x ≠ 0) && L n b x 0) n p t b) (fun k => ?_) (Ev.step (f := fun k => if x ≠ 0 ∧ L n b x 0 = true then some false else impl_IsReliable.l1 k x 0 n p t b) (fun k => ?_) ?_)
    · simp only [impl_IsReliable.l0, below_is, le_eq h hx (Rg_zero h), Option.bind_some]
      rw [if_pos x1]
      by_cases c : x = 0
      · simp [c]
      · simp [c, show x > 0 by omega]
    · simp only [impl_IsReliable.j1]
      by_cases c : x = 0
      · simp [c]
      · cases L n b x 0 <;> simp [c]
    · unfold rg0
      by_cases c : x ≠ 0 ∧ L n b x 0 = true
      · simp only [if_pos c]; exact Ev.now _
      · simp only [if_neg c]
        refine loop0 (F := fun k y => impl_IsReliable.l1 k x y n p t b) hn ?_ ?_
        · refine Ev.step (fun k => ?_) hr
          simp only [impl_IsReliable.l1]; rw [if_neg (by omega), up x x0 x1]
        · intro y y0 y1 r hr
          have hy : Rg n y := ⟨y0, y1⟩
          have e3 : wrap64 (x + y) = x + y := w64 (by omega) (by have := h.hi; omega)
          have q1 : (x > 0) = ¬ (x = 0) := propext (by omega)
          have q2 : (y > 0) = ¬ (y = 0) := propext (by omega)
          have q3 : (x + y > 0) = ¬ (x = 0 ∧ y = 0) := propext (by omega)
          refine Ev.step (f := fun k => if (A n p x y = 0 ∧ ¬ (x = 0 ∧ y = 0)) ∨ (A n t x y = 0 ∧ x ≠ 0 ∧ y ≠ 0) then some false else impl_IsReliable.l1 k x (y + 1) n p t b) (fun k => ?_) ?_
          · simp only [impl_IsReliable.l1, plus_is, times_is, add_eq h hx hy, mul_eq h hx hy, Option.bind_some, up y y0 y1, e3]
            rw [if_pos y1]
            (try simp only [q1, q2, q3])
            by_cases c1 : A n p x y = 0 <;> by_cases c2 : A n t x y = 0 <;> by_cases c3 : x = 0 <;> by_cases c4 : y = 0 <;> simp [c1, c2, c3, c4]
          · unfold rg1
            split
            · exact Ev.now _
            · exact hr
end
theorem implReliable (n : Int) (p t : List Int) (b : List Bool) : Ev (fun k => impl_IsReliable.f k n p t b) (if sysV n p t b = true then relV n p t b else false) := by
  unfold impl_IsReliable.f
  refine Ev.bind (implSystem n p t b) ?_
  by_cases c : sysV n p t b = true
  · simp only [if_pos c]
    exact implRel (sysV_ok c)
  · simp only [if_neg c]
    exact Ev.now _
/-- What a pair of grades tells of a marked set. -/
def v1 (n : Int) (p t : List Int) (b : List Bool) (s : List Bool) (x y : Int) : Option Bool :=
  if rdOf false s x = true then
    (if rdOf false s (A n p x y) = true ∧ rdOf false s (A n t x y) = rdOf false s y ∧ (L n b x y = true → rdOf false s y = true) then none else some false)
  else (if rdOf false s (A n p x y) = rdOf false s y ∧ rdOf false s (A n t x y) = false then none else some false)
def v0 (n : Int) (p t : List Int) (b : List Bool) (s : List Bool) (x : Int) : Option Bool := findO (v1 n p t b s x) 0 n.toNat
def markV (n : Int) (p t : List Int) (b : List Bool) (s : List Bool) : Bool := if rdOf false s 0 = false ∧ rdOf false s 1 = true then (findO (v0 n p t b s) 0 n.toNat).getD true else false
section
variable {n : Int} {p t : List Int} {b : List Bool} {s : List Bool}
theorem implMarks (h : OK n p t b) (hs : (s.length : Int) = n) : Ev (fun k => impl_isView.l0 k s 0 n p t b) ((findO (v0 n p t b s) 0 n.toNat).getD true) := by
  have hn : 0 ≤ n := by have := h.lo; omega
  have up : ∀ x, 0 ≤ x → x < n → wrap64 (x + 1) = x + 1 := fun x h0 h1 => w64 (by omega) (by have := h.hi; omega)
  refine loop0 (F := fun k x => impl_isView.l0 k s x n p t b) hn ?_ ?_
  · refine Ev.step (f := fun _ => some true) (fun k => ?_) (Ev.now _)
    simp only [impl_isView.l0]; rw [if_neg (by omega)]
  · intro x x0 x1 r hr
    refine Ev.step (f := fun k => impl_isView.l1 k s x 0 n p t b) (fun k => ?_) ?_
    · simp only [impl_isView.l0]; rw [if_pos x1]
    · unfold v0
      refine loop0 (F := fun k y => impl_isView.l1 k s x y n p t b) hn ?_ ?_
      · refine Ev.step (fun k => ?_) hr
        simp only [impl_isView.l1]; rw [if_neg (by omega), up x x0 x1]
      · intro y y0 y1 r hr
        have hx : Rg n x := ⟨x0, x1⟩
        have hy : Rg n y := ⟨y0, y1⟩
        have ha := A_in h hx hy
        have hm := M_in h hx hy
        have ha' : A n p x y < (s.length : Int) := by rw [hs]; exact ha.2
        have hm' : A n t x y < (s.length : Int) := by rw [hs]; exact hm.2
        have x2 : x < (s.length : Int) := by omega
        have y2 : y < (s.length : Int) := by omega
        refine Ev.step (f := fun k => if v1 n p t b s x y = none then impl_isView.l1 k s x (y + 1) n p t b else some false) (fun k => ?_) ?_
        · simp only [impl_isView.l1, plus_is, times_is, below_is, add_eq h hx hy, mul_eq h hx hy, le_eq h hx hy, Option.bind_some, if_pos y1, if_pos ha.1, if_pos ha', if_pos x0, if_pos x2, if_pos y0, if_pos y2, if_pos hm.1, if_pos hm', up y y0 y1]
          unfold v1
          generalize rdOf false s x = q1
          generalize rdOf false s (A n p x y) = q2
          generalize rdOf false s (A n t x y) = q3
          generalize rdOf false s y = q4
          generalize L n b x y = q5
          cases q1 <;> cases q2 <;> cases q3 <;> cases q4 <;> cases q5 <;> simp
        · cases c : v1 n p t b s x y with
          | none => simpa using hr
          | some u =>
            have : u = false := by
              unfold v1 at c
              repeat' split at c
              all_goals first | exact (Option.some.inj c).symm | cases c
            subst this
            simpa using Ev.now false
theorem implMark (h : OK n p t b) (hs : (s.length : Int) = n) : Ev (fun k => impl_isView.f k n p t b s) (markV n p t b s) := by
  have p0 : 0 < (s.length : Int) := by have := h.lo; omega
  have p1 : 1 < (s.length : Int) := by have := h.lo; omega
  unfold impl_isView.f markV
  simp only [if_pos p0, if_pos p1]
  have main := implMarks h hs
  refine evCongr (f := fun k => impl_isView.j0 k s (!rdOf false s 1 || rdOf false s 0) n p t b) (fun k => ?_) (Ev.step (f := fun k => if rdOf false s 0 = false ∧ rdOf false s 1 = true then impl_isView.l0 k s 0 n p t b else some false) (fun k => ?_) ?_)
  · cases rdOf false s 1 <;> simp
  · simp only [impl_isView.j0]
    cases rdOf false s 0 <;> cases rdOf false s 1 <;> simp
  · split
    · exact main
    · exact Ev.now _
end
/-- What is told of a list of grades from its place i on, behind the marks s. -/
def listV (n : Int) (p t : List Int) (b : List Bool) (xs : List Int) : Nat → Int → List Bool → Bool
  | 0, _, s => markV n p t b s
  | m + 1, i, s => if inV (rd xs i) 0 (wrap64 (n - 1)) = true then (if i > 0 ∧ rd xs i ≤ rd xs (i - 1) then false else listV n p t b xs m (i + 1) (s.set (rd xs i).toNat true)) else false
section
variable {n : Int} {p t : List Int} {b : List Bool} {xs : List Int}
theorem implList (h : OK n p t b) (hl : xs.length ≤ 1048576) : ∀ (m : Nat) (i : Int) (s : List Bool), 0 ≤ i → i + m = xs.length → (s.length : Int) = n → Ev (fun k => impl_IsView.l0 k xs s xs (xs.length : Int) i n p t b) (listV n p t b xs m i s)
  | 0, i, s, h0, h1, hs => by
    refine Ev.step (fun k => ?_) (Ev.bind (implMark h hs) (Ev.now _))
    simp only [impl_IsView.l0]; rw [if_neg (by omega)]
  | m + 1, i, s, h0, h1, hs => by
    have i1 : i < (xs.length : Int) := by omega
    have ih := implList h hl m (i + 1) (s.set (rd xs i).toNat true) (by omega) (by omega) (by simpa using hs)
    have up : wrap64 (i + 1) = i + 1 := w64 (by omega) (by omega)
    have dn : wrap64 (i - 1) = i - 1 := w64 (by omega) (by omega)
    refine Ev.step (f := fun k => if inV (rd xs i) 0 (wrap64 (n - 1)) = true then (if i > 0 ∧ rd xs i ≤ rd xs (i - 1) then some false else impl_IsView.l0 k xs (s.set (rd xs i).toNat true) xs (xs.length : Int) (i + 1) n p t b) else some false) (fun k => ?_) ?_
    · simp only [impl_IsView.l0, has_eq, Option.bind_some, if_pos i1, if_pos h0, up, dn]
      by_cases c : inV (rd xs i) 0 (wrap64 (n - 1)) = true
      · have hx := (inV_Rg h).mp c
        have hx0 : 0 ≤ rd xs i := hx.1
        have hx1 : rd xs i < (s.length : Int) := by rw [hs]; exact hx.2
        simp only [if_pos c, if_pos hx0, if_pos hx1]
        by_cases ci : i > 0
        · have e1 : 0 ≤ i - 1 := by omega
          have e2 : i - 1 < (xs.length : Int) := by omega
          simp only [if_pos ci, if_pos e1, if_pos e2]
          by_cases cr : rd xs i ≤ rd xs (i - 1)
          · simp [cr, ci]
          · simp [cr, ci]
        · simp [ci]
      · simp only [if_neg c]
    · unfold listV
      split
      · split
        · exact Ev.now _
        · exact ih
      · exact Ev.now _
theorem implView (hl : xs.length ≤ 1048576) : Ev (fun k => impl_IsView.f k n p t b xs) (if sysV n p t b = true then listV n p t b xs xs.length 0 (List.replicate n.toNat false) else false) := by
  unfold impl_IsView.f
  refine Ev.bind (implSystem n p t b) ?_
  by_cases c : sysV n p t b = true
  · have h := sysV_ok c
    have n0 : 0 ≤ n := by have := h.lo; omega
    have n1 : n.toNat ≤ 281474976710656 := by have := h.hi; omega
    simp only [if_pos c, if_pos n0, if_pos n1]
    exact implList h hl xs.length 0 _ (by omega) (by omega) (by simp; omega)
  · simp only [if_neg c]
    exact Ev.now _
end
def upL (i : Nat) : List Int := (List.range i).map fun q => ((q + 1 : Nat) : Int)
theorem upL_get {i q : Nat} (h : q < i) : rd (upL i) (q : Int) = ((q + 1 : Nat) : Int) := by
  unfold upL
  rw [rd_get (by simpa using h)]; simp
theorem findO_none_iff {α : Type} {g : Int → Option α} {m : Nat} {x : Int} : findO g x m = none ↔ ∀ y, x ≤ y → y < x + m → g y = none :=
  ⟨fun h => findO_none m x h, fun h => (findO_congr m x h).trans (findO_nil m x)⟩
section
variable {n : Int} {p t : List Int} {b : List Bool}
theorem listUp (o : OK n p t b) : ∀ (m i : Nat) (s : List Bool), i + m = n.toNat - 1 → (s.length : Int) = n → (∀ q, q < n.toNat → s[q]? = some (decide (1 ≤ q ∧ q ≤ i))) →
    ∃ s' : List Bool, (s'.length : Int) = n ∧ (∀ q, q < n.toNat → s'[q]? = some (decide (1 ≤ q ∧ q ≤ n.toNat - 1))) ∧ listV n p t b (upL (n.toNat - 1)) m (i : Int) s = markV n p t b s' := by
  have h1 := o.lo; have h2 := o.hi
  intro m
  induction m with
  | zero =>
    intro i s hi hl hs
    obtain rfl : i = n.toNat - 1 := by omega
    exact ⟨s, hl, hs, rfl⟩
  | succ m ih =>
    intro i s hi hl hs
    have e : rd (upL (n.toNat - 1)) (i : Int) = ((i + 1 : Nat) : Int) := upL_get (by omega)
    obtain ⟨s', a, b', c⟩ := ih (i + 1) (s.set (i + 1) true) (by omega) (by rw [List.length_set]; exact hl) (fun q hq => by
      rw [List.getElem?_set, hs q hq]
      by_cases e1 : i + 1 = q
      · rw [if_pos e1, if_pos (by omega)]
        congr 1; exact (decide_eq_true (by omega)).symm
      · rw [if_neg e1]
        congr 1
        exact decide_eq_decide.mpr (by omega))
    refine ⟨s', a, b', ?_⟩
    show (if inV (rd (upL (n.toNat - 1)) (i : Int)) 0 (wrap64 (n - 1)) = true then (if (i : Int) > 0 ∧ rd (upL (n.toNat - 1)) (i : Int) ≤ rd (upL (n.toNat - 1)) ((i : Int) - 1) then false else listV n p t b (upL (n.toNat - 1)) m ((i : Int) + 1) (s.set (rd (upL (n.toNat - 1)) (i : Int)).toNat true)) else false) = _
    have hin : inV (rd (upL (n.toNat - 1)) (i : Int)) 0 (wrap64 (n - 1)) = true := (inV_Rg o).mpr (by rw [e]; unfold Rg; omega)
    rw [if_pos hin, if_neg, e, show (i : Int) + 1 = ((i + 1 : Nat) : Int) by omega, Int.toNat_natCast]
    · exact c
    · rintro ⟨i0, hh⟩
      rw [e, show (i : Int) - 1 = ((i - 1 : Nat) : Int) by omega, upL_get (by omega)] at hh
      omega
theorem markRel (s : Sys n p t b) {z : List Bool} (hz : ∀ x, Rg n x → rdOf false z x = decide (x ≠ 0)) : markV n p t b z = relV n p t b := by
  have o := s.ok
  have h1 := o.lo
  have hn : ((n.toNat : Nat) : Int) = n := by omega
  have r0 := Rg_zero o
  have r1 := Rg_one o
  unfold markV
  rw [if_pos ⟨by rw [hz 0 r0]; rfl, by rw [hz 1 r1]; rfl⟩]
  unfold relV
  rw [Bool.eq_iff_iff, findO_all, findO_all]
  rotate_left
  · intro x v h
    unfold rg0 at h
    split at h
    · exact (Option.some.inj h).symm
    · refine findO_false ?_ _ _ _ h
      intro y w h'
      unfold rg1 at h'
      split at h'
      · exact (Option.some.inj h').symm
      · cases h'
  · intro x v h
    unfold v0 at h
    refine findO_false ?_ _ _ _ h
    intro y w h'
    unfold v1 at h'
    repeat' split at h'
    all_goals first | exact (Option.some.inj h').symm | cases h'
  have key : ∀ x y, Rg n x → Rg n y → (v1 n p t b z x y = none ↔ (x ≠ 0 → A n p x y ≠ 0 ∧ (A n t x y ≠ 0 ↔ y ≠ 0) ∧ (L n b x y = true → y ≠ 0))) := by
    intro x y hx hy
    unfold v1
    rw [hz x hx, hz y hy, hz _ (A_in o hx hy), hz _ (M_in o hx hy)]
    by_cases c : x = 0
    · subst c
      rw [s.a0 y hy, s.m0 y hy]
      simp
    · simp only [c, ne_eq, not_false_eq_true, decide_true, if_true, decide_eq_true_eq, forall_const, true_implies]
      have e : (decide (¬ A n t x y = 0) = decide (¬ y = 0)) ↔ (¬ A n t x y = 0 ↔ ¬ y = 0) := decide_eq_decide
      simp only [e]
      constructor
      · intro hh
        split at hh
        · assumption
        · cases hh
      · intro hh
        rw [if_pos hh]
  have lhs : (∀ y, 0 ≤ y → y < 0 + (n.toNat : Int) → v0 n p t b z y = none) ↔ ∀ x y, Rg n x → Rg n y → (x ≠ 0 → A n p x y ≠ 0 ∧ (A n t x y ≠ 0 ↔ y ≠ 0) ∧ (L n b x y = true → y ≠ 0)) := by
    constructor
    · intro hh x y hx hy
      have := hh x hx.1 (by have := hx.2; omega)
      unfold v0 at this
      exact (key x y hx hy).mp (findO_none_iff.mp this y hy.1 (by have := hy.2; omega))
    · intro hh x x0 x1
      unfold v0
      exact findO_none_iff.mpr fun y y0 y1 => (key x y ⟨x0, by omega⟩ ⟨y0, by omega⟩).mpr (hh x y ⟨x0, by omega⟩ ⟨y0, by omega⟩)
  have rhs : (∀ y, 0 ≤ y → y < 0 + (n.toNat : Int) → rg0 n p t b y = none) ↔ ∀ x, Rg n x → ¬ (x ≠ 0 ∧ L n b x 0 = true) ∧ ∀ y, Rg n y → ¬ ((A n p x y = 0 ∧ ¬ (x = 0 ∧ y = 0)) ∨ (A n t x y = 0 ∧ x ≠ 0 ∧ y ≠ 0)) := by
    constructor
    · intro hh x hx
      have := hh x hx.1 (by have := hx.2; omega)
      unfold rg0 at this
      split at this
      · cases this
      · rename_i c
        refine ⟨c, fun y hy => ?_⟩
        have := findO_none_iff.mp this y hy.1 (by have := hy.2; omega)
        unfold rg1 at this
        split at this
        · cases this
        · assumption
    · intro hh x x0 x1
      obtain ⟨c, d⟩ := hh x ⟨x0, by omega⟩
      unfold rg0
      rw [if_neg c]
      refine findO_none_iff.mpr fun y y0 y1 => ?_
      unfold rg1
      rw [if_neg (d y ⟨y0, by omega⟩)]
  rw [lhs, rhs]
  constructor
  · intro hh x hx
    refine ⟨fun c => (hh x 0 hx r0 c.1).2.2 c.2 rfl, fun y hy c => ?_⟩
    rcases c with ⟨c1, c2⟩ | ⟨c1, c2, c3⟩
    · by_cases e : x = 0
      · subst e
        rw [s.a0 y hy] at c1
        exact c2 ⟨rfl, c1⟩
      · exact (hh x y hx hy e).1 c1
    · exact (hh x y hx hy c2).2.1.mpr c3 c1
  · intro hh x y hx hy e
    obtain ⟨c, d⟩ := hh x hx
    refine ⟨fun h => d y hy (Or.inl ⟨h, fun q => e q.1⟩), ⟨fun h q => h (by rw [q]; exact s.mz x hx), fun h q => d y hy (Or.inr ⟨q, e, h⟩)⟩, fun h q => c ⟨e, by rw [← q]; exact h⟩⟩
theorem viewRel (h : sysV n p t b = true) : listV n p t b (upL (n.toNat - 1)) (upL (n.toNat - 1)).length 0 (List.replicate n.toNat false) = relV n p t b := by
  have s := sys_of h
  have h1 := s.ok.lo
  obtain ⟨z, z1, z2, z3⟩ := listUp s.ok (n.toNat - 1) 0 (List.replicate n.toNat false) (by omega) (by rw [List.length_replicate]; omega) (fun q hq => by
    rw [List.getElem?_replicate, if_pos hq]
    congr 1; exact (decide_eq_false (by omega)).symm)
  rw [show (upL (n.toNat - 1)).length = n.toNat - 1 by unfold upL; simp]
  refine z3.trans (markRel s fun x hx => ?_)
  obtain ⟨q, rfl⟩ := Int.eq_ofNat_of_zero_le hx.1
  have hq : q < n.toNat := by have := hx.2; omega
  have hl : q < z.length := by omega
  rw [rdB_get hl]
  have := z2 q hq
  rw [List.getElem?_eq_getElem hl] at this
  rw [Option.some.inj this]
  exact decide_eq_decide.mpr (by omega)
end
def lv1 : Sy := (2, [0, 1, 1, 1], [0, 0, 0, 1], [true, true, false, true])
theorem lv1E : Ev (fun k => impl_LevelSystem.f k 1) lv1 := evK 64 fun k => by kernel_rfl
theorem lv1R : Ev (fun k => impl_IsReliable.f k lv1.1 lv1.2.1 lv1.2.2.1 lv1.2.2.2) true := by
  have := implReliable lv1.1 lv1.2.1 lv1.2.2.1 lv1.2.2.2
  rwa [show (if sysV lv1.1 lv1.2.1 lv1.2.2.1 lv1.2.2.2 = true then relV lv1.1 lv1.2.1 lv1.2.2.1 lv1.2.2.2 else false) = true by decide +kernel] at this
theorem lastE : Ev (fun k => (impl_LevelSystem.f k 1).bind fun s => (impl_IsReliable.f k s.1 s.2.1 s.2.2.1 s.2.2.2).bind fun t => some t) true := Ev.bind lv1E (Ev.bind lv1R (Ev.now _))
theorem lawLoop {n : Int} {p t : List Int} {b : List Bool} (h : sysV n p t b = true) : ∀ (m i : Nat), i + m = n.toNat - 1 → Ev (fun k => laws_FnReliable.l0 k (upL i) ((i + 1 : Nat) : Int) n p t b) true := by
  have o := sysV_ok h
  have h1 := o.lo; have h2 := o.hi
  intro m
  induction m with
  | zero =>
    intro i hi
    obtain rfl : i = n.toNat - 1 := by omega
    have e : (upL (n.toNat - 1)).length ≤ 1048576 := by unfold upL; simp; omega
    have r := implReliable n p t b
    have v := implView (n := n) (p := p) (t := t) (b := b) e
    rw [if_pos h] at r v
    rw [viewRel h] at v
    refine Ev.step (fun k => by simp only [laws_FnReliable.l0]; rw [if_neg (by omega)]) ?_
    refine Ev.bind r ?_
    refine Ev.bind v ?_
    simp only [beq_self_eq_true, if_true]
    exact lastE
  | succ m ih =>
    intro i hi
    have e : (upL i).length = i := by unfold upL; simp
    have e1 : upL (i + 1) = upL i ++ [((i + 1 : Nat) : Int)] := by unfold upL; rw [List.range_succ, List.map_append]; rfl
    refine Ev.step (fun k => ?_) (ih (i + 1) (by omega))
    simp only [laws_FnReliable.l0]
    rw [if_pos (by omega), if_pos (by rw [e]; omega), e1, w64 (by omega) (by omega)]; rfl
theorem drawE {l : List Int} (hl : l.length ≤ 1048576) : ∃ r, Ev (fun k => spec_DrawIsReliable.f k l) r := by
  obtain ⟨h, e⟩ := newE (c := l)
  obtain ⟨x, i', h', eo, hi⟩ := onceE hl 0 h 5 (by omega) (by omega)
  unfold spec_DrawIsReliable.f
  refine exE e ?_
  simp only [eo, Option.bind_some]
  cases x
  · obtain ⟨r, er, _⟩ := dSystemE hl i' h' hi
    simp only [Bool.false_eq_true, if_false]
    exact exE er ⟨_, Ev.now _⟩
  · obtain ⟨r, er⟩ := dAnyE hl i' h' hi
    simp only [if_true]
    exact exE er ⟨_, Ev.now _⟩
theorem FnReliable : laws_FnReliable.Pure := by
  intro l hl
  refine evRounds ?_
  unfold laws_FnReliable.f
  by_cases c : (l.length : Int) > 1048576
  · simp only [laws_big.f, Option.bind_some, decide_eq_true c, if_true]
    exact Ev.now _
  · simp only [laws_big.f, Option.bind_some, decide_eq_false c, Bool.false_eq_true, if_false]
    have hn : l.length ≤ 1048576 := by omega
    obtain ⟨⟨n, p, t, b⟩, er⟩ := drawE hn
    refine Ev.bind er ?_
    refine Ev.bind (specSystem n p t b) ?_
    cases h : sysV n p t b
    · simp only [Bool.false_eq_true, if_false]
      have r := implReliable n p t b
      rw [h] at r
      refine Ev.bind r ?_
      simp only [Bool.false_eq_true, if_false]
      exact lastE
    · simp only [if_true]
      exact lawLoop h (n.toNat - 1) 0 (by omega)
end Go.Proofs.Ytcdmnofomoadlaa.Pure
end
