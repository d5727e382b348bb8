/- FnProductParts: the pure statement. -/
import Derived.Test.YtcdmnofomoadlaaPf3
import Derived.Test.YtcdmnofomoadlaaM14
import Derived.Test.YtcdmnofomoadlaaB12
import Derived.Test.YtcdmnofomoadlaaM13
import Derived.KernelRfl
set_option linter.unusedSimpArgs false
set_option linter.unusedVariables false
namespace Go.Proofs.Ytcdmnofomoadlaa.Pure
open Go.RowKit Go.Proofs.Ytcdmnofomoadlaa.P Go.Proofs.YtcdmnofomoadlaaW.PrintWords Go.Proofs.YtcdmnofomoadlaaW.PrintLast
abbrev Sy := Int × List Int × List Int × List Bool
theorem evK {α : Type} {g : Nat → Option α} {r : α} (K : Nat) (h : ∀ k, g (k + K) = some r) : Ev g r := ⟨K, fun k hk => by
  obtain ⟨j, rfl⟩ : ∃ j, k = j + K := ⟨k - K, by omega⟩
  exact h j⟩
/-- The first system, the second ones, the products. -/
def vA : Sy := (3, [0, 1, 2, 1, 2, 2, 2, 2, 2], [0, 0, 0, 0, 1, 2, 0, 2, 2], [true, false, true, false, true, true, false, false, true])
def vB : Nat → Sy
  | 1 => (2, ([0, 1, 1, 1], ([0, 0, 0, 1], [true, true, false, true])))
  | 2 => (3, ([0, 1, 2, 1, 1, 1, 2, 1, 2], ([0, 0, 0, 0, 1, 2, 0, 2, 2], [true, true, true, false, true, false, false, true, true])))
  | _ => (4, ([0, 1, 2, 3, 1, 1, 1, 1, 2, 1, 2, 2, 3, 1, 2, 3], ([0, 0, 0, 0, 0, 1, 2, 3, 0, 2, 2, 3, 0, 3, 3, 3], [true, true, true, true, false, true, false, false, false, true, true, false, false, true, true, true])))
def vP : Nat → Sy
  | 1 => (6, ([0, 1, 2, 3, 4, 5, 1, 5, 1, 5, 5, 5, 2, 1, 2, 1, 5, 5, 3, 5, 1, 4, 4, 5, 4, 5, 5, 4, 4, 5, 5, 5, 5, 5, 5, 5], ([0, 0, 0, 0, 0, 0, 0, 1, 2, 3, 4, 5, 0, 2, 2, 0, 0, 2, 0, 3, 0, 3, 4, 4, 0, 4, 0, 4, 4, 4, 0, 5, 2, 4, 4, 5], [true, false, true, false, true, true, false, true, false, false, false, true, false, false, true, false, false, true, false, true, false, true, true, true, false, false, false, false, true, true, false, false, false, false, false, true])))
  | 2 => (9, ([0, 1, 2, 3, 4, 5, 6, 7, 8, 1, 7, 1, 1, 7, 7, 7, 7, 7, 2, 1, 2, 2, 1, 1, 7, 7, 7, 3, 1, 2, 3, 5, 5, 8, 7, 8, 4, 7, 1, 5, 6, 8, 6, 7, 8, 5, 7, 1, 5, 8, 8, 8, 7, 8, 6, 7, 7, 8, 6, 8, 6, 7, 8, 7, 7, 7, 7, 7, 7, 7, 7, 7, 8, 7, 7, 8, 8, 8, 8, 7, 8], ([0, 0, 0, 0, 0, 0, 0, 0, 0, 0, 1, 2, 3, 4, 5, 6, 7, 8, 0, 2, 2, 3, 0, 3, 0, 2, 3, 0, 3, 3, 3, 0, 3, 0, 3, 3, 0, 4, 0, 0, 4, 4, 6, 6, 6, 0, 5, 3, 3, 4, 5, 6, 8, 8, 0, 6, 0, 0, 6, 6, 6, 6, 6, 0, 7, 2, 3, 6, 8, 6, 7, 8, 0, 8, 3, 3, 6, 8, 6, 8, 8], [true, false, true, true, false, false, true, true, true, false, true, false, false, false, false, false, true, false, false, false, true, false, false, false, false, true, false, false, false, true, true, false, false, false, true, true, false, true, false, false, true, true, true, true, true, false, true, false, false, false, true, false, true, true, false, false, false, false, false, false, true, true, true, false, false, false, false, false, false, false, true, false, false, false, false, false, false, false, false, true, true])))
  | _ => (12, ([0, 1, 2, 3, 4, 5, 6, 7, 8, 9, 10, 11, 1, 9, 1, 1, 1, 9, 9, 9, 9, 9, 9, 9, 2, 1, 2, 2, 2, 1, 1, 1, 9, 9, 9, 9, 3, 1, 2, 3, 3, 6, 6, 6, 10, 9, 10, 10, 4, 1, 2, 3, 4, 7, 6, 7, 11, 9, 10, 11, 5, 9, 1, 6, 7, 8, 10, 11, 8, 9, 10, 11, 6, 9, 1, 6, 6, 10, 10, 10, 10, 9, 10, 10, 7, 9, 1, 6, 7, 11, 10, 11, 11, 9, 10, 11, 8, 9, 9, 10, 11, 8, 10, 11, 8, 9, 10, 11, 9, 9, 9, 9, 9, 9, 9, 9, 9, 9, 9, 9, 10, 9, 9, 10, 10, 10, 10, 10, 10, 9, 10, 10, 11, 9, 9, 10, 11, 11, 10, 11, 11, 9, 10, 11], ([0, 0, 0, 0, 0, 0, 0, 0, 0, 0, 0, 0, 0, 1, 2, 3, 4, 5, 6, 7, 8, 9, 10, 11, 0, 2, 2, 3, 4, 0, 3, 4, 0, 2, 3, 4, 0, 3, 3, 3, 4, 0, 3, 4, 0, 3, 3, 4, 0, 4, 4, 4, 4, 0, 4, 4, 0, 4, 4, 4, 0, 5, 0, 0, 0, 5, 5, 5, 8, 8, 8, 8, 0, 6, 3, 3, 4, 5, 6, 7, 8, 10, 10, 11, 0, 7, 4, 4, 4, 5, 7, 7, 8, 11, 11, 11, 0, 8, 0, 0, 0, 8, 8, 8, 8, 8, 8, 8, 0, 9, 2, 3, 4, 8, 10, 11, 8, 9, 10, 11, 0, 10, 3, 3, 4, 8, 10, 11, 8, 10, 10, 11, 0, 11, 4, 4, 4, 8, 11, 11, 8, 11, 11, 11], [true, false, true, true, true, false, false, false, true, true, true, true, false, true, false, false, false, false, false, false, false, true, false, false, false, false, true, false, false, false, false, false, false, true, false, false, false, false, true, true, false, false, false, false, false, true, true, false, false, false, true, true, true, false, false, false, false, true, true, true, false, true, false, false, false, true, true, true, true, true, true, true, false, true, false, false, false, false, true, false, false, true, true, false, false, true, false, false, false, false, true, true, false, true, true, true, false, false, false, false, false, false, false, false, true, true, true, true, false, false, false, false, false, false, false, false, false, true, false, false, false, false, false, false, false, false, false, false, false, true, true, false, false, false, false, false, false, false, false, false, false, true, true, true])))
def fV (m g : Nat) : Int := (spec_l1First.f ((m + 1 : Nat) : Int) (g : Int)).getD (-1)
def sV (m g : Nat) : Int := (spec_l1Second.f ((m + 1 : Nat) : Int) (g : Int)).getD (-1)
def fL (m : Nat) (i : Nat) : List Int := (List.range i).map (fV m)
def sL (m : Nat) (i : Nat) : List Int := (List.range i).map (sV m)
def jP (m u v : Nat) : Int := joinV (vP m).1 (vP m).2.2.2 (u : Int) (v : Int)
def chk1 (m : Nat) : Bool :=
  decide ((vP m).1 = ((3 * (m + 1) : Nat) : Int)) && decide ((vB m).1 = ((m + 1 : Nat) : Int)) && prodV vA.1 vA.2.1 vA.2.2.1 vA.2.2.2 (vB m).1 (vB m).2.1 (vB m).2.2.1 (vB m).2.2.2 && sysV (vP m).1 (vP m).2.1 (vP m).2.2.1 (vP m).2.2.2
def chk2 (m : Nat) : Bool :=
  (List.range (3 * (m + 1))).all fun g => decide (0 ≤ fV m g ∧ fV m g < 3) && decide (0 ≤ sV m g ∧ sV m g < ((m + 1 : Nat) : Int)) && decide (spec_l1Pair.f ((m + 1 : Nat) : Int) (fV m g) (sV m g) = some (g : Int))
def chk3 (m : Nat) : Bool :=
  mapV (vP m).1 (vP m).2.1 (vP m).2.2.1 (vP m).2.2.2 vA.1 vA.2.1 vA.2.2.1 vA.2.2.2 (fL m (3 * (m + 1))) && mapV (vP m).1 (vP m).2.1 (vP m).2.2.1 (vP m).2.2.2 (vB m).1 (vB m).2.1 (vB m).2.2.1 (vB m).2.2.2 (sL m (3 * (m + 1)))
def chk4 (m : Nat) : Bool :=
  (List.range (3 * (m + 1))).all fun u => (List.range (3 * (m + 1))).all fun v => decide (0 ≤ jP m u v ∧ jP m u v < ((3 * (m + 1) : Nat) : Int)) && decide (fV m (jP m u v).toNat = joinV vA.1 vA.2.2.2 (fV m u) (fV m v)) && decide (sV m (jP m u v).toNat = joinV (vB m).1 (vB m).2.2.2 (sV m u) (sV m v))
theorem c11 : chk1 1 = true := by decide +kernel
theorem c12 : chk1 2 = true := by decide +kernel
theorem c13 : chk1 3 = true := by decide +kernel
theorem c21 : chk2 1 = true := by decide +kernel
theorem c22 : chk2 2 = true := by decide +kernel
theorem c23 : chk2 3 = true := by decide +kernel
theorem c31 : chk3 1 = true := by decide +kernel
theorem c32 : chk3 2 = true := by decide +kernel
theorem c33 : chk3 3 = true := by decide +kernel
theorem c41 : chk4 1 = true := by decide +kernel
theorem c42 : chk4 2 = true := by decide +kernel
theorem c43 : chk4 3 = true := by decide +kernel
theorem evA : Ev (fun k => impl_CountSystem.f k 1) vA := evK 64 fun k => by kernel_rfl
abbrev prodE (m k : Nat) := impl_ProductSystem.f k vA.1 vA.2.1 vA.2.2.1 vA.2.2.2 (vB m).1 (vB m).2.1 (vB m).2.2.1 (vB m).2.2.2
structure Case (m : Nat) : Prop where
  m3 : m ≤ 3
  evB : Ev (fun k => impl_LevelSystem.f k (m : Int)) (vB m)
  evP : Ev (fun k => prodE m k) ((vP m).1, (vP m).2.1, (vP m).2.2.1, (vP m).2.2.2, true)
  c1 : chk1 m = true
  c2 : chk2 m = true
  c3 : chk3 m = true
  c4 : chk4 m = true
theorem case1 : Case 1 := ⟨by decide, evK 64 fun k => by kernel_rfl, evK 400 fun k => by kernel_rfl, c11, c21, c31, c41⟩
theorem case2 : Case 2 := ⟨by decide, evK 64 fun k => by kernel_rfl, evK 400 fun k => by kernel_rfl, c12, c22, c32, c42⟩
theorem case3 : Case 3 := ⟨by decide, evK 64 fun k => by kernel_rfl, evK 400 fun k => by kernel_rfl, c13, c23, c33, c43⟩
theorem rd_map (f : Nat → Int) {n g : Nat} (h : g < n) : rd ((List.range n).map f) (g : Int) = f g := by
  rw [rd_get (by simpa using h)]; simp
theorem joinE {n : Int} {p t : List Int} {b : List Bool} (hs : sysV n p t b = true) {x y : Int} (hx : 0 ≤ x ∧ x < n) (hy : 0 ≤ y ∧ y < n) : Ev (fun k => impl_JoinGrades.f k n p t b x y) (joinV n b x y) := by
  have := implJoinG n p t b x y
  have o := sysV_ok hs
  have e : bothV n p t b x y = true := by
    unfold bothV
    rw [hs, (inV_Rg o).mpr hx, (inV_Rg o).mpr hy]; rfl
  rwa [if_pos e] at this
section
variable {m : Nat} (C : Case m)
include C
theorem two : ∃ L, Two 3 (m + 1) L ∧ prodV vA.1 vA.2.1 vA.2.2.1 vA.2.2.2 (vB m).1 (vB m).2.1 (vB m).2.2.1 (vB m).2.2.2 = true ∧ (vB m).1 = ((m + 1 : Nat) : Int) ∧ (vP m).1 = ((3 * (m + 1) : Nat) : Int) ∧ sysV (vP m).1 (vP m).2.1 (vP m).2.2.1 (vP m).2.2.2 = true := by
  have h := C.c1
  simp only [chk1, Bool.and_eq_true, decide_eq_true_eq] at h
  obtain ⟨o, o', w, x, y, e1, e2, h16, e, L, T⟩ := prod_ok h.1.2
  have ex : x = 3 := by have : vA.1 = 3 := rfl; omega
  have ey : y = m + 1 := by have := h.1.1.2; omega
  subst ex; subst ey
  exact ⟨L, T, h.1.2, h.1.1.2, h.1.1.1, h.2⟩
theorem partsE {g : Nat} (hg : g < 3 * (m + 1)) : Ev (fun k => impl_PartsOfGrade.f k vA.1 vA.2.1 vA.2.2.1 vA.2.2.2 (vB m).1 (vB m).2.1 (vB m).2.2.1 (vB m).2.2.2 (g : Int)) (fV m g, sV m g) := by
  obtain ⟨L, T, hp, hb, _, _⟩ := two C
  have hm := C.m3
  have f1 := T.first g hg
  have f2 := T.second g hg
  have e1 : fV m g = (rdP L g).f0 := by unfold fV; rw [f1]; rfl
  have e2 : sV m g = (rdP L g).f1 := by unfold sV; rw [f2]; rfl
  have ix : inV (g : Int) 0 (wrap64 (wrap64 (vA.1 * (vB m).1) - 1)) = true := by
    rw [hb, show vA.1 = 3 from rfl, w64 (x := (3 : Int) * _) (by omega) (by omega), w64 (by omega) (by omega)]
    unfold inV
    rw [Bool.and_eq_true, decide_eq_true_eq, decide_eq_true_eq]
    omega
  unfold impl_PartsOfGrade.f
  refine Ev.bind implProd ?_
  simp only [hp, if_true, within_eq, Option.bind_some, ix]
  refine Ev.bind (a := L) (by have := T.ev vA.2.1 vA.2.2.1 (vB m).2.1 (vB m).2.2.1 vA.2.2.2 (vB m).2.2.2; rw [← hb] at this; exact this) ?_
  rw [if_pos (by omega), if_pos (by rw [T.len]; omega), e1, e2]
  exact Ev.now _
theorem pairE {g : Nat} (hg : g < 3 * (m + 1)) : Ev (fun k => impl_PairGrades.f k vA.1 vA.2.1 vA.2.2.1 vA.2.2.2 (vB m).1 (vB m).2.1 (vB m).2.2.1 (vB m).2.2.2 (fV m g) (sV m g)) (g : Int) := by
  obtain ⟨L, T, hp, hb, _, _⟩ := two C
  have h := List.all_eq_true.mp C.c2 g (List.mem_range.mpr hg)
  simp only [Bool.and_eq_true, decide_eq_true_eq] at h
  obtain ⟨⟨⟨h1, h2⟩, h3, h4⟩, h5⟩ := h
  unfold impl_PairGrades.f
  refine Ev.bind implProd ?_
  simp only [hp, if_true]
  refine Ev.bind (a := L) (by have := T.ev vA.2.1 vA.2.2.1 (vB m).2.1 (vB m).2.2.1 vA.2.2.2 (vB m).2.2.2; rw [← hb] at this; exact this) ?_
  simp only [Option.bind_fun_some]
  obtain ⟨x, hx⟩ := Int.eq_ofNat_of_zero_le h1
  obtain ⟨y, hy⟩ := Int.eq_ofNat_of_zero_le h3
  rw [hx] at h5 h2 ⊢
  rw [hy] at h5 h4 ⊢
  exact Ev.of (index_more _ _ _) ((T.idx x y (by omega) (by omega)).trans h5)
theorem mapsE : Ev (fun k => impl_IsMap.f k (vP m).1 (vP m).2.1 (vP m).2.2.1 (vP m).2.2.2 vA.1 vA.2.1 vA.2.2.1 vA.2.2.2 (fL m (3 * (m + 1)))) true ∧ Ev (fun k => impl_IsMap.f k (vP m).1 (vP m).2.1 (vP m).2.2.1 (vP m).2.2.2 (vB m).1 (vB m).2.1 (vB m).2.2.1 (vB m).2.2.2 (sL m (3 * (m + 1)))) true := by
  have h := C.c3
  have hm := C.m3
  simp only [chk3, Bool.and_eq_true] at h
  have a := implMap (n := (vP m).1) (p := (vP m).2.1) (t := (vP m).2.2.1) (b := (vP m).2.2.2) (n' := vA.1) (p' := vA.2.1) (t' := vA.2.2.1) (b' := vA.2.2.2) (xs := fL m (3 * (m + 1))) (by unfold fL; simp; omega)
  have b := implMap (n := (vP m).1) (p := (vP m).2.1) (t := (vP m).2.2.1) (b := (vP m).2.2.2) (n' := (vB m).1) (p' := (vB m).2.1) (t' := (vB m).2.2.1) (b' := (vB m).2.2.2) (xs := sL m (3 * (m + 1))) (by unfold sL; simp; omega)
  rw [h.1] at a
  rw [h.2] at b
  exact ⟨a, b⟩
theorem tailE (x0 : List Int) (hx : ∀ i : Int, i = 1 ∨ i = 2 → ∃ u : Int, laws_at0.f x0 i = some u ∧ 0 ≤ u) :
    Ev (fun k => laws_FnProductParts.l0 k x0 (fL m (3 * (m + 1))) (sL m (3 * (m + 1))) ((3 * (m + 1) : Nat) : Int) vA.1 vA.2.1 vA.2.2.1 vA.2.2.2 (vB m).1 (vB m).2.1 (vB m).2.2.1 (vB m).2.2.2 (vP m).1 (vP m).2.1 (vP m).2.2.1 (vP m).2.2.2) true := by
  obtain ⟨L, T, hp, hb, hsz, hsp⟩ := two C
  obtain ⟨o, o', _⟩ := prod_ok hp
  have hsa : sysV vA.1 vA.2.1 vA.2.2.1 vA.2.2.2 = true := by unfold prodV at hp; rw [Bool.and_eq_true] at hp; exact hp.1
  have hsb : sysV (vB m).1 (vB m).2.1 (vB m).2.2.1 (vB m).2.2.2 = true := by unfold prodV at hp; rw [Bool.and_eq_true, Bool.and_eq_true] at hp; exact hp.2.1
  obtain ⟨u, hu, u0⟩ := hx 1 (Or.inl rfl)
  obtain ⟨v, hv, v0⟩ := hx 2 (Or.inr rfl)
  obtain ⟨ma, mb⟩ := mapsE C
  have lf : (fL m (3 * (m + 1))).length = 3 * (m + 1) := by unfold fL; simp
  have ls : (sL m (3 * (m + 1))).length = 3 * (m + 1) := by unfold sL; simp
  have hpos : (0 : Int) < (vP m).1 := by rw [hsz]; omega
  have cu := And.intro (Int.tmod_nonneg (vP m).1 u0) (Int.tmod_lt_of_pos u hpos)
  have cv := And.intro (Int.tmod_nonneg (vP m).1 v0) (Int.tmod_lt_of_pos v hpos)
  refine Ev.step (fun k => by simp only [laws_FnProductParts.l0]; rw [if_neg (by rw [hsz]; omega), hu, Option.bind_some, if_neg (by omega), hv, Option.bind_some]) ?_
  generalize hcu : Int.tmod u (vP m).1 = a at cu
  generalize hcv : Int.tmod v (vP m).1 = c at cv
  obtain ⟨a, rfl⟩ := Int.eq_ofNat_of_zero_le cu.1
  obtain ⟨c, rfl⟩ := Int.eq_ofNat_of_zero_le cv.1
  have ha : a < 3 * (m + 1) := by have := cu.2; rw [hsz] at this; omega
  have hc : c < 3 * (m + 1) := by have := cv.2; rw [hsz] at this; omega
  have ha2 := List.all_eq_true.mp C.c2 a (List.mem_range.mpr ha)
  have hc2 := List.all_eq_true.mp C.c2 c (List.mem_range.mpr hc)
  simp only [Bool.and_eq_true, decide_eq_true_eq] at ha2 hc2
  have h4 := List.all_eq_true.mp (List.all_eq_true.mp C.c4 a (List.mem_range.mpr ha)) c (List.mem_range.mpr hc)
  simp only [Bool.and_eq_true, decide_eq_true_eq] at h4
  obtain ⟨⟨⟨j0, j1⟩, jf⟩, js⟩ := h4
  have jE : Ev (fun k => impl_JoinGrades.f k (vP m).1 (vP m).2.1 (vP m).2.2.1 (vP m).2.2.2 (a : Int) (c : Int)) (jP m a c) := joinE hsp cu cv
  obtain ⟨j, hj⟩ := Int.eq_ofNat_of_zero_le j0
  rw [hj] at jE j1 jf js
  rw [Int.toNat_natCast] at jf js
  refine Ev.bind jE ?_
  refine Ev.bind (partsE C (g := j) (by omega)) ?_
  refine Ev.bind ma ?_
  simp only [if_true]
  refine Ev.bind mb ?_
  simp only [if_true, lf, ls]
  have q1 : (0 : Int) ≤ (a : Int) := by omega
  have q2 : (a : Int) < ((3 * (m + 1) : Nat) : Int) := by omega
  have q3 : (0 : Int) ≤ (c : Int) := by omega
  have q4 : (c : Int) < ((3 * (m + 1) : Nat) : Int) := by omega
  simp only [if_pos q1, if_pos q2, if_pos q3, if_pos q4]
  have r1 : rd (fL m (3 * (m + 1))) (a : Int) = fV m a := rd_map _ ha
  have r2 : rd (fL m (3 * (m + 1))) (c : Int) = fV m c := rd_map _ hc
  have r3 : rd (sL m (3 * (m + 1))) (a : Int) = sV m a := rd_map _ ha
  have r4 : rd (sL m (3 * (m + 1))) (c : Int) = sV m c := rd_map _ hc
  rw [r1, r2, r3, r4]
  refine Ev.bind (joinE hsa ha2.1.1 hc2.1.1) ?_
  simp only [if_pos jf]
  refine Ev.bind (joinE hsb (by rw [hb]; exact ha2.1.2) (by rw [hb]; exact hc2.1.2)) ?_
  have : (sV m j == joinV (vB m).1 (vB m).2.2.2 (sV m a) (sV m c)) = true := beq_iff_eq.mpr js
  simp only [this]
  exact Ev.now _
theorem loopE (x0 : List Int) (hx : ∀ i : Int, i = 1 ∨ i = 2 → ∃ u : Int, laws_at0.f x0 i = some u ∧ 0 ≤ u) : ∀ (d i : Nat), i + d = 3 * (m + 1) →
    Ev (fun k => laws_FnProductParts.l0 k x0 (fL m i) (sL m i) (i : Int) vA.1 vA.2.1 vA.2.2.1 vA.2.2.2 (vB m).1 (vB m).2.1 (vB m).2.2.1 (vB m).2.2.2 (vP m).1 (vP m).2.1 (vP m).2.2.1 (vP m).2.2.2) true := by
  obtain ⟨L, T, hp, hb, hsz, hsp⟩ := two C
  have hm := C.m3
  intro d
  induction d with
  | zero => intro i hi; obtain rfl : i = 3 * (m + 1) := by omega
            exact tailE C x0 hx
  | succ d ih =>
    intro i hi
    have next := ih (i + 1) (by omega)
    have l1 : (fL m i).length = i := by unfold fL; simp
    have l2 : (sL m i).length = i := by unfold sL; simp
    have e1 : fL m (i + 1) = fL m i ++ [fV m i] := by unfold fL; rw [List.range_succ, List.map_append]; rfl
    have e2 : sL m (i + 1) = sL m i ++ [sV m i] := by unfold sL; rw [List.range_succ, List.map_append]; rfl
    refine Ev.step (fun k => by simp only [laws_FnProductParts.l0]; rw [if_pos (by rw [hsz]; omega)]) ?_
    refine Ev.bind (partsE C (g := i) (by omega)) ?_
    refine Ev.bind (pairE C (g := i) (by omega)) ?_
    simp only [if_true, eq_self, l1, l2, if_pos (show i < 17592186044416 by omega)]
    rw [w64 (by omega) (by omega), show (i : Int) + 1 = ((i + 1 : Nat) : Int) by omega, ← e1, ← e2]
    exact next
end
theorem caseOf (x : Int) (h0 : 0 ≤ x) : ∃ m : Nat, wrap64 (1 + Int.tmod x 3) = (m : Int) ∧ Case m := by
  have h1 := Int.tmod_nonneg 3 h0
  have h2 := Int.tmod_lt_of_pos x (show (0 : Int) < 3 by omega)
  rw [w64 (by omega) (by omega)]
  have : Int.tmod x 3 = 0 ∨ Int.tmod x 3 = 1 ∨ Int.tmod x 3 = 2 := by omega
  rcases this with h | h | h
  · exact ⟨1, by rw [h]; rfl, case1⟩
  · exact ⟨2, by rw [h]; rfl, case2⟩
  · exact ⟨3, by rw [h]; rfl, case3⟩
theorem at0 (l : List Int) (hl : ∀ z ∈ l, (Lit.int .u8 z).wf = true) (hn : l.length ≤ 1048576) (i : Int) (h0 : 0 ≤ i) (h1 : i ≤ 2) : ∃ u : Int, laws_at0.f l i = some u ∧ 0 ≤ u := by
  unfold laws_at0.f
  by_cases c : i < (l.length : Int)
  · rw [if_pos c, if_pos h0]
    obtain ⟨j, rfl⟩ := Int.eq_ofNat_of_zero_le h0
    have hj : j < l.length := by omega
    rw [rd_get hj]
    have := hl _ (List.getElem_mem hj)
    simp [Lit.wf, IntKind.min, IntKind.max, IntKind.signed, IntKind.bits] at this
    exact ⟨_, rfl, by rw [w64 (by omega) (by omega)]; exact this.1⟩
  · rw [if_neg c, w64 (x := i * 7) (by omega) (by omega), w64 (by omega) (by omega)]
    exact ⟨_, rfl, Int.tmod_nonneg 256 (by omega)⟩
theorem FnProductParts : laws_FnProductParts.Pure := by
  intro l hl
  refine evRounds ?_
  unfold laws_FnProductParts.f
  by_cases c : (l.length : Int) > 1048576
  · simp only [laws_big.f, Option.bind_some, decide_eq_true c, if_true]
    exact Ev.now _
  · simp only [laws_big.f, Option.bind_some, decide_eq_false c, Bool.false_eq_true, if_false]
    have hn : l.length ≤ 1048576 := by omega
    refine Ev.bind evA ?_
    obtain ⟨u, hu, u0⟩ := at0 l hl.1 hn 0 (by omega) (by omega)
    simp only [hu, Option.bind_some]
    obtain ⟨m, hm, C⟩ := caseOf u u0
    rw [hm]
    refine Ev.bind C.evB ?_
    refine Ev.bind C.evP ?_
    simp only [if_true]
    exact loopE C l (fun i hi => at0 l hl.1 hn i (by omega) (by omega)) (3 * (m + 1)) 0 (by omega)
end Go.Proofs.Ytcdmnofomoadlaa.Pure
