-- Several texts in one (wip/tools/merge.py).
import Derived.Test.YtjjkagnbdfofbaaM12
import Derived.Test.YtjjkagnbdfofbaaPf19
import Derived.Test.YtjjkagnbdfofbaaM6
section
/- Systems. -/
set_option linter.unusedSimpArgs false
set_option linter.unusedVariables false
namespace Go.Proofs.Ytjjkagnbdfofbaa.Pure
open Go.RowKit Go.Proofs.Ytjjkagnbdfofbaa.P Go.Proofs.YtjjkagnbdfofbaaW.PrintWords Go.Proofs.YtjjkagnbdfofbaaW.PrintLast
def Rg (n x : Int) : Prop := 0 ≤ x ∧ x < n
structure OK (n : Int) (p t : List Int) (b : List Bool) : Prop where
  lo : 2 ≤ n
  hi : n ≤ 16
  lp : (p.length : Int) = n * n
  lt : (t.length : Int) = n * n
  lb : (b.length : Int) = n * n
  rp : ∀ i, 0 ≤ i → i < n * n → Rg n (rd p i)
  rt : ∀ i, 0 ≤ i → i < n * n → Rg n (rd t i)
def A (n : Int) (p : List Int) (x y : Int) : Int := rd p (x * n + y)
def L (n : Int) (b : List Bool) (x y : Int) : Bool := rdOf false b (x * n + y)
section
variable {n : Int} {p t : List Int} {b : List Bool}
theorem at_range (h : OK n p t b) {x y : Int} (hx : Rg n x) (hy : Rg n y) : wrap64 (wrap64 (x * n) + y) = x * n + y ∧ 0 ≤ x * n + y ∧ x * n + y < n * n := by
  have h1 : 0 ≤ x * n := Int.mul_nonneg hx.1 (by have := h.lo; omega)
  have h2 : (x + 1) * n ≤ n * n := Int.mul_le_mul_of_nonneg_right (by have := hx.2; omega) (by have := h.lo; omega)
  have h3 : n * n ≤ 16 * 16 := Int.mul_le_mul h.hi h.hi (by have := h.lo; omega) (by decide)
  rw [Int.add_mul] at h2
  have := hy.1; have := hy.2
  have e : x * n ≤ 4611686018427387904 := by omega
  rw [w64 (x := x * n) (by omega) (by omega), w64 (by omega) (by omega)]
  exact ⟨rfl, by omega, by omega⟩
theorem A_in (h : OK n p t b) {x y : Int} (hx : Rg n x) (hy : Rg n y) : Rg n (A n p x y) := by
  obtain ⟨_, h1, h2⟩ := at_range h hx hy
  exact h.rp _ h1 h2
theorem M_in (h : OK n p t b) {x y : Int} (hx : Rg n x) (hy : Rg n y) : Rg n (A n t x y) := by
  obtain ⟨_, h1, h2⟩ := at_range h hx hy
  exact h.rt _ h1 h2
theorem add_eq (h : OK n p t b) {x y : Int} (hx : Rg n x) (hy : Rg n y) : spec_l1Add.f n p t b x y = some (A n p x y) := by
  obtain ⟨e, h1, h2⟩ := at_range h hx hy
  unfold spec_l1Add.f
  rw [e, if_pos h1, if_pos (by rw [h.lp]; exact h2)]; rfl
theorem mul_eq (h : OK n p t b) {x y : Int} (hx : Rg n x) (hy : Rg n y) : spec_l1Mul.f n p t b x y = some (A n t x y) := by
  obtain ⟨e, h1, h2⟩ := at_range h hx hy
  unfold spec_l1Mul.f
  rw [e, if_pos h1, if_pos (by rw [h.lt]; exact h2)]; rfl
theorem le_eq (h : OK n p t b) {x y : Int} (hx : Rg n x) (hy : Rg n y) : spec_l1Le.f n p t b x y = some (L n b x y) := by
  obtain ⟨e, h1, h2⟩ := at_range h hx hy
  unfold spec_l1Le.f
  rw [e, if_pos h1, if_pos (by rw [h.lb]; exact h2)]; rfl
theorem plus_is : impl_System_plus.f = spec_l1Add.f := rfl
theorem times_is : impl_System_times.f = spec_l1Mul.f := rfl
theorem below_is : impl_System_below.f = spec_l1Le.f := rfl
theorem has_eq (x : Int) : impl_System_has.f n p t b x = some (inV x 0 (wrap64 (n - 1))) := by
  unfold impl_System_has.f; rw [within_eq]; rfl
theorem Rg_zero (h : OK n p t b) : Rg n 0 := ⟨by omega, by have := h.lo; omega⟩
theorem Rg_one (h : OK n p t b) : Rg n 1 := ⟨by omega, by have := h.lo; omega⟩
theorem inV_Rg (h : OK n p t b) {x : Int} : inV x 0 (wrap64 (n - 1)) = true ↔ Rg n x := by
  have := h.lo; have := h.hi
  unfold inV Rg
  rw [w64 (by omega) (by omega), Bool.and_eq_true, decide_eq_true_eq, decide_eq_true_eq]
  omega
def jAll (n : Int) (b : List Bool) (x y z : Int) : Int → Nat → Bool
  | _, 0 => true
  | w, m + 1 => (!(L n b x w && L n b y w) || L n b z w) && jAll n b x y z (w + 1) m
def jg (n : Int) (b : List Bool) (x y z : Int) : Option Int := if (L n b x z && L n b y z && jAll n b x y z 0 n.toNat) = true then some z else none
def joinV (n : Int) (b : List Bool) (x y : Int) : Int := (findO (jg n b x y) 0 n.toNat).getD (-1)
theorem specJoin_in (h : OK n p t b) {x y z : Int} (hx : Rg n x) (hy : Rg n y) (hz : Rg n z) {r : Int} (hr : Ev (fun k => spec_l1Join.l0 k x y (z + 1) n p t b) r) :
    ∀ (m : Nat) (w : Int) (ok : Bool), 0 ≤ w → w + m = n → Ev (fun k => spec_l1Join.l1 k x y z ok w n p t b) (if (ok && jAll n b x y z w m) = true then z else r)
  | 0, w, ok, h0, hw => by
    refine Ev.step (f := fun k => spec_l1Join.j3 k x y z ok w false n p t b) (fun k => ?_) (Ev.step (f := fun k => if ok = true then some z else spec_l1Join.l0 k x y (z + 1) n p t b) (fun k => ?_) ?_)
    · simp only [spec_l1Join.l1]; rw [if_neg (by omega)]
    · simp only [spec_l1Join.j3]; rw [if_neg (by decide), w64 (by have := hz.1; omega) (by have := hz.2; have := h.hi; omega)]
    · cases ok
      · simpa [jAll] using hr
      · simpa [jAll] using Ev.now z
  | m + 1, w, ok, h0, hw => by
    have hw' : Rg n w := ⟨h0, by omega⟩
    have e1 : wrap64 (w + 1) = w + 1 := w64 (by omega) (by have := h.hi; omega)
    have e2 : wrap64 (z + 1) = z + 1 := w64 (by have := hz.1; omega) (by have := hz.2; have := h.hi; omega)
    have ih := specJoin_in h hx hy hz hr m (w + 1)
    cases ok
    · refine Ev.step (f := fun k => spec_l1Join.j3 k x y z false w false n p t b) (fun k => ?_) (Ev.step (f := fun k => spec_l1Join.l0 k x y (z + 1) n p t b) (fun k => ?_) ?_)
      · simp only [spec_l1Join.l1]; rw [if_pos (by omega)]
      · simp only [spec_l1Join.j3]; rw [if_neg (by decide), if_neg (by decide), e2]
      · simpa using hr
    · refine Ev.step (f := fun k => spec_l1Join.j3 k x y z true w true n p t b) (fun k => ?_) (Ev.step (f := fun k => spec_l1Join.l1 k x y z (!(L n b x w && L n b y w) || L n b z w) (w + 1) n p t b) (fun k => ?_) ?_)
      · simp only [spec_l1Join.l1]; rw [if_pos (by omega)]
      · simp only [spec_l1Join.j3, le_eq h hx hw', le_eq h hy hw', le_eq h hz hw', Option.bind_some, e1, if_true]
        cases L n b x w <;> cases L n b y w <;> simp
      · have := ih (!(L n b x w && L n b y w) || L n b z w) (by omega) (by omega)
        simpa [jAll] using this
theorem specJoin (h : OK n p t b) {x y : Int} (hx : Rg n x) (hy : Rg n y) : Ev (fun k => spec_l1Join.f k n p t b x y) (joinV n b x y) := by
  unfold spec_l1Join.f
  refine loop0 (F := fun k z => spec_l1Join.l0 k x y z n p t b) (by have := h.lo; omega) ?_ ?_
  · refine Ev.step (f := fun _ => some (-1)) (fun k => ?_) (Ev.now _)
    simp only [spec_l1Join.l0]; rw [if_neg (by omega)]
  · intro z h0 h1 r hr
    have hz : Rg n z := ⟨h0, h1⟩
    have := specJoin_in h hx hy hz hr n.toNat 0 (L n b x z && L n b y z) (by omega) (by omega)
    refine Ev.step (f := fun k => spec_l1Join.j1 k x y z (L n b x z && L n b y z) n p t b) (fun k => ?_) (Ev.step (f := fun k => spec_l1Join.l1 k x y z (L n b x z && L n b y z) 0 n p t b) (fun k => ?_) ?_)
    · simp only [spec_l1Join.l0, le_eq h hx hz, le_eq h hy hz, Option.bind_some]
      rw [if_pos h1]
      cases L n b x z <;> simp
    · simp only [spec_l1Join.j1]
    · unfold jg
      revert this
      cases (L n b x z && L n b y z && jAll n b x y z 0 n.toNat) <;> simp
theorem implJoin_in (h : OK n p t b) {x y z : Int} (hx : Rg n x) (hy : Rg n y) (hz : Rg n z) {r : Int} (hr : Ev (fun k => impl_System_join.l0 k x y (z + 1) n p t b) r) :
    ∀ (m : Nat) (w : Int) (ok : Bool), 0 ≤ w → w + m = n → Ev (fun k => impl_System_join.l1 k x y z ok w n p t b) (if (ok && jAll n b x y z w m) = true then z else r)
  | 0, w, ok, h0, hw => by
    refine Ev.step (f := fun k => if ok = true then some z else impl_System_join.l0 k x y (z + 1) n p t b) (fun k => ?_) ?_
    · simp only [impl_System_join.l1]; rw [if_neg (by omega), w64 (by have := hz.1; omega) (by have := hz.2; have := h.hi; omega)]
    · cases ok
      · simpa [jAll] using hr
      · simpa [jAll] using Ev.now z
  | m + 1, w, ok, h0, hw => by
    have hw' : Rg n w := ⟨h0, by omega⟩
    have e1 : wrap64 (w + 1) = w + 1 := w64 (by omega) (by have := h.hi; omega)
    have ih := implJoin_in h hx hy hz hr m (w + 1)
    cases ok
    · refine Ev.step (f := fun k => impl_System_join.l1 k x y z false (w + 1) n p t b) (fun k => ?_) ?_
      · simp only [impl_System_join.l1]; rw [if_pos (by omega), if_neg (by decide), e1]
      · simpa using ih false (by omega) (by omega)
    · refine Ev.step (f := fun k => impl_System_join.l1 k x y z (!(L n b x w && L n b y w) || L n b z w) (w + 1) n p t b) (fun k => ?_) ?_
      · simp only [impl_System_join.l1, below_is, le_eq h hx hw', le_eq h hy hw', le_eq h hz hw', Option.bind_some, e1, if_true]
        rw [if_pos (by omega)]
        cases L n b x w <;> cases L n b y w <;> simp
      · have := ih (!(L n b x w && L n b y w) || L n b z w) (by omega) (by omega)
        simpa [jAll] using this
theorem implJoin (h : OK n p t b) {x y : Int} (hx : Rg n x) (hy : Rg n y) : Ev (fun k => impl_System_join.f k n p t b x y) (joinV n b x y) := by
  unfold impl_System_join.f
  refine loop0 (F := fun k z => impl_System_join.l0 k x y z n p t b) (by have := h.lo; omega) ?_ ?_
  · refine Ev.step (f := fun _ => some (-1)) (fun k => ?_) (Ev.now _)
    simp only [impl_System_join.l0]; rw [if_neg (by omega)]
  · intro z h0 h1 r hr
    have hz : Rg n z := ⟨h0, h1⟩
    have e2 : wrap64 (z + 1) = z + 1 := w64 (by omega) (by have := h.hi; omega)
    have := implJoin_in h hx hy hz hr n.toNat 0 true (by omega) (by omega)
    refine Ev.step (f := fun k => impl_System_join.j1 k x y z (!(L n b x z && L n b y z)) n p t b) (fun k => ?_) (Ev.step (f := fun k => if (L n b x z && L n b y z) = true then impl_System_join.l1 k x y z true 0 n p t b else impl_System_join.l0 k x y (z + 1) n p t b) (fun k => ?_) ?_)
    · simp only [impl_System_join.l0, below_is, le_eq h hx hz, le_eq h hy hz, Option.bind_some]
      rw [if_pos h1]
      cases L n b x z <;> simp
    · simp only [impl_System_join.j1, e2]
      cases (L n b x z && L n b y z) <;> simp
    · unfold jg
      revert this
      cases (L n b x z && L n b y z)
      · simp; exact fun _ => hr
      · cases (jAll n b x y z 0 n.toNat) <;> simp
def oneV (n : Int) (p t : List Int) (b : List Bool) (x : Int) : Bool :=
  decide (A n p 0 x = x) && decide (A n t 1 x = x) && decide (A n t x 1 = x) && decide (A n t 0 x = 0) && decide (A n t x 0 = 0) && L n b x x
def twoV (n : Int) (p : List Int) (b : List Bool) (x y : Int) : Bool :=
  decide (A n p x y = A n p y x) && !(decide (x ≠ y) && L n b x y && L n b y x) && decide (joinV n b x y ≥ 0)
def threeV (n : Int) (p t : List Int) (b : List Bool) (x y z : Int) : Bool :=
  decide (A n p (A n p x y) z = A n p x (A n p y z)) && decide (A n t (A n t x y) z = A n t x (A n t y z)) &&
  decide (A n t x (A n p y z) = A n p (A n t x y) (A n t x z)) && decide (A n t (A n p x y) z = A n p (A n t x z) (A n t y z)) &&
  (!L n b x y || ((!L n b y z || L n b x z) && L n b (A n p x z) (A n p y z) && L n b (A n t x z) (A n t y z) && L n b (A n t z x) (A n t z y)))
theorem specOne (h : OK n p t b) {x : Int} (hx : Rg n x) : spec_l1One.f n p t b x = some (oneV n p t b x) := by
  have h0 := Rg_zero h
  have h1 := Rg_one h
  unfold spec_l1One.f oneV
  simp only [add_eq h h0 hx, mul_eq h h1 hx, mul_eq h hx h1, mul_eq h h0 hx, mul_eq h hx h0, le_eq h hx hx, Option.bind_some]
  repeat' split
  all_goals simp_all
theorem specTwo (h : OK n p t b) {x y : Int} (hx : Rg n x) (hy : Rg n y) : Ev (fun k => spec_l1Two.f k n p t b x y) (twoV n p b x y) := by
  obtain ⟨K, hj⟩ := specJoin h hx hy
  refine ⟨K, fun k hk => ?_⟩
  unfold spec_l1Two.f twoV
  simp only [add_eq h hx hy, add_eq h hy hx, le_eq h hx hy, le_eq h hy hx, hj k hk, Option.bind_some]
  repeat' split
  all_goals simp_all
theorem specThree (h : OK n p t b) {x y z : Int} (hx : Rg n x) (hy : Rg n y) (hz : Rg n z) : Ev (fun k => spec_l1Three.f k n p t b x y z) (threeV n p t b x y z) := by
  refine ⟨3, fun k hk => ?_⟩
  obtain ⟨k, rfl⟩ : ∃ m, k = m + 3 := ⟨k - 3, by omega⟩
  have a1 := A_in h hx hy
  have a2 := A_in h hy hz
  have a3 := A_in h hx hz
  have m1 := M_in h hx hy
  have m2 := M_in h hy hz
  have m3 := M_in h hx hz
  have m4 := M_in h hz hx
  have m5 := M_in h hz hy
  unfold spec_l1Three.f threeV
  simp only [spec_l1Three.j0, spec_l1Three.j1, spec_l1Three.j2, add_eq h hx hy, add_eq h hy hz, add_eq h hx hz, mul_eq h hx hy, mul_eq h hy hz, mul_eq h hx hz, mul_eq h hz hx, mul_eq h hz hy,
    add_eq h a1 hz, add_eq h hx a2, mul_eq h m1 hz, mul_eq h hx m2, mul_eq h hx a2, add_eq h m1 m3, mul_eq h a1 hz, add_eq h m3 m2, le_eq h hx hy, le_eq h hy hz, le_eq h hx hz, le_eq h a3 a2, le_eq h m3 m2, le_eq h m4 m5, Option.bind_some]
  generalize L n b x y = q1
  generalize L n b y z = q2
  generalize L n b x z = q3
  generalize L n b (A n p x z) (A n p y z) = q4
  generalize L n b (A n t x z) (A n t y z) = q5
  generalize L n b (A n t z x) (A n t z y) = q6
  by_cases c1 : A n p (A n p x y) z = A n p x (A n p y z)
  · by_cases c2 : A n t (A n t x y) z = A n t x (A n t y z)
    · by_cases c3 : A n t x (A n p y z) = A n p (A n t x y) (A n t x z)
      · by_cases c4 : A n t (A n p x y) z = A n p (A n t x z) (A n t y z)
        · simp only [c1, c2, c3, c4]
          cases q1 <;> cases q2 <;> cases q3 <;> cases q4 <;> cases q5 <;> cases q6 <;> simp
        · simp [c1, c2, c3, c4]
      · simp [c1, c2, c3]
    · simp [c1, c2]
  · simp [c1]
theorem implThree (h : OK n p t b) {x y z : Int} (hx : Rg n x) (hy : Rg n y) (hz : Rg n z) : Ev (fun k => impl_System_lawsOf.f k n p t b x y z) (threeV n p t b x y z) := by
  refine ⟨3, fun k hk => ?_⟩
  obtain ⟨k, rfl⟩ : ∃ m, k = m + 3 := ⟨k - 3, by omega⟩
  have a1 := A_in h hx hy
  have a2 := A_in h hy hz
  have a3 := A_in h hx hz
  have m1 := M_in h hx hy
  have m2 := M_in h hy hz
  have m3 := M_in h hx hz
  have m4 := M_in h hz hx
  have m5 := M_in h hz hy
  unfold impl_System_lawsOf.f threeV
  simp only [impl_System_lawsOf.j0, impl_System_lawsOf.j1, impl_System_lawsOf.j2, plus_is, times_is, below_is, add_eq h hx hy, add_eq h hy hz, add_eq h hx hz, mul_eq h hx hy, mul_eq h hy hz, mul_eq h hx hz, mul_eq h hz hx, mul_eq h hz hy,
    add_eq h a1 hz, add_eq h hx a2, mul_eq h m1 hz, mul_eq h hx m2, mul_eq h hx a2, add_eq h m1 m3, mul_eq h a1 hz, add_eq h m3 m2, le_eq h hx hy, le_eq h hy hz, le_eq h hx hz, le_eq h a3 a2, le_eq h m3 m2, le_eq h m4 m5, Option.bind_some]
  generalize L n b x y = q1
  generalize L n b y z = q2
  generalize L n b x z = q3
  generalize L n b (A n p x z) (A n p y z) = q4
  generalize L n b (A n t x z) (A n t y z) = q5
  generalize L n b (A n t z x) (A n t z y) = q6
  by_cases c1 : A n p (A n p x y) z = A n p x (A n p y z)
  · by_cases c2 : A n t (A n t x y) z = A n t x (A n t y z)
    · by_cases c3 : A n t x (A n p y z) = A n p (A n t x y) (A n t x z)
      · by_cases c4 : A n t (A n p x y) z = A n p (A n t x z) (A n t y z)
        · simp only [c1, c2, c3, c4]
          cases q1 <;> cases q2 <;> cases q3 <;> cases q4 <;> cases q5 <;> cases q6 <;> simp
        · simp [c1, c2, c3, c4]
      · simp [c1, c2, c3]
    · simp [c1, c2]
  · simp [c1]
/-- What the laws of a system find: none, if all hold. -/
def g2 (n : Int) (p t : List Int) (b : List Bool) (x y z : Int) : Option Bool := if threeV n p t b x y z = true then none else some false
def g1 (n : Int) (p t : List Int) (b : List Bool) (x y : Int) : Option Bool := if twoV n p b x y = true then findO (g2 n p t b x y) 0 n.toNat else some false
def g0 (n : Int) (p t : List Int) (b : List Bool) (x : Int) : Option Bool := if oneV n p t b x = true then findO (g1 n p t b x) 0 n.toNat else some false
def lawsV (n : Int) (p t : List Int) (b : List Bool) : Bool := (findO (g0 n p t b) 0 n.toNat).getD true
theorem specLaws (h : OK n p t b) : Ev (fun k => spec_IsSystem.l0 k 0 n p t b) (lawsV n p t b) := by
  have hn : 0 ≤ n := by have := h.lo; omega
  have up : ∀ x, 0 ≤ x → x < n → wrap64 (x + 1) = x + 1 := fun x h0 h1 => w64 (by omega) (by have := h.hi; omega)
  refine loop0 (F := fun k x => spec_IsSystem.l0 k x n p t b) hn ?_ ?_
  · refine Ev.step (f := fun _ => some true) (fun k => ?_) (Ev.now _)
    simp only [spec_IsSystem.l0]; rw [if_neg (by omega)]
  · intro x x0 x1 r hr
    have hx : Rg n x := ⟨x0, x1⟩
    refine Ev.step (f := fun k => if oneV n p t b x = true then spec_IsSystem.l1 k x 0 n p t b else some false) (fun k => ?_) ?_
    · simp only [spec_IsSystem.l0, specOne h hx, Option.bind_some]; rw [if_pos x1]
    · unfold g0
      cases oneV n p t b x
      · simpa using Ev.now false
      · simp only [if_true]
        refine loop0 (F := fun k y => spec_IsSystem.l1 k x y n p t b) hn ?_ ?_
        · refine Ev.step (fun k => ?_) hr
          simp only [spec_IsSystem.l1]; rw [if_neg (by omega), up x x0 x1]
        · intro y y0 y1 r hr
          have hy : Rg n y := ⟨y0, y1⟩
          refine Ev.step (f := fun k => (spec_l1Two.f k n p t b x y).bind fun v => if v = true then spec_IsSystem.l2 k x y 0 n p t b else some false) (fun k => ?_) (Ev.bind (specTwo h hx hy) ?_)
          · simp only [spec_IsSystem.l1]; rw [if_pos y1]
          · unfold g1
            cases twoV n p b x y
            · simpa using Ev.now false
            · simp only [if_true]
              refine loop0 (F := fun k z => spec_IsSystem.l2 k x y z n p t b) hn ?_ ?_
              · refine Ev.step (fun k => ?_) hr
                simp only [spec_IsSystem.l2]; rw [if_neg (by omega), up y y0 y1]
              · intro z z0 z1 r hr
                have hz : Rg n z := ⟨z0, z1⟩
                refine Ev.step (f := fun k => (spec_l1Three.f k n p t b x y z).bind fun v => if v = true then spec_IsSystem.l2 k x y (z + 1) n p t b else some false) (fun k => ?_) (Ev.bind (specThree h hx hy hz) ?_)
                · simp only [spec_IsSystem.l2]; rw [if_pos z1, up z z0 z1]
                · unfold g2
                  cases threeV n p t b x y z
                  · simpa using Ev.now false
                  · simpa using hr
theorem implLaws (h : OK n p t b) : Ev (fun k => impl_IsSystem.l1 k n 0 n p t b) (lawsV n p t b) := by
  have hn : 0 ≤ n := by have := h.lo; omega
  have up : ∀ x, 0 ≤ x → x < n → wrap64 (x + 1) = x + 1 := fun x h0 h1 => w64 (by omega) (by have := h.hi; omega)
  have h0 := Rg_zero h
  have h1 := Rg_one h
  refine loop0 (F := fun k x => impl_IsSystem.l1 k n x n p t b) hn ?_ ?_
  · refine Ev.step (f := fun _ => some true) (fun k => ?_) (Ev.now _)
    simp only [impl_IsSystem.l1]; rw [if_neg (by omega)]
  · intro x x0 x1 r hr
    have hx : Rg n x := ⟨x0, x1⟩
    refine Ev.step (f := fun k => impl_IsSystem.j3 k n x (!oneV n p t b x) n p t b) (fun k => ?_) (Ev.step (f := fun k => if oneV n p t b x = true then impl_IsSystem.l2 k n x 0 n p t b else some false) (fun k => ?_) ?_)
    · simp only [impl_IsSystem.l1, plus_is, times_is, below_is, add_eq h h0 hx, mul_eq h h1 hx, mul_eq h hx h1, mul_eq h h0 hx, mul_eq h hx h0, le_eq h hx hx, Option.bind_some]
      rw [if_pos x1]
      unfold oneV
      repeat' split
      all_goals simp_all
    · simp only [impl_IsSystem.j3]
      cases oneV n p t b x <;> simp
    · unfold g0
      cases oneV n p t b x
      · simpa using Ev.now false
      · simp only [if_true]
        refine loop0 (F := fun k y => impl_IsSystem.l2 k n x y n p t b) hn ?_ ?_
        · refine Ev.step (fun k => ?_) hr
          simp only [impl_IsSystem.l2]; rw [if_neg (by omega), up x x0 x1]
        · intro y y0 y1 r hr
          have hy : Rg n y := ⟨y0, y1⟩
          obtain ⟨K, hj⟩ := implJoin h hx hy
          have key : Ev (fun k => impl_IsSystem.j5 k n x y (!twoV n p b x y) n p t b) ((g1 n p t b x y).getD r) := by
            refine Ev.step (f := fun k => if twoV n p b x y = true then impl_IsSystem.l3 k n x y 0 n p t b else some false) (fun k => ?_) ?_
            · simp only [impl_IsSystem.j5]
              cases twoV n p b x y <;> simp
            · unfold g1
              cases twoV n p b x y
              · simpa using Ev.now false
              · simp only [if_true]
                refine loop0 (F := fun k z => impl_IsSystem.l3 k n x y z n p t b) hn ?_ ?_
                · refine Ev.step (fun k => ?_) hr
                  simp only [impl_IsSystem.l3]; rw [if_neg (by omega), up y y0 y1]
                · intro z z0 z1 r hr
                  have hz : Rg n z := ⟨z0, z1⟩
                  refine Ev.step (f := fun k => (impl_System_lawsOf.f k n p t b x y z).bind fun v => if v = true then impl_IsSystem.l3 k n x y (z + 1) n p t b else some false) (fun k => ?_) (Ev.bind (implThree h hx hy hz) ?_)
                  · simp only [impl_IsSystem.l3]; rw [if_pos z1, up z z0 z1]
                  · unfold g2
                    cases threeV n p t b x y z
                    · simpa using Ev.now false
                    · simpa using hr
          obtain ⟨K', hk⟩ := key
          refine ⟨K + K' + 1, fun k hkk => ?_⟩
          obtain ⟨k, rfl⟩ : ∃ m, k = m + 1 := ⟨k - 1, by omega⟩
          rw [← hk k (by omega)]
          simp only [impl_IsSystem.l2, plus_is, below_is, add_eq h hx hy, add_eq h hy hx, le_eq h hx hy, le_eq h hy hx, hj k (by omega), Option.bind_some]
          rw [if_pos y1]
          unfold twoV
          have en : ∀ j : Int, decide (j < 0) = !decide (j ≥ 0) := fun j => by
            by_cases c : j < 0
            · rw [decide_eq_true c, decide_eq_false (by omega)]; rfl
            · rw [decide_eq_false c, decide_eq_true (by omega)]; rfl
          rw [en]
          generalize joinV n b x y = j
          generalize L n b x y = q1
          generalize L n b y x = q2
          by_cases c1 : A n p x y = A n p y x
          · by_cases c2 : x = y
            · simp [c1, c2]
            · cases q1 <;> cases q2 <;> simp [c1, c2]
          · simp [c1]
def gt (n : Int) (p t : List Int) (i : Int) : Option Bool := if (inV (rd p i) 0 (wrap64 (n - 1)) && inV (rd t i) 0 (wrap64 (n - 1))) = true then none else some false
def preV (n : Int) (p t : List Int) (b : List Bool) : Bool :=
  inV n 2 16 && (decide ((p.length : Int) = wrap64 (n * n)) && decide ((t.length : Int) = wrap64 (n * n)) && decide ((b.length : Int) = wrap64 (n * n)))
/-- What IsSystem tells. -/
def sysV (n : Int) (p t : List Int) (b : List Bool) : Bool :=
  if preV n p t b = true then (if findO (gt n p t) 0 p.length = none then lawsV n p t b else false) else false
theorem pre_facts (h : preV n p t b = true) : 2 ≤ n ∧ n ≤ 16 ∧ (p.length : Int) = n * n ∧ (t.length : Int) = n * n ∧ (b.length : Int) = n * n ∧ n * n ≤ 256 := by
  unfold preV inV at h
  simp only [Bool.and_eq_true, decide_eq_true_eq] at h
  obtain ⟨⟨h1, h2⟩, ⟨h3, h4⟩, h5⟩ := h
  have h6 : n * n ≤ 16 * 16 := Int.mul_le_mul h2 h2 (by omega) (by decide)
  have h7 : 0 ≤ n * n := Int.mul_nonneg (by omega) (by omega)
  rw [w64 (by omega) (by omega)] at h3 h4 h5
  exact ⟨h1, h2, h3, h4, h5, by omega⟩
theorem ok_of (h : preV n p t b = true) (hf : findO (gt n p t) 0 p.length = none) : OK n p t b := by
  obtain ⟨h1, h2, h3, h4, h5, h6⟩ := pre_facts h
  have hb : ∀ x, inV x 0 (wrap64 (n - 1)) = true → Rg n x := fun x hx => by
    unfold inV at hx
    rw [w64 (by omega) (by omega)] at hx
    simp only [Bool.and_eq_true, decide_eq_true_eq] at hx
    exact ⟨hx.1, by omega⟩
  have hg : ∀ i, 0 ≤ i → i < n * n → (inV (rd p i) 0 (wrap64 (n - 1)) && inV (rd t i) 0 (wrap64 (n - 1))) = true := fun i h0 h1 => by
    have := findO_none _ _ hf i h0 (by omega)
    unfold gt at this
    split at this
    · assumption
    · exact absurd this (by simp)
  exact ⟨h1, h2, h3, h4, h5, fun i h0 h1 => hb _ ((Bool.and_eq_true _ _).mp (hg i h0 h1)).1, fun i h0 h1 => hb _ ((Bool.and_eq_true _ _).mp (hg i h0 h1)).2⟩
theorem sysV_ok (h : sysV n p t b = true) : OK n p t b := by
  unfold sysV at h
  split at h
  · split at h
    · exact ok_of (by assumption) (by assumption)
    · cases h
  · cases h
theorem gt_getD (x : Int) (r : Bool) : (gt n p t x).getD r = if (inV (rd p x) 0 (wrap64 (n - 1)) && inV (rd t x) 0 (wrap64 (n - 1))) = true then r else false := by
  unfold gt; split <;> rfl
theorem gt_find (m : Nat) (x : Int) (e : Bool) : (findO (gt n p t) x m).getD e = if findO (gt n p t) x m = none then e else false := by
  cases c : findO (gt n p t) x m with
  | none => simp
  | some v =>
    have : ∀ (m : Nat) (x : Int), findO (gt n p t) x m = some v → v = false := by
      intro m
      induction m with
      | zero => intro x hx; cases hx
      | succ m ih =>
        intro x hx
        have hx' : (gt n p t x).or (findO (gt n p t) (x + 1) m) = some v := hx
        by_cases c : gt n p t x = none
        · rw [c] at hx'; exact ih (x + 1) hx'
        · unfold gt at hx' c
          split at hx'
          · next h => rw [if_pos h] at c; exact absurd rfl c
          · exact (Option.some.inj hx').symm
    simp [this m x c]
theorem specTables (n : Int) (p t : List Int) (b : List Bool) : Ev (fun k => spec_l1Tables.f k n p t b) (if preV n p t b = true then (if findO (gt n p t) 0 p.length = none then true else false) else false) := by
  unfold spec_l1Tables.f
  by_cases hp : preV n p t b = true
  · obtain ⟨h1, h2, h3, h4, h5, h6⟩ := pre_facts hp
    rw [if_pos hp]
    have e : wrap64 (n * n) = n * n := w64 (by omega) (by omega)
    have hin : inV n 2 16 = true := by unfold preV at hp; exact ((Bool.and_eq_true _ _).mp hp).1
    refine evCongr (f := fun k => spec_l1Tables.j0 k false n p t b) (fun k => ?_) (Ev.step (f := fun k => spec_l1Tables.l0 k 0 n p t b) (fun k => ?_) ?_)
    · simp [in_eq, hin, e, h3, h4, h5]
    · simp [spec_l1Tables.j0]
    · rw [← gt_find]
      refine (loop0 (F := fun k x => spec_l1Tables.l0 k x n p t b) (n := (p.length : Int)) (by omega) ?_ ?_)
      · refine Ev.step (f := fun _ => some true) (fun k => ?_) (Ev.now _)
        simp only [spec_l1Tables.l0]; rw [if_neg (by omega)]
      · intro x h0 h1 r hr
        rw [gt_getD]
        refine Ev.step (f := fun k => if (inV (rd p x) 0 (wrap64 (n - 1)) && inV (rd t x) 0 (wrap64 (n - 1))) = true then spec_l1Tables.l0 k (x + 1) n p t b else some false) (fun k => ?_) ?_
        · simp only [spec_l1Tables.l0, in_eq, Option.bind_some]
          rw [if_pos h1, if_pos h0, if_pos (show x < (t.length : Int) by omega), w64 (x := x + 1) (by omega) (by omega)]
          cases inV (rd p x) 0 (wrap64 (n - 1)) <;> simp
        · cases (inV (rd p x) 0 (wrap64 (n - 1)) && inV (rd t x) 0 (wrap64 (n - 1)))
          · simpa using Ev.now false
          · simpa using hr
  · rw [if_neg hp]
    refine evCongr (f := fun k => spec_l1Tables.j0 k true n p t b) (fun k => ?_) (Ev.step (f := fun _ => some false) (fun k => ?_) (Ev.now _))
    · rw [in_eq, Option.bind_some]
      unfold preV at hp
      revert hp
      cases inV n 2 16
      · simp
      · intro hp
        simp only [Bool.true_and, Bool.and_eq_true, decide_eq_true_eq, not_and] at hp
        rw [if_pos rfl]
        by_cases c1 : (p.length : Int) = wrap64 (n * n)
        · rw [if_pos c1]
          by_cases c2 : (t.length : Int) = wrap64 (n * n)
          · rw [if_pos c2, bne_iff_ne.mpr (hp ⟨c1, c2⟩)]
          · rw [if_neg c2]
        · rw [if_neg c1]
    · simp [spec_l1Tables.j0]
theorem specSystem (n : Int) (p t : List Int) (b : List Bool) : Ev (fun k => spec_IsSystem.f k n p t b) (sysV n p t b) := by
  unfold spec_IsSystem.f
  refine Ev.bind (specTables n p t b) ?_
  unfold sysV
  by_cases hp : preV n p t b = true
  · rw [if_pos hp, if_pos hp]
    by_cases hf : findO (gt n p t) 0 p.length = none
    · rw [if_pos hf, if_pos hf]
      simpa using specLaws (ok_of hp hf)
    · rw [if_neg hf, if_neg hf]
      simpa using Ev.now false
  · rw [if_neg hp, if_neg hp]
    simpa using Ev.now false
theorem implSystem (n : Int) (p t : List Int) (b : List Bool) : Ev (fun k => impl_IsSystem.f k n p t b) (sysV n p t b) := by
  unfold impl_IsSystem.f sysV
  by_cases hp : preV n p t b = true
  · obtain ⟨h1, h2, h3, h4, h5, h6⟩ := pre_facts hp
    rw [if_pos hp]
    have e : wrap64 (n * n) = n * n := w64 (by omega) (by omega)
    have hin : inV n 2 16 = true := by unfold preV at hp; exact ((Bool.and_eq_true _ _).mp hp).1
    refine evCongr (f := fun k => impl_IsSystem.j0 k n false n p t b) (fun k => ?_) (Ev.step (f := fun k => impl_IsSystem.l0 k n (p.length : Int) 0 n p t b) (fun k => ?_) ?_)
    · simp [within_eq, hin, e, h3, h4, h5]
    · simp [impl_IsSystem.j0]
    · have step : ∀ x : Int, 0 ≤ x → x < (p.length : Int) → ∀ r, (gt n p t x = none → Ev (fun k => impl_IsSystem.l0 k n (p.length : Int) (x + 1) n p t b) r) → Ev (fun k => impl_IsSystem.l0 k n (p.length : Int) x n p t b) ((gt n p t x).getD r) := by
        intro x h0 h1 r hr
        rw [gt_getD]
        refine Ev.step (f := fun k => if (inV (rd p x) 0 (wrap64 (n - 1)) && inV (rd t x) 0 (wrap64 (n - 1))) = true then impl_IsSystem.l0 k n (p.length : Int) (x + 1) n p t b else some false) (fun k => ?_) ?_
        · simp only [impl_IsSystem.l0, has_eq, Option.bind_some]
          rw [if_pos h1, if_pos h0, if_pos h1, if_pos (show x < (t.length : Int) by omega), w64 (x := x + 1) (by omega) (by omega)]
          cases inV (rd p x) 0 (wrap64 (n - 1)) <;> simp
        · unfold gt at hr
          revert hr
          cases (inV (rd p x) 0 (wrap64 (n - 1)) && inV (rd t x) 0 (wrap64 (n - 1)))
          · intro _; simpa using Ev.now false
          · intro hr; simpa using hr (by simp)
      by_cases hf : findO (gt n p t) 0 p.length = none
      · rw [if_pos hf]
        have := loop (F := fun k x => impl_IsSystem.l0 k n (p.length : Int) x n p t b) (n := (p.length : Int)) (e := lawsV n p t b)
          (Ev.step (f := fun k => impl_IsSystem.l1 k n 0 n p t b) (fun k => by simp only [impl_IsSystem.l0]; rw [if_neg (by omega)]) (implLaws (ok_of hp hf))) (fun x h0 h1 r hr => step x h0 h1 r fun _ => hr) p.length 0 (by omega) (by omega)
        rw [hf] at this
        exact this
      · rw [if_neg hf]
        have hv := gt_find (n := n) (p := p) (t := t) p.length 0 true
        rw [if_neg hf] at hv
        cases c : findO (gt n p t) 0 p.length with
        | none => exact absurd c hf
        | some v =>
          rw [c] at hv
          obtain rfl : v = false := hv
          exact loop_hit (F := fun k x => impl_IsSystem.l0 k n (p.length : Int) x n p t b) step p.length 0 (by omega) (by omega) c
  · rw [if_neg hp]
    refine evCongr (f := fun k => impl_IsSystem.j0 k n true n p t b) (fun k => ?_) (Ev.step (f := fun _ => some false) (fun k => ?_) (Ev.now _))
    · rw [within_eq, Option.bind_some]
      unfold preV at hp
      revert hp
      cases inV n 2 16
      · simp
      · intro hp
        simp only [Bool.true_and, Bool.and_eq_true, decide_eq_true_eq, not_and] at hp
        rw [if_pos rfl]
        by_cases c1 : (p.length : Int) = wrap64 (n * n)
        · rw [if_pos c1]
          by_cases c2 : (t.length : Int) = wrap64 (n * n)
          · rw [if_pos c2, bne_iff_ne.mpr (hp ⟨c1, c2⟩)]
          · rw [if_neg c2]
        · rw [if_neg c1]
    · simp [impl_IsSystem.j0]
end
end Go.Proofs.Ytjjkagnbdfofbaa.Pure
end

section
/- What a system's laws say. -/
set_option linter.unusedSimpArgs false
set_option linter.unusedVariables false
namespace Go.Proofs.Ytjjkagnbdfofbaa.Pure
open Go.RowKit Go.Proofs.Ytjjkagnbdfofbaa.P Go.Proofs.YtjjkagnbdfofbaaW.PrintWords Go.Proofs.YtjjkagnbdfofbaaW.PrintLast
theorem findO_false {g : Int → Option Bool} (hg : ∀ x v, g x = some v → v = false) : ∀ (m : Nat) (x : Int) (v : Bool), findO g x m = some v → v = false
  | 0, x, v, h => by cases h
  | m + 1, x, v, h => by
    have h' : (g x).or (findO g (x + 1) m) = some v := h
    cases c : g x with
    | none => rw [c] at h'; exact findO_false hg m (x + 1) v h'
    | some u => rw [c] at h'; obtain rfl : u = v := Option.some.inj h'; exact hg x u c
theorem findO_all {g : Int → Option Bool} (hg : ∀ x v, g x = some v → v = false) {m : Nat} {x : Int} : (findO g x m).getD true = true ↔ ∀ y, x ≤ y → y < x + m → g y = none := by
  constructor
  · intro h
    cases c : findO g x m with
    | none => exact findO_none m x c
    | some v => rw [c] at h; have := findO_false hg m x v c; subst this; cases h
  · intro h
    have : findO g x m = findO (fun _ => none) x m := findO_congr m x h
    rw [this, findO_nil]; rfl
section
variable {n : Int} {p t : List Int} {b : List Bool}
theorem g2_false {x y : Int} : ∀ z v, g2 n p t b x y z = some v → v = false := by
  intro z v h
  unfold g2 at h
  split at h
  · cases h
  · exact (Option.some.inj h).symm
theorem g1_false {x : Int} : ∀ y v, g1 n p t b x y = some v → v = false := by
  intro y v h
  unfold g1 at h
  split at h
  · exact findO_false g2_false _ _ _ h
  · exact (Option.some.inj h).symm
theorem g0_false : ∀ x v, g0 n p t b x = some v → v = false := by
  intro x v h
  unfold g0 at h
  split at h
  · exact findO_false g1_false _ _ _ h
  · exact (Option.some.inj h).symm
theorem sys_laws (h : sysV n p t b = true) : (∀ x, Rg n x → oneV n p t b x = true) ∧ (∀ x y, Rg n x → Rg n y → twoV n p b x y = true) ∧ (∀ x y z, Rg n x → Rg n y → Rg n z → threeV n p t b x y z = true) := by
  have o := sysV_ok h
  have hn : ((n.toNat : Nat) : Int) = n := by have := o.lo; omega
  unfold sysV at h
  split at h
  · split at h
    · unfold lawsV at h
      have h0 := (findO_all g0_false).mp h
      have one : ∀ x, Rg n x → oneV n p t b x = true ∧ findO (g1 n p t b x) 0 n.toNat = none := fun x hx => by
        have := h0 x hx.1 (by have := hx.2; omega)
        unfold g0 at this
        split at this
        · exact ⟨by assumption, this⟩
        · cases this
      have two : ∀ x y, Rg n x → Rg n y → twoV n p b x y = true ∧ findO (g2 n p t b x y) 0 n.toNat = none := fun x y hx hy => by
        have := findO_none _ _ (one x hx).2 y hy.1 (by have := hy.2; omega)
        unfold g1 at this
        split at this
        · exact ⟨by assumption, this⟩
        · cases this
      refine ⟨fun x hx => (one x hx).1, fun x y hx hy => (two x y hx hy).1, fun x y z hx hy hz => ?_⟩
      have := findO_none _ _ (two x y hx hy).2 z hz.1 (by have := hz.2; omega)
      unfold g2 at this
      split at this
      · assumption
      · cases this
    · cases h
  · cases h
/-- The laws, one by one. -/
structure Sys (n : Int) (p t : List Int) (b : List Bool) : Prop where
  ok : OK n p t b
  a0 : ∀ x, Rg n x → A n p 0 x = x
  m1 : ∀ x, Rg n x → A n t 1 x = x
  m0 : ∀ x, Rg n x → A n t 0 x = 0
  mz : ∀ x, Rg n x → A n t x 0 = 0
  rf : ∀ x, Rg n x → L n b x x = true
  ac : ∀ x y, Rg n x → Rg n y → A n p x y = A n p y x
  an : ∀ x y, Rg n x → Rg n y → L n b x y = true → L n b y x = true → x = y
  jo : ∀ x y, Rg n x → Rg n y → joinV n b x y ≥ 0
  di : ∀ x y z, Rg n x → Rg n y → Rg n z → A n t x (A n p y z) = A n p (A n t x y) (A n t x z)
  tr : ∀ x y z, Rg n x → Rg n y → Rg n z → L n b x y = true → L n b y z = true → L n b x z = true
theorem sys_of (h : sysV n p t b = true) : Sys n p t b := by
  obtain ⟨h1, h2, h3⟩ := sys_laws h
  have o := sysV_ok h
  unfold oneV at h1
  unfold twoV at h2
  unfold threeV at h3
  simp only [Bool.and_eq_true, decide_eq_true_eq, Bool.not_eq_true', Bool.or_eq_true] at h1 h2 h3
  refine ⟨o, fun x hx => (h1 x hx).1.1.1.1.1, fun x hx => (h1 x hx).1.1.1.1.2, fun x hx => (h1 x hx).1.1.2, fun x hx => (h1 x hx).1.2, fun x hx => (h1 x hx).2, fun x y hx hy => (h2 x y hx hy).1.1, fun x y hx hy l1 l2 => ?_, fun x y hx hy => (h2 x y hx hy).2, fun x y z hx hy hz => (h3 x y z hx hy hz).1.1.2, fun x y z hx hy hz l1 l2 => ?_⟩
  · have := (h2 x y hx hy).1.2
    by_cases e : x = y
    · exact e
    · rw [l1, l2] at this
      simp [e] at this
  · have := (h3 x y z hx hy hz).2
    rw [l1, l2] at this
    simp at this
    exact this.1.1.1
end
end Go.Proofs.Ytjjkagnbdfofbaa.Pure
end
