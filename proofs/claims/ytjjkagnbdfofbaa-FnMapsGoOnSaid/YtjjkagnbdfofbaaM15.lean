-- Several texts in one (wip/tools/merge.py).
import Derived.Test.YtjjkagnbdfofbaaPf11
import Derived.Test.YtjjkagnbdfofbaaM13
import Derived.Test.YtjjkagnbdfofbaaM7
import Derived.Test.YtjjkagnbdfofbaaPf14
section
/- Maps of grades: what the program tells. -/
set_option linter.unusedSimpArgs false
set_option linter.unusedVariables false
namespace Go.Proofs.Ytjjkagnbdfofbaa.Pure
open Go.RowKit Go.Proofs.Ytjjkagnbdfofbaa.P Go.Proofs.YtjjkagnbdfofbaaW.PrintWords Go.Proofs.YtjjkagnbdfofbaaW.PrintLast
theorem findO_onlyF {g : Int → Option Bool} (hg : ∀ x v, g x = some v → v = false) : ∀ (m : Nat) (x : Int) (v : Bool), findO g x m = some v → v = false
  | 0, x, v, h => by cases h
  | m + 1, x, v, h => by
    have h' : (g x).or (findO g (x + 1) m) = some v := h
    cases c : g x with
    | none => rw [c] at h'; exact findO_onlyF hg m (x + 1) v h'
    | some u => rw [c] at h'; obtain rfl : u = v := Option.some.inj h'; exact hg x u c
def bad (n : Int) (x : Int) : Bool := !inV x 0 (wrap64 (n - 1))
/-- One pair of grades goes with the map. -/
def mOk (n : Int) (p t : List Int) (b : List Bool) (n' : Int) (p' t' : List Int) (b' : List Bool) (xs : List Int) (x y : Int) : Bool :=
  decide (rd xs (A n p x y) = A n' p' (rd xs x) (rd xs y)) && decide (rd xs (A n t x y) = A n' t' (rd xs x) (rd xs y)) && (!L n b x y || L n' b' (rd xs x) (rd xs y))
def m1 (n : Int) (p t : List Int) (b : List Bool) (n' : Int) (p' t' : List Int) (b' : List Bool) (xs : List Int) (x y : Int) : Option Bool := if mOk n p t b n' p' t' b' xs x y = true then none else some false
def m0 (n : Int) (p t : List Int) (b : List Bool) (n' : Int) (p' t' : List Int) (b' : List Bool) (xs : List Int) (x : Int) : Option Bool := findO (m1 n p t b n' p' t' b' xs x) 0 n.toNat
def ends (xs : List Int) : Bool := decide (rd xs 0 = 0) && (rd xs 1 == 1)
def pre (n : Int) (p t : List Int) (b : List Bool) (n' : Int) (p' t' : List Int) (b' : List Bool) (xs : List Int) : Bool := sysV n p t b && (sysV n' p' t' b' && decide ((xs.length : Int) = n))
def mapV (n : Int) (p t : List Int) (b : List Bool) (n' : Int) (p' t' : List Int) (b' : List Bool) (xs : List Int) : Bool :=
  if pre n p t b n' p' t' b' xs = true then (if xs.any (bad n') = true then false else if findO (m0 n p t b n' p' t' b' xs) 0 n.toNat = none then ends xs else false) else false
section
variable {n : Int} {p t : List Int} {b : List Bool} {n' : Int} {p' t' : List Int} {b' : List Bool} {xs : List Int}
theorem m_onlyF : ∀ x v, m0 n p t b n' p' t' b' xs x = some v → v = false := by
  intro x v
  refine findO_onlyF ?_ _ _ _
  intro y u h
  unfold m1 at h
  split at h
  · cases h
  · exact (Option.some.inj h).symm
theorem m_getD (e : Bool) : (findO (m0 n p t b n' p' t' b' xs) 0 n.toNat).getD e = if findO (m0 n p t b n' p' t' b' xs) 0 n.toNat = none then e else false := by
  cases c : findO (m0 n p t b n' p' t' b' xs) 0 n.toNat with
  | none => simp
  | some v => obtain rfl := findO_onlyF m_onlyF _ _ _ c; simp
theorem implHomM (h : OK n p t b) (h' : OK n' p' t' b') (hl : (xs.length : Int) = n) (hb : ∀ i, 0 ≤ i → i < n → Rg n' (rd xs i)) {e : Bool} (he : Ev (fun k => impl_IsMap.l0 k xs n n p t b n' p' t' b') e) :
    Ev (fun k => impl_IsMap.l0 k xs 0 n p t b n' p' t' b') ((findO (m0 n p t b n' p' t' b' xs) 0 n.toNat).getD e) := by
  have hn : 0 ≤ n := by have := h.lo; omega
  have up : ∀ x, 0 ≤ x → x < n → wrap64 (x + 1) = x + 1 := fun x h0 h1 => w64 (by omega) (by have := h.hi; omega)
  refine loop0 (F := fun k x => impl_IsMap.l0 k xs x n p t b n' p' t' b') hn he ?_
  intro x x0 x1 r hr
  refine Ev.step (f := fun k => impl_IsMap.l1 k xs x 0 n p t b n' p' t' b') (fun k => ?_) ?_
  · simp only [impl_IsMap.l0]; rw [if_pos x1]
  · unfold m0
    refine loop0 (F := fun k y => impl_IsMap.l1 k xs x y n p t b n' p' t' b') hn ?_ ?_
    · refine Ev.step (fun k => ?_) hr
      simp only [impl_IsMap.l1]; rw [if_neg (by omega), up x x0 x1]
    · intro y y0 y1 r hr
      have hx : Rg n x := ⟨x0, x1⟩
      have hy : Rg n y := ⟨y0, y1⟩
      have ha := A_in h hx hy
      have hm := M_in h hx hy
      have ha' : A n p x y < (xs.length : Int) := by rw [hl]; exact ha.2
      have hm' : A n t x y < (xs.length : Int) := by rw [hl]; exact hm.2
      have x2 : x < (xs.length : Int) := by omega
      have y2 : y < (xs.length : Int) := by omega
      have fx := hb x x0 x1
      have fy := hb y y0 y1
      refine Ev.step (f := fun k => if mOk n p t b n' p' t' b' xs x y = true then impl_IsMap.l1 k xs x (y + 1) n p t b n' p' t' b' else some false) (fun k => ?_) ?_
      · simp only [impl_IsMap.l1, plus_is, times_is, below_is, add_eq h hx hy, mul_eq h hx hy, le_eq h hx hy, add_eq h' fx fy, mul_eq h' fx fy, le_eq h' fx fy, Option.bind_some]
        simp only [if_pos y1, if_pos ha.1, if_pos ha', if_pos x0, if_pos x2, if_pos y0, if_pos y2, if_pos hm.1, if_pos hm', up y y0 y1]
        unfold mOk
        by_cases c1 : rd xs (A n p x y) = A n' p' (rd xs x) (rd xs y)
        · by_cases c2 : rd xs (A n t x y) = A n' t' (rd xs x) (rd xs y)
          · rw [if_pos c1, if_pos c2]
            cases L n b x y <;> cases L n' b' (rd xs x) (rd xs y) <;> simp [c1, c2]
          · rw [if_pos c1, if_neg c2]; simp [c2]
        · rw [if_neg c1]; simp [c1]
      · unfold m1
        split
        · simpa using hr
        · simpa using Ev.now false
theorem implMap (hl1 : xs.length ≤ 1048576) : Ev (fun k => impl_IsMap.f k n p t b n' p' t' b' xs) (mapV n p t b n' p' t' b' xs) := by
  unfold impl_IsMap.f mapV pre
  refine Ev.bind (implSystem n p t b) ?_
  have no : Ev (fun k => impl_IsMap.j0 k xs true n p t b n' p' t' b') false := by
    refine Ev.step (f := fun _ => some false) (fun k => ?_) (Ev.now _)
    simp only [impl_IsMap.j0, if_true]
  cases c : sysV n p t b with
  | false => simpa using no
  | true =>
    simp only [if_true, Bool.true_and]
    refine Ev.bind (implSystem n' p' t' b') ?_
    cases c' : sysV n' p' t' b' with
    | false => simpa using no
    | true =>
      simp only [if_true, Bool.true_and]
      by_cases hl : (xs.length : Int) = n
      · have h := sysV_ok c
        have h' := sysV_ok c'
        have hn : 0 ≤ n := by have := h.lo; omega
        simp only [if_pos hl]
        rw [if_pos (decide_eq_true hl)]
        refine Ev.bind (containsV xs hl1 _ (bad n') (fun x => by unfold impl_IsMap_1.f; rw [has_eq]; rfl)) ?_
        by_cases hb : xs.any (bad n') = true
        · simp only [if_pos hb]
          exact no
        · simp only [if_neg hb]
          have hR : ∀ i, 0 ≤ i → i < n → Rg n' (rd xs i) := fun i h0 h1 => by
            have hb2 : xs.any (bad n') = false := by simpa using hb
            have h3 : i.toNat < xs.length := by omega
            have := (List.any_eq_false.mp hb2) xs[i.toNat] (List.getElem_mem h3)
            have e : rd xs i = xs[i.toNat] := by have := rd_get h3; rwa [Int.toNat_of_nonneg h0] at this
            rw [e]
            unfold bad at this
            exact (inV_Rg h').mp (by simpa using this)
          have p0 : 0 < (xs.length : Int) := by have := h.lo; omega
          have p1 : 1 < (xs.length : Int) := by have := h.lo; omega
          simp only [if_pos p0, if_pos p1]
          have fin : Ev (fun k => impl_IsMap.l0 k xs n n p t b n' p' t' b') true := by
            refine Ev.step (f := fun _ => some true) (fun k => ?_) (Ev.now _)
            simp only [impl_IsMap.l0]; rw [if_neg (by omega)]
          have main := implHomM h h' hl hR fin
          rw [m_getD] at main
          unfold ends
          by_cases c0 : rd xs 0 = 0
          · simp only [if_pos c0]
            by_cases c1 : rd xs 1 = 1
            · refine Ev.step (f := fun k => impl_IsMap.l0 k xs 0 n p t b n' p' t' b') (fun k => ?_) ?_
              · simp [impl_IsMap.j0, c1]
              · simpa [c0, c1] using main
            · refine Ev.step (f := fun _ => some false) (fun k => ?_) ?_
              · simp [impl_IsMap.j0, c1]
              · have e9 : (rd xs 1 == 1) = false := beq_eq_false_iff_ne.mpr c1
                simpa [c0, e9] using Ev.now false
          · simp only [if_neg c0]
            simpa [c0] using no
      · simp only [if_neg hl]
        rw [if_neg (by simpa using hl)]
        exact no
end
end Go.Proofs.Ytjjkagnbdfofbaa.Pure
end

section
/- Maps of grades: what the reference tells. -/
set_option linter.unusedSimpArgs false
set_option linter.unusedVariables false
namespace Go.Proofs.Ytjjkagnbdfofbaa.Pure
open Go.RowKit Go.Proofs.Ytjjkagnbdfofbaa.P Go.Proofs.YtjjkagnbdfofbaaW.PrintWords Go.Proofs.YtjjkagnbdfofbaaW.PrintLast
section
variable {n : Int} {p t : List Int} {b : List Bool} {n' : Int} {p' t' : List Int} {b' : List Bool} {xs : List Int}
theorem specHom (h : OK n p t b) (h' : OK n' p' t' b') (hl : (xs.length : Int) = n) (hb : ∀ i, 0 ≤ i → i < n → Rg n' (rd xs i)) {e : Bool} (he : Ev (fun k => spec_IsMap.l1 k xs n n p t b n' p' t' b') e) :
    Ev (fun k => spec_IsMap.l1 k xs 0 n p t b n' p' t' b') ((findO (m0 n p t b n' p' t' b' xs) 0 n.toNat).getD e) := by
  have hn : 0 ≤ n := by have := h.lo; omega
  have up : ∀ x, 0 ≤ x → x < n → wrap64 (x + 1) = x + 1 := fun x h0 h1 => w64 (by omega) (by have := h.hi; omega)
  refine loop0 (F := fun k x => spec_IsMap.l1 k xs x n p t b n' p' t' b') hn he ?_
  intro x x0 x1 r hr
  refine Ev.step (f := fun k => spec_IsMap.l2 k xs x 0 n p t b n' p' t' b') (fun k => ?_) ?_
  · simp only [spec_IsMap.l1]; rw [if_pos x1]
  · unfold m0
    refine loop0 (F := fun k y => spec_IsMap.l2 k xs x y n p t b n' p' t' b') hn ?_ ?_
    · refine Ev.step (fun k => ?_) hr
      simp only [spec_IsMap.l2]; rw [if_neg (by omega), up x x0 x1]
    · intro y y0 y1 r hr
      have hx : Rg n x := ⟨x0, x1⟩
      have hy : Rg n y := ⟨y0, y1⟩
      have ha := A_in h hx hy
      have hm := M_in h hx hy
      have ha' : A n p x y < (xs.length : Int) := by rw [hl]; exact ha.2
      have hm' : A n t x y < (xs.length : Int) := by rw [hl]; exact hm.2
      have x2 : x < (xs.length : Int) := by omega
      have y2 : y < (xs.length : Int) := by omega
      have fx := hb x x0 x1
      have fy := hb y y0 y1
      refine Ev.step (f := fun k => if mOk n p t b n' p' t' b' xs x y = true then spec_IsMap.l2 k xs x (y + 1) n p t b n' p' t' b' else some false) (fun k => ?_) ?_
      · simp only [spec_IsMap.l2, add_eq h hx hy, mul_eq h hx hy, le_eq h hx hy, add_eq h' fx fy, mul_eq h' fx fy, le_eq h' fx fy, Option.bind_some]
        simp only [if_pos y1, if_pos ha.1, if_pos ha', if_pos x0, if_pos x2, if_pos y0, if_pos y2, if_pos hm.1, if_pos hm', up y y0 y1]
        unfold mOk
        by_cases c1 : rd xs (A n p x y) = A n' p' (rd xs x) (rd xs y)
        · by_cases c2 : rd xs (A n t x y) = A n' t' (rd xs x) (rd xs y)
          · rw [if_pos c1, if_pos c2]
            cases L n b x y <;> cases L n' b' (rd xs x) (rd xs y) <;> simp [c1, c2]
          · rw [if_pos c1, if_neg c2]; simp [c2]
        · rw [if_neg c1]; simp [c1]
      · unfold m1
        split
        · simpa using hr
        · simpa using Ev.now false
theorem specV (hl1 : xs.length ≤ 1048576) : Ev (fun k => spec_IsMap.f k n p t b n' p' t' b' xs) (mapV n p t b n' p' t' b' xs) := by
  unfold spec_IsMap.f mapV pre
  refine Ev.bind (specSystem n p t b) ?_
  have no : Ev (fun k => spec_IsMap.j0 k xs true n p t b n' p' t' b') false := by
    refine Ev.step (f := fun _ => some false) (fun k => ?_) (Ev.now _)
    simp only [spec_IsMap.j0, if_true]
  cases c : sysV n p t b with
  | false => simpa using no
  | true =>
    simp only [if_true, Bool.true_and]
    refine Ev.bind (specSystem n' p' t' b') ?_
    cases c' : sysV n' p' t' b' with
    | false => simpa using no
    | true =>
      simp only [if_true, Bool.true_and]
      by_cases hl : (xs.length : Int) = n
      · have h := sysV_ok c
        have h' := sysV_ok c'
        have hn : 0 ≤ n := by have := h.lo; omega
        rw [if_pos (decide_eq_true hl)]
        have ebne : ((xs.length : Int) != n) = false := bne_eq_false_iff_eq.mpr hl
        rw [ebne]
        refine Ev.step (f := fun k => spec_IsMap.l0 k xs 0 n p t b n' p' t' b') (fun k => by simp only [spec_IsMap.j0, Bool.false_eq_true, if_false]) ?_
        have step : ∀ x : Int, 0 ≤ x → x < n → ∀ r, ((if bad n' (rd xs x) = true then some false else none : Option Bool) = none → Ev (fun k => spec_IsMap.l0 k xs (x + 1) n p t b n' p' t' b') r) → Ev (fun k => spec_IsMap.l0 k xs x n p t b n' p' t' b') ((if bad n' (rd xs x) = true then some false else none : Option Bool).getD r) := by
          intro x x0 x1 r hr
          refine Ev.step (f := fun k => if bad n' (rd xs x) = true then some false else spec_IsMap.l0 k xs (x + 1) n p t b n' p' t' b') (fun k => ?_) ?_
          · simp only [spec_IsMap.l0, in_eq, Option.bind_some]
            rw [if_pos x1, if_pos x0, if_pos (by omega), w64 (x := x + 1) (by omega) (by have := h.hi; omega)]
            unfold bad
            cases inV (rd xs x) 0 (wrap64 (n' - 1)) <;> simp
          · revert hr
            cases bad n' (rd xs x)
            · intro hr; simpa using hr (by simp)
            · intro hr; simpa using Ev.now false
        by_cases hb : xs.any (bad n') = true
        · rw [if_pos hb]
          obtain ⟨z, hz, hzb⟩ := List.any_eq_true.mp hb
          obtain ⟨i, hi, rfl⟩ := List.getElem_of_mem hz
          have hf : findO (fun x => (if bad n' (rd xs x) = true then some false else none : Option Bool)) 0 n.toNat ≠ none := by
            intro hnone
            have := findO_none _ _ hnone (i : Int) (by omega) (by omega)
            rw [rd_get hi, if_pos hzb] at this
            cases this
          cases hq : findO (fun x => (if bad n' (rd xs x) = true then some false else none : Option Bool)) 0 n.toNat with
          | none => exact absurd hq hf
          | some v =>
            obtain rfl : v = false := findO_onlyF (g := fun x => (if bad n' (rd xs x) = true then some false else none : Option Bool)) (fun x v hv => by
              split at hv
              · exact (Option.some.inj hv).symm
              · cases hv) _ _ _ hq
            exact loop_hit (F := fun k x => spec_IsMap.l0 k xs x n p t b n' p' t' b') step n.toNat 0 (by omega) (by omega) hq
        · rw [if_neg hb]
          have hb' : ∀ i, 0 ≤ i → i < n → bad n' (rd xs i) = false := fun i h0 h1 => by
            have hb2 : xs.any (bad n') = false := by simpa using hb
            have h3 : i.toNat < xs.length := by omega
            have := (List.any_eq_false.mp hb2) xs[i.toNat] (List.getElem_mem h3)
            have e : rd xs i = xs[i.toNat] := by have := rd_get h3; rwa [Int.toNat_of_nonneg h0] at this
            rw [e]; simpa using this
          have hR : ∀ i, 0 ≤ i → i < n → Rg n' (rd xs i) := fun i h0 h1 => by
            have := hb' i h0 h1
            unfold bad at this
            exact (inV_Rg h').mp (by simpa using this)
          have hfn : findO (fun x => (if bad n' (rd xs x) = true then some false else none : Option Bool)) 0 n.toNat = none := by
            rw [findO_congr (g' := fun _ => none) _ _ (fun y h1 h2 => by rw [hb' y h1 (by omega)]; rfl), findO_nil]
          rw [← m_getD]
          have fin : Ev (fun k => spec_IsMap.l1 k xs n n p t b n' p' t' b') (ends xs) := by
            refine Ev.step (f := fun _ => some (ends xs)) (fun k => ?_) (Ev.now _)
            simp only [spec_IsMap.l1]
            rw [if_neg (by omega), if_pos (by have := h.lo; omega), if_pos (show (1 : Int) < (xs.length : Int) by have := h.lo; omega)]
            unfold ends
            by_cases c0 : rd xs 0 = 0
            · simp [c0]
            · simp [c0]
          have main := specHom h h' hl hR fin
          have := loop (F := fun k x => spec_IsMap.l0 k xs x n p t b n' p' t' b') (n := n) (g := fun x => (if bad n' (rd xs x) = true then some false else none : Option Bool)) (e := (findO (m0 n p t b n' p' t' b' xs) 0 n.toNat).getD (ends xs))
            (Ev.step (fun k => by simp only [spec_IsMap.l0]; rw [if_neg (by omega)]) main) (fun x h0 h1 r hr => step x h0 h1 r fun _ => hr) n.toNat 0 (by omega) (by omega)
          rw [hfn] at this
          exact this
      · have ebne : ((xs.length : Int) != n) = true := bne_iff_ne.mpr hl
        rw [ebne, if_neg (by simpa using hl)]
        exact no
end
end Go.Proofs.Ytjjkagnbdfofbaa.Pure
end
