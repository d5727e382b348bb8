/- The plain laws: loops, copies, comparisons. -/
import Derived.Test.YtlhiacnmcckjgaaDoorPf6
import Derived.Test.YtlhiacnmcckjgaaDoorPf8
import Derived.Test.YtlhiacnmcckjgaaDoorPf30
import Derived.Test.YtlhiacnmcckjgaaDoorPf32
import Derived.IntWalk
set_option linter.unusedSimpArgs false
set_option linter.unusedVariables false
namespace Go.Proofs.YtlhiacnmcckjgaaDoor.Pure
open Go.RowKit Go.Proofs.YtlhiacnmcckjgaaDoor.P Go.Proofs.YtlhiacnmcckjgaaDoorW.PrintWords Go.Proofs.YtlhiacnmcckjgaaDoorW.PrintLast
theorem evCongr {α : Type} {g f : Nat → Option α} {r : α} (h : ∀ k, g k = f k) (k : Ev f r) : Ev g r := by
  obtain ⟨K, k⟩ := k
  exact ⟨K, fun n hn => (h n).trans (k n hn)⟩
theorem evRounds {α : Type} {g : Nat → Option α} {r : α} (h : Ev g r) : ∃ k, g k = some r := by
  obtain ⟨K, h⟩ := h
  exact ⟨K, h K (Nat.le_refl _)⟩
/-! ## Loops -/
def findO {α : Type} (g : Int → Option α) : Int → Nat → Option α
  | _, 0 => none
  | x, m + 1 => (g x).or (findO g (x + 1) m)
theorem findO_none {α : Type} {g : Int → Option α} : ∀ (m : Nat) (x : Int), findO g x m = none → ∀ y, x ≤ y → y < x + m → g y = none
  | 0, x, _, y, h1, h2 => by omega
  | m + 1, x, h, y, h1, h2 => by
    have h' : (g x).or (findO g (x + 1) m) = none := h
    rw [Option.or_eq_none_iff] at h'
    by_cases e : y = x
    · rw [e]; exact h'.1
    · exact findO_none m (x + 1) h'.2 y (by omega) (by omega)
theorem findO_congr {α : Type} {g g' : Int → Option α} : ∀ (m : Nat) (x : Int), (∀ y, x ≤ y → y < x + m → g y = g' y) → findO g x m = findO g' x m
  | 0, _, _ => rfl
  | m + 1, x, h => by
    show (g x).or (findO g (x + 1) m) = (g' x).or (findO g' (x + 1) m)
    rw [h x (by omega) (by omega), findO_congr m (x + 1) fun y h1 h2 => h y (by omega) (by omega)]
theorem findO_nil {α : Type} : ∀ (m : Nat) (x : Int), findO (fun _ => (none : Option α)) x m = none
  | 0, _ => rfl
  | m + 1, x => findO_nil m (x + 1)
theorem loop {α : Type} {F : Nat → Int → Option α} {n : Int} {g : Int → Option α} {e : α} (he : Ev (fun k => F k n) e)
    (hs : ∀ x, 0 ≤ x → x < n → ∀ r, Ev (fun k => F k (x + 1)) r → Ev (fun k => F k x) ((g x).getD r)) :
    ∀ (m : Nat) (x : Int), 0 ≤ x → x + m = n → Ev (fun k => F k x) ((findO g x m).getD e)
  | 0, x, _, h => by
    obtain rfl : x = n := by omega
    exact he
  | m + 1, x, h0, h => by
    have ih := loop he hs m (x + 1) (by omega) (by omega)
    have := hs x h0 (by omega) _ ih
    show Ev _ (((g x).or (findO g (x + 1) m)).getD e)
    revert this
    cases g x <;> exact id
theorem loop0 {α : Type} {F : Nat → Int → Option α} {n : Int} {g : Int → Option α} {e : α} (hn : 0 ≤ n) (he : Ev (fun k => F k n) e)
    (hs : ∀ x, 0 ≤ x → x < n → ∀ r, Ev (fun k => F k (x + 1)) r → Ev (fun k => F k x) ((g x).getD r)) : Ev (fun k => F k 0) ((findO g 0 n.toNat).getD e) :=
  loop he hs n.toNat 0 (by omega) (by omega)
theorem loop_hit {α : Type} {F : Nat → Int → Option α} {n : Int} {g : Int → Option α} {v : α}
    (hs : ∀ x, 0 ≤ x → x < n → ∀ r, (g x = none → Ev (fun k => F k (x + 1)) r) → Ev (fun k => F k x) ((g x).getD r)) :
    ∀ (m : Nat) (x : Int), 0 ≤ x → x + m = n → findO g x m = some v → Ev (fun k => F k x) v
  | 0, x, _, _, h => by cases h
  | m + 1, x, h0, h, hf => by
    have hf' : (g x).or (findO g (x + 1) m) = some v := hf
    have := hs x h0 (by omega) v
    cases c : g x with
    | none =>
      rw [c] at hf' this
      exact this fun _ => loop_hit hs m (x + 1) (by omega) (by omega) hf'
    | some u =>
      rw [c] at hf' this
      obtain rfl : u = v := Option.some.inj hf'
      exact this (fun h => by cases h)
theorem w64 {x : Int} (h1 : -9223372036854775808 ≤ x) (h2 : x ≤ 9223372036854775807) : wrap64 x = x := by unfold wrap64; omega
/-! ## Copies and sizes -/
theorem wf_range {x : Int} (h : (Lit.int .i64 x).wf = true) : -9223372036854775808 ≤ x ∧ x ≤ 9223372036854775807 := by
  simp [Lit.wf, IntKind.min, IntKind.max, IntKind.signed, IntKind.bits] at h
  exact h
theorem rd_get {l : List Int} {i : Nat} (h : i < l.length) : rd l (i : Int) = l[i] := by
  unfold rd; rw [Int.toNat_natCast, List.getD_eq_getElem?_getD, List.getElem?_eq_getElem h]; rfl
theorem rdB_get {l : List Bool} {i : Nat} (h : i < l.length) : rdOf false l (i : Int) = l[i] := by
  unfold rdOf; rw [Int.toNat_natCast, List.getD_eq_getElem?_getD, List.getElem?_eq_getElem h]; rfl
theorem toIntS_loop (l : List Int) (hl : l.length ≤ 1048576) : ∀ (m i : Nat) (acc : List Int), i + m = l.length → acc.length = l.length → acc.take i = l.take i → Ev (fun k => laws_toIntS.l0 k l acc (i : Int)) l
  | 0, i, acc, h, ha, ht => by
    have : acc = l := by
      have h1 : acc.take i = acc := List.take_of_length_le (by omega)
      have h2 : l.take i = l := List.take_of_length_le (by omega)
      rw [← h1, ht, h2]
    subst this
    refine Ev.step (f := fun _ => some acc) (fun k => ?_) (Ev.now _)
    simp only [laws_toIntS.l0]
    rw [if_neg (by omega)]
  | m + 1, i, acc, h, ha, ht => by
    have ih := toIntS_loop l hl m (i + 1) (acc.set i (rd l (i : Int))) (by omega) (by simp [ha]) (by
      rw [rd_get (by omega)]
      apply List.ext_getElem (by simp [ha])
      intro j h1 h2
      simp only [List.length_take] at h2
      rw [List.getElem_take, List.getElem_take, List.getElem_set]
      split
      · next e => subst e; rfl
      · next e =>
        have e1 : (acc.take i)[j]'(by simp; omega) = (l.take i)[j]'(by simp; omega) := by simp only [ht]
        rw [List.getElem_take, List.getElem_take] at e1
        exact e1)
    refine Ev.step (fun k => ?_) ih
    simp only [laws_toIntS.l0]
    rw [if_pos (by omega), if_pos (by omega), if_pos (by omega), w64 (by omega) (by omega)]
    simp
theorem toIntS (l : List Int) (hl : l.length ≤ 1048576) : Ev (fun k => laws_toIntS.f k l) l := by
  unfold laws_toIntS.f
  refine evCongr (fun k => (if_pos (by omega)).trans (if_pos (by omega))) ?_
  exact toIntS_loop l hl l.length 0 _ (by omega) (by simp) (by simp)
theorem eqIntS (l : List Int) (hl : l.length ≤ 1048576) : Ev (fun k => laws_eqIntS.f k l l) true := by
  unfold laws_eqIntS.f
  refine evCongr (fun k => if_pos rfl) ?_
  have hh : (findO (fun _ => (none : Option Bool)) 0 (l.length : Int).toNat).getD true = true := by rw [findO_nil]; rfl
  rw [← hh]
  refine loop0 (F := fun k x => laws_eqIntS.l0 k l l x) (n := (l.length : Int)) (g := fun _ => none) (e := true) (by omega) ?_ ?_
  · refine Ev.step (f := fun _ => some true) (fun k => ?_) (Ev.now _)
    simp only [laws_eqIntS.l0]; rw [if_neg (by omega)]
  · intro x h0 h1 r hr
    refine Ev.step (fun k => ?_) hr
    simp only [laws_eqIntS.l0]; rw [if_pos h1, if_pos h0, if_pos h1, w64 (by omega) (by omega)]; simp
def inV (x lo hi : Int) : Bool := decide (x ≥ lo) && decide (x ≤ hi)
theorem in_eq (x lo hi : Int) : spec_l1In.f x lo hi = some (inV x lo hi) := by
  unfold spec_l1In.f inV
  by_cases c : x ≥ lo
  · rw [if_pos c]; simp [c]
  · rw [if_neg c]; simp [c]
theorem within_eq (x lo hi : Int) : impl_within.f x lo hi = some (inV x lo hi) := in_eq x lo hi
end Go.Proofs.YtlhiacnmcckjgaaDoor.Pure
