/- Types in their code: where one ends; what is written. -/
import Derived.Test.YtlhiacnmcckjgaaDoorPf29
import Derived.Test.YtlhiacnmcckjgaaDoorPf14
import Derived.Test.YtlhiacnmcckjgaaDoorPf18
import Derived.Test.YtlhiacnmcckjgaaDoorB0
set_option linter.unusedSimpArgs false
set_option linter.unusedVariables false
namespace Go.Proofs.YtlhiacnmcckjgaaDoor.Pure
open Go.RowKit Go.Proofs.YtlhiacnmcckjgaaDoor.P Go.Proofs.YtlhiacnmcckjgaaDoorW.PrintWords Go.Proofs.YtlhiacnmcckjgaaDoorW.PrintLast
def kidsV (c : Int) : Int := if c = 0 then 0 else if c = 1 ∨ c = 2 ∨ (3 ≤ c ∧ c ≤ 18) ∨ c = 35 then 2 else if (19 ≤ c ∧ c ≤ 34) ∨ c = 36 then 1 else -1
def shapeV (c : Int) : Int × Int := if 0 ≤ c ∧ c ≤ 2 then (c, -1) else if 3 ≤ c ∧ c ≤ 18 then (3, c - 3) else if 19 ≤ c ∧ c ≤ 34 then (4, c - 19) else if c = 35 then (3, -1) else if c = 36 then (4, -1) else (5, -1)
theorem inV_iff (x lo hi : Int) : inV x lo hi = true ↔ lo ≤ x ∧ x ≤ hi := by
  unfold inV; rw [Bool.and_eq_true, decide_eq_true_eq, decide_eq_true_eq]
theorem kids_eq (k : Nat) (c : Int) : spec_l2Kids.f (k + 1) c = some (kidsV c) := by
  unfold spec_l2Kids.f spec_l2Arrow.f kidsV
  simp only [spec_l2Kids.j0, spec_l2Box.f, in_eq, Option.bind_some]
  by_cases c0 : c = 0
  · simp [c0]
  by_cases c1 : c = 1
  · simp [c1]
  by_cases c2 : c = 2
  · simp [c2]
  by_cases c3 : 3 ≤ c ∧ c ≤ 18
  · have e := (inV_iff c 3 18).mpr c3
    simp [c0, c1, c2, c3, e]
  have e3 : inV c 3 18 = false := by rw [Bool.eq_false_iff]; exact fun h => c3 ((inV_iff c 3 18).mp h)
  by_cases c4 : c = 35
  · simp [c4, inV]
  by_cases c5 : 19 ≤ c ∧ c ≤ 34
  · have e := (inV_iff c 19 34).mpr c5
    simp [c0, c1, c2, c3, c4, c5, e, e3]
  have e5 : inV c 19 34 = false := by rw [Bool.eq_false_iff]; exact fun h => c5 ((inV_iff c 19 34).mp h)
  by_cases c6 : c = 36
  · simp [c6, inV]
  · simp [c0, c1, c2, c3, c4, c5, c6, e3, e5]
theorem shape_eq (c : Int) : impl_shape.f c = some (shapeV c) := by
  unfold impl_shape.f shapeV
  simp only [within_eq, Option.bind_some]
  by_cases c0 : 0 ≤ c ∧ c ≤ 2
  · simp [(inV_iff c 0 2).mpr c0, c0]
  have e0 : inV c 0 2 = false := by rw [Bool.eq_false_iff]; exact fun h => c0 ((inV_iff c 0 2).mp h)
  by_cases c3 : 3 ≤ c ∧ c ≤ 18
  · simp only [e0, (inV_iff c 3 18).mpr c3, if_neg c0, if_pos c3, Bool.false_eq_true, if_false, if_true, w64 (x := c - 3) (by omega) (by omega)]
  have e3 : inV c 3 18 = false := by rw [Bool.eq_false_iff]; exact fun h => c3 ((inV_iff c 3 18).mp h)
  by_cases c5 : 19 ≤ c ∧ c ≤ 34
  · simp only [e0, e3, (inV_iff c 19 34).mpr c5, if_neg c0, if_neg c3, if_pos c5, Bool.false_eq_true, if_false, if_true, w64 (x := c - 19) (by omega) (by omega)]
  have e5 : inV c 19 34 = false := by rw [Bool.eq_false_iff]; exact fun h => c5 ((inV_iff c 19 34).mp h)
  simp only [e0, e3, e5, if_neg c0, if_neg c3, if_neg c5, Bool.false_eq_true, if_false]
  by_cases c6 : c = 35
  · simp [c6]
  · by_cases c7 : c = 36
    · simp [c7]
    · simp [c6, c7]
/-- Where d types that begin at i end, m places ahead: -1 where none. -/
def eat (xs : List Int) : Nat → Int → Int → Int
  | 0, _, _ => -1
  | m + 1, d, i => if kidsV (rd xs i) < 0 then -1 else if d - 1 + kidsV (rd xs i) = 0 then i + 1 else eat xs m (d - 1 + kidsV (rd xs i)) (i + 1)
theorem kids_le (c : Int) : kidsV c ≤ 2 := by unfold kidsV; repeat' split <;> omega
theorem eat_range (xs : List Int) : ∀ (m : Nat) (d i : Int), 0 ≤ i → eat xs m d i = -1 ∨ (i < eat xs m d i ∧ eat xs m d i ≤ i + m)
  | 0, _, _, _ => Or.inl rfl
  | m + 1, d, i, h => by
    unfold eat
    split
    · exact Or.inl rfl
    · split
      · right; constructor <;> omega
      · rcases eat_range xs m (d - 1 + kidsV (rd xs i)) (i + 1) (by omega) with e | e
        · exact Or.inl e
        · right; constructor <;> omega
theorem eat_add (xs : List Int) (e : Int) (he : 1 ≤ e) : ∀ (m : Nat) (d i : Int), 0 ≤ i → 1 ≤ d → eat xs m (d + e) i = if eat xs m d i = -1 then -1 else eat xs (i + m - eat xs m d i).toNat e (eat xs m d i)
  | 0, d, i, h, hd => by simp [eat]
  | m + 1, d, i, h, hd => by
    by_cases c : kidsV (rd xs i) < 0
    · simp [eat, c]
    · by_cases c1 : d - 1 + kidsV (rd xs i) = 0
      · have e1 : eat xs (m + 1) d i = i + 1 := by simp [eat, c, c1]
        have e2 : eat xs (m + 1) (d + e) i = eat xs m e (i + 1) := by
          have e4 : d + e - 1 + kidsV (rd xs i) = e := by omega
          have e3 : ¬ e = 0 := by omega
          simp only [eat, if_neg c, e4, if_neg e3]
        rw [e1, e2, if_neg (by omega), show (i + ((m + 1 : Nat) : Int) - (i + 1)).toNat = m by omega]
      · have e1 : eat xs (m + 1) d i = eat xs m (d - 1 + kidsV (rd xs i)) (i + 1) := by simp [eat, c, c1]
        have e4 : d + e - 1 + kidsV (rd xs i) = d - 1 + kidsV (rd xs i) + e := by omega
        have e2 : eat xs (m + 1) (d + e) i = eat xs m (d - 1 + kidsV (rd xs i) + e) (i + 1) := by
          have e3 : ¬ d - 1 + kidsV (rd xs i) + e = 0 := by omega
          simp only [eat, if_neg c, e4, if_neg e3]
        rw [e1, e2, eat_add xs e he m (d - 1 + kidsV (rd xs i)) (i + 1) (by omega) (by omega), show i + 1 + (m : Int) = i + ((m + 1 : Nat) : Int) by omega]
theorem specEnd (xs : List Int) (hl : xs.length ≤ 1048576) : ∀ (m : Nat) (d i : Int), 0 ≤ i → i + m = xs.length → 1 ≤ d → d ≤ 1048576 + i → Ev (fun k => spec_l2End.l0 k xs d i) (eat xs m d i)
  | 0, d, i, h0, h1, hd, hd' => by
    refine Ev.step (f := fun _ => some (-1)) (fun k => ?_) (Ev.now _)
    simp only [spec_l2End.l0]; rw [if_neg (by omega)]
  | m + 1, d, i, h0, h1, hd, hd' => by
    have hk := kids_le (rd xs i)
    have i1 : i < (xs.length : Int) := by omega
    have run : ∀ (r : Int) (F : Nat → Option Int), (∀ k, (if kidsV (rd xs i) < 0 then some (-1) else if d - 1 + kidsV (rd xs i) = 0 then some (i + 1) else spec_l2End.l0 (k + 1) xs (d - 1 + kidsV (rd xs i)) (i + 1)) = F k) → Ev F r → Ev (fun k => spec_l2End.l0 k xs d i) r := by
      rintro r F hF ⟨K, hK⟩
      refine ⟨K + 2, fun k hk2 => ?_⟩
      obtain ⟨k, rfl⟩ : ∃ q, k = q + 2 := ⟨k - 2, by omega⟩
      rw [← hK k (by omega), ← hF k]
      show (if i < (xs.length : Int) then _ else _) = _
      rw [if_pos i1, if_pos h0, kids_eq, Option.bind_some]
      by_cases c : kidsV (rd xs i) < 0
      · rw [if_pos c, if_pos c]
      · rw [if_neg c, if_neg c, w64 (x := d - 1) (by omega) (by omega), w64 (x := d - 1 + kidsV (rd xs i)) (by omega) (by omega), w64 (x := i + 1) (by omega) (by omega)]
    unfold eat
    by_cases c : kidsV (rd xs i) < 0
    · rw [if_pos c]
      exact run _ (fun _ => some (-1)) (fun k => if_pos c) (Ev.now _)
    · rw [if_neg c]
      by_cases c1 : d - 1 + kidsV (rd xs i) = 0
      · rw [if_pos c1]
        exact run _ (fun _ => some (i + 1)) (fun k => (if_neg c).trans (if_pos c1)) (Ev.now _)
      · rw [if_neg c1]
        obtain ⟨K, hK⟩ := specEnd xs hl m (d - 1 + kidsV (rd xs i)) (i + 1) (by omega) (by omega) (by omega) (by omega)
        exact run _ (fun k => spec_l2End.l0 (k + 1) xs (d - 1 + kidsV (rd xs i)) (i + 1)) (fun k => (if_neg c).trans (if_neg c1)) ⟨K, fun k hk => hK (k + 1) (by omega)⟩
theorem specEnd0 (xs : List Int) (hl : xs.length ≤ 1048576) {i : Int} (h0 : 0 ≤ i) (h1 : i ≤ xs.length) : Ev (fun k => spec_l2End.f k xs i) (eat xs (xs.length - i).toNat 1 i) := by
  unfold spec_l2End.f
  exact specEnd xs hl _ 1 i h0 (by omega) (by omega) (by omega)
theorem kids_shape (c : Int) : (kidsV c < 0 ↔ (shapeV c).1 = 5) ∧ (kidsV c = 0 ↔ (shapeV c).1 = 0) ∧ (kidsV c = 1 ↔ (shapeV c).1 = 4) ∧ (kidsV c = 2 ↔ ((shapeV c).1 = 1 ∨ (shapeV c).1 = 2 ∨ (shapeV c).1 = 3)) := by
  unfold kidsV shapeV
  repeat' split
  all_goals (refine ⟨?_, ?_, ?_, ?_⟩ <;> simp <;> omega)
theorem implEnd_bad (xs : List Int) (i : Int) (h : i < 0 ∨ (xs.length : Int) ≤ i) : Ev (fun k => impl_typeEnd.f k xs i) (-1) := by
  refine Ev.step (f := fun k => impl_typeEnd.j0 k xs i true) (fun k => ?_) (Ev.step (f := fun _ => some (-1)) (fun k => ?_) (Ev.now _))
  · simp only [impl_typeEnd.f]
    by_cases c : i < 0
    · rw [if_pos c]
    · rw [if_neg c, decide_eq_true (by omega)]
  · simp only [impl_typeEnd.j0, if_true]
theorem implEnd (xs : List Int) (hl : xs.length ≤ 1048576) : ∀ (m : Nat) (i : Int), 0 ≤ i → i + m = xs.length → Ev (fun k => impl_typeEnd.f k xs i) (eat xs m 1 i) := by
  intro m
  induction m using Nat.strongRecOn with
  | _ m ih =>
  intro i h0 h1
  cases m with
  | zero => exact implEnd_bad xs i (by omega)
  | succ m =>
    have i1 : i < (xs.length : Int) := by omega
    have up : wrap64 (i + 1) = i + 1 := w64 (by omega) (by omega)
    have next := ih m (by omega) (i + 1) (by omega) (by omega)
    obtain ⟨k5, k0, k1, k2⟩ := kids_shape (rd xs i)
    have hle := kids_le (rd xs i)
    refine Ev.step (f := fun k => impl_typeEnd.j0 k xs i false) (fun k => ?_) ?_
    · simp only [impl_typeEnd.f]; rw [if_neg (by omega), decide_eq_false (by omega)]
    · have open_ : ∀ k, impl_typeEnd.j0 (k + 1) xs i false = (if (shapeV (rd xs i)).1 = 0 then some (i + 1) else if (shapeV (rd xs i)).1 = 4 then impl_typeEnd.f k xs (i + 1) else if (shapeV (rd xs i)).1 = 5 then some (-1) else (impl_typeEnd.f k xs (i + 1)).bind fun j => impl_typeEnd.f k xs j) := by
        intro k
        simp only [impl_typeEnd.j0, shape_eq, Option.bind_some, Bool.false_eq_true, if_false, if_pos h0, if_pos i1, up, Option.bind_fun_some]
      refine Ev.step open_ ?_
      unfold eat
      by_cases c : kidsV (rd xs i) < 0
      · have := k5.mp c
        simp only [this]
        simpa [c] using Ev.now (-1 : Int)
      · rw [if_neg c]
        by_cases c0 : kidsV (rd xs i) = 0
        · simp only [k0.mp c0, c0]
          simpa using Ev.now (i + 1)
        · by_cases c1 : kidsV (rd xs i) = 1
          · simp only [k1.mp c1, c1]
            simpa using next
          · have c2 : kidsV (rd xs i) = 2 := by omega
            have s0 : ¬ (shapeV (rd xs i)).1 = 0 := fun h => c0 (k0.mpr h)
            have s4 : ¬ (shapeV (rd xs i)).1 = 4 := fun h => c1 (k1.mpr h)
            have s5 : ¬ (shapeV (rd xs i)).1 = 5 := fun h => c (k5.mpr h)
            simp only [if_neg s0, if_neg s4, if_neg s5, c2]
            refine Ev.bind next ?_
            have ea := eat_add xs 1 (by omega) m 1 (i + 1) (by omega) (by omega)
            have er := eat_range xs m 1 (i + 1) (by omega)
            have goal_ : (if (1 : Int) - 1 + 2 = 0 then i + 1 else eat xs m (1 - 1 + 2) (i + 1)) = eat xs m (1 + 1) (i + 1) := by rw [if_neg (by decide)]; rfl
            rw [goal_, ea]
            by_cases e : eat xs m 1 (i + 1) = -1
            · rw [if_pos e, e]; exact implEnd_bad xs (-1) (by omega)
            · rw [if_neg e]
              have e' := er.resolve_left e
              exact ih _ (by omega) _ (by omega) (by omega)
def writtenV (xs : List Int) : Bool := inV xs.length 1 40 && decide (eat xs xs.length 1 0 = (xs.length : Int))
theorem specWritten (xs : List Int) (hl : xs.length ≤ 1048576) : Ev (fun k => spec_l2Type.f k xs) (writtenV xs) := by
  unfold spec_l2Type.f writtenV
  have main := specEnd0 xs hl (i := 0) (by omega) (by omega)
  rw [show ((xs.length : Int) - 0).toNat = xs.length by omega] at main
  by_cases c : (xs.length : Int) ≤ 40
  · refine evCongr (fun k => if_pos c) ?_
    refine Ev.bind main ?_
    unfold inV
    by_cases c1 : eat xs xs.length 1 0 = (xs.length : Int)
    · by_cases c2 : (xs.length : Int) > 0
      · have c3 : (xs.length : Int) ≥ 1 := by omega
        simp only [if_pos c1, decide_eq_true c, decide_eq_true c1, decide_eq_true c2, decide_eq_true c3]
        exact Ev.now _
      · have c3 : ¬ (xs.length : Int) ≥ 1 := by omega
        simp only [if_pos c1, decide_eq_true c, decide_eq_true c1, decide_eq_false c2, decide_eq_false c3]
        exact Ev.now _
    · simp only [if_neg c1, decide_eq_false c1, Bool.and_false]
      exact Ev.now _
  · refine evCongr (fun k => if_neg c) ?_
    unfold inV
    rw [decide_eq_false c, Bool.and_false, Bool.false_and]
    exact Ev.now _
theorem implWritten (xs : List Int) (hl : xs.length ≤ 1048576) : Ev (fun k => impl_isWrittenType.f k xs) (writtenV xs) := by
  unfold impl_isWrittenType.f writtenV
  simp only [within_eq, Option.bind_some]
  have main := implEnd xs hl xs.length 0 (by omega) (by omega)
  cases inV (xs.length : Int) 1 40
  · simpa using Ev.now false
  · simp only [if_true, Bool.true_and]
    refine Ev.bind main ?_
    by_cases c1 : eat xs xs.length 1 0 = (xs.length : Int)
    · simp only [c1, beq_self_eq_true, decide_true]; exact Ev.now _
    · simp only [beq_eq_false_iff_ne.mpr c1, decide_eq_false c1]; exact Ev.now _
end Go.Proofs.YtlhiacnmcckjgaaDoor.Pure
