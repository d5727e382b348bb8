-- Several texts in one (wip/tools/merge.py).
import Derived.Test.YtipfkicndjddgaaM7
import Derived.Test.YtipfkicndjddgaaM8
import Derived.Test.YtipfkicndjddgaaM3
import Derived.Test.YtipfkicndjddgaaP0
import Derived.Test.YtipfkicndjddgaaM2
import Derived.Test.YtipfkicndjddgaaM1
section
/- Types in their code: where one ends; what is written. -/
set_option linter.unusedSimpArgs false
set_option linter.unusedVariables false
namespace Go.Proofs.Ytipfkicndjddgaa.Pure
open Go.RowKit Go.Proofs.Ytipfkicndjddgaa.P Go.Proofs.YtipfkicndjddgaaW.PrintWords Go.Proofs.YtipfkicndjddgaaW.PrintLast
def kidsV (c : Int) : Int := if c = 0 then 0 else if c = 1 ∨ c = 2 ∨ (3 ≤ c ∧ c ≤ 18) ∨ c = 35 then 2 else if (19 ≤ c ∧ c ≤ 34) ∨ c = 36 then 1 else -1
def shapeV (c : Int) : Int × Int := if 0 ≤ c ∧ c ≤ 2 then (c, -1) else if 3 ≤ c ∧ c ≤ 18 then (3, c - 3) else if 19 ≤ c ∧ c ≤ 34 then (4, c - 19) else if c = 35 then (3, -1) else if c = 36 then (4, -1) else (5, -1)
theorem inV_iff (x lo hi : Int) : inV x lo hi = true ↔ lo ≤ x ∧ x ≤ hi := by
  unfold inV; rw [Bool.and_eq_true, decide_eq_true_eq, decide_eq_true_eq]
theorem kids_eq (k : Nat) (c : Int) : spec_l2Kids.f (k + 1) c = some (kidsV c) := by
  unfold spec_l2Kids.f spec_l2Arrow.f kidsV
  simp only [spec_l2Kids.j0, spec_l2Box.f, in_eq, Option.bind_some]
  by_cases c0 : c = 0
  · simp [c0]
  by_cases c1 : c = 1
  · simp [c1]
  by_cases c2 : c = 2
  · simp [c2]
  by_cases c3 : 3 ≤ c ∧ c ≤ 18
  · have e := (inV_iff c 3 18).mpr c3
    simp [c0, c1, c2, c3, e]
  have e3 : inV c 3 18 = false := by rw [Bool.eq_false_iff]; exact fun h => c3 ((inV_iff c 3 18).mp h)
  by_cases c4 : c = 35
  · simp [c4, inV]
  by_cases c5 : 19 ≤ c ∧ c ≤ 34
  · have e := (inV_iff c 19 34).mpr c5
    simp [c0, c1, c2, c3, c4, c5, e, e3]
  have e5 : inV c 19 34 = false := by rw [Bool.eq_false_iff]; exact fun h => c5 ((inV_iff c 19 34).mp h)
  by_cases c6 : c = 36
  · simp [c6, inV]
  · simp [c0, c1, c2, c3, c4, c5, c6, e3, e5]
theorem shape_eq (c : Int) : impl_shape.f c = some (shapeV c) := by
  unfold impl_shape.f shapeV
  simp only [within_eq, Option.bind_some]
  by_cases c0 : 0 ≤ c ∧ c ≤ 2
  · simp [(inV_iff c 0 2).mpr c0, c0]
  have e0 : inV c 0 2 = false := by rw [Bool.eq_false_iff]; exact fun h => c0 ((inV_iff c 0 2).mp h)
  by_cases c3 : 3 ≤ c ∧ c ≤ 18
  · simp only [e0, (inV_iff c 3 18).mpr c3, if_neg c0, if_pos c3, Bool.false_eq_true, if_false, if_true, w64 (x := c - 3) (by omega) (by omega)]
  have e3 : inV c 3 18 = false := by rw [Bool.eq_false_iff]; exact fun h => c3 ((inV_iff c 3 18).mp h)
  by_cases c5 : 19 ≤ c ∧ c ≤ 34
  · simp only [e0, e3, (inV_iff c 19 34).mpr c5, if_neg c0, if_neg c3, if_pos c5, Bool.false_eq_true, if_false, if_true, w64 (x := c - 19) (by omega) (by omega)]
  have e5 : inV c 19 34 = false := by rw [Bool.eq_false_iff]; exact fun h => c5 ((inV_iff c 19 34).mp h)
  simp only [e0, e3, e5, if_neg c0, if_neg c3, if_neg c5, Bool.false_eq_true, if_false]
  by_cases c6 : c = 35
  · simp [c6]
  · by_cases c7 : c = 36
    · simp [c7]
    · simp [c6, c7]
/-- Where d types that begin at i end, m places ahead: -1 where none. -/
def eat (xs : List Int) : Nat → Int → Int → Int
  | 0, _, _ => -1
  | m + 1, d, i => if kidsV (rd xs i) < 0 then -1 else if d - 1 + kidsV (rd xs i) = 0 then i + 1 else eat xs m (d - 1 + kidsV (rd xs i)) (i + 1)
theorem kids_le (c : Int) : kidsV c ≤ 2 := by unfold kidsV; repeat' split <;> omega
theorem eat_range (xs : List Int) : ∀ (m : Nat) (d i : Int), 0 ≤ i → eat xs m d i = -1 ∨ (i < eat xs m d i ∧ eat xs m d i ≤ i + m)
  | 0, _, _, _ => Or.inl rfl
  | m + 1, d, i, h => by
    unfold eat
    split
    · exact Or.inl rfl
    · split
      · right; constructor <;> omega
      · rcases eat_range xs m (d - 1 + kidsV (rd xs i)) (i + 1) (by omega) with e | e
        · exact Or.inl e
        · right; constructor <;> omega
theorem eat_add (xs : List Int) (e : Int) (he : 1 ≤ e) : ∀ (m : Nat) (d i : Int), 0 ≤ i → 1 ≤ d → eat xs m (d + e) i = if eat xs m d i = -1 then -1 else eat xs (i + m - eat xs m d i).toNat e (eat xs m d i)
  | 0, d, i, h, hd => by simp [eat]
  | m + 1, d, i, h, hd => by
    by_cases c : kidsV (rd xs i) < 0
    · simp [eat, c]
    · by_cases c1 : d - 1 + kidsV (rd xs i) = 0
      · have e1 : eat xs (m + 1) d i = i + 1 := by simp [eat, c, c1]
        have e2 : eat xs (m + 1) (d + e) i = eat xs m e (i + 1) := by
          have e4 : d + e - 1 + kidsV (rd xs i) = e := by omega
          have e3 : ¬ e = 0 := by omega
          simp only [eat, if_neg c, e4, if_neg e3]
        rw [e1, e2, if_neg (by omega), show (i + ((m + 1 : Nat) : Int) - (i + 1)).toNat = m by omega]
      · have e1 : eat xs (m + 1) d i = eat xs m (d - 1 + kidsV (rd xs i)) (i + 1) := by simp [eat, c, c1]
        have e4 : d + e - 1 + kidsV (rd xs i) = d - 1 + kidsV (rd xs i) + e := by omega
        have e2 : eat xs (m + 1) (d + e) i = eat xs m (d - 1 + kidsV (rd xs i) + e) (i + 1) := by
          have e3 : ¬ d - 1 + kidsV (rd xs i) + e = 0 := by omega
          simp only [eat, if_neg c, e4, if_neg e3]
        rw [e1, e2, eat_add xs e he m (d - 1 + kidsV (rd xs i)) (i + 1) (by omega) (by omega), show i + 1 + (m : Int) = i + ((m + 1 : Nat) : Int) by omega]
theorem specEnd (xs : List Int) (hl : xs.length ≤ 1048576) : ∀ (m : Nat) (d i : Int), 0 ≤ i → i + m = xs.length → 1 ≤ d → d ≤ 1048576 + i → Ev (fun k => spec_l2End.l0 k xs d i) (eat xs m d i)
  | 0, d, i, h0, h1, hd, hd' => by
    refine Ev.step (f := fun _ => some (-1)) (fun k => ?_) (Ev.now _)
    simp only [spec_l2End.l0]; rw [if_neg (by omega)]
  | m + 1, d, i, h0, h1, hd, hd' => by
    have hk := kids_le (rd xs i)
    have i1 : i < (xs.length : Int) := by omega
    have run : ∀ (r : Int) (F : Nat → Option Int), (∀ k, (if kidsV (rd xs i) < 0 then some (-1) else if d - 1 + kidsV (rd xs i) = 0 then some (i + 1) else spec_l2End.l0 (k + 1) xs (d - 1 + kidsV (rd xs i)) (i + 1)) = F k) → Ev F r → Ev (fun k => spec_l2End.l0 k xs d i) r := by
      rintro r F hF ⟨K, hK⟩
      refine ⟨K + 2, fun k hk2 => ?_⟩
      obtain ⟨k, rfl⟩ : ∃ q, k = q + 2 := ⟨k - 2, by omega⟩
      rw [← hK k (by omega), ← hF k]
      show (if i < (xs.length : Int) then _ else _) = _
      rw [if_pos i1, if_pos h0, kids_eq, Option.bind_some]
      by_cases c : kidsV (rd xs i) < 0
      · rw [if_pos c, if_pos c]
      · rw [if_neg c, if_neg c, w64 (x := d - 1) (by omega) (by omega), w64 (x := d - 1 + kidsV (rd xs i)) (by omega) (by omega), w64 (x := i + 1) (by omega) (by omega)]
    unfold eat
    by_cases c : kidsV (rd xs i) < 0
    · rw [if_pos c]
      exact run _ (fun _ => some (-1)) (fun k => if_pos c) (Ev.now _)
    · rw [if_neg c]
      by_cases c1 : d - 1 + kidsV (rd xs i) = 0
      · rw [if_pos c1]
        exact run _ (fun _ => some (i + 1)) (fun k => (if_neg c).trans (if_pos c1)) (Ev.now _)
      · rw [if_neg c1]
        obtain ⟨K, hK⟩ := specEnd xs hl m (d - 1 + kidsV (rd xs i)) (i + 1) (by omega) (by omega) (by omega) (by omega)
        exact run _ (fun k => spec_l2End.l0 (k + 1) xs (d - 1 + kidsV (rd xs i)) (i + 1)) (fun k => (if_neg c).trans (if_neg c1)) ⟨K, fun k hk => hK (k + 1) (by omega)⟩
theorem specEnd0 (xs : List Int) (hl : xs.length ≤ 1048576) {i : Int} (h0 : 0 ≤ i) (h1 : i ≤ xs.length) : Ev (fun k => spec_l2End.f k xs i) (eat xs (xs.length - i).toNat 1 i) := by
  unfold spec_l2End.f
  exact specEnd xs hl _ 1 i h0 (by omega) (by omega) (by omega)
theorem kids_shape (c : Int) : (kidsV c < 0 ↔ (shapeV c).1 = 5) ∧ (kidsV c = 0 ↔ (shapeV c).1 = 0) ∧ (kidsV c = 1 ↔ (shapeV c).1 = 4) ∧ (kidsV c = 2 ↔ ((shapeV c).1 = 1 ∨ (shapeV c).1 = 2 ∨ (shapeV c).1 = 3)) := by
  unfold kidsV shapeV
  repeat' split
  all_goals (refine ⟨?_, ?_, ?_, ?_⟩ <;> simp <;> omega)
theorem implEnd_bad (xs : List Int) (i : Int) (h : i < 0 ∨ (xs.length : Int) ≤ i) : Ev (fun k => impl_typeEnd.f k xs i) (-1) := by
  refine Ev.step (f := fun k => impl_typeEnd.j0 k xs i true) (fun k => ?_) (Ev.step (f := fun _ => some (-1)) (fun k => ?_) (Ev.now _))
  · simp only [impl_typeEnd.f]
    by_cases c : i < 0
    · rw [if_pos c]
    · rw [if_neg c, decide_eq_true (by omega)]
  · simp only [impl_typeEnd.j0, if_true]
theorem implEnd (xs : List Int) (hl : xs.length ≤ 1048576) : ∀ (m : Nat) (i : Int), 0 ≤ i → i + m = xs.length → Ev (fun k => impl_typeEnd.f k xs i) (eat xs m 1 i) := by
  intro m
  induction m using Nat.strongRecOn with
  | _ m ih =>
  intro i h0 h1
  cases m with
  | zero => exact implEnd_bad xs i (by omega)
  | succ m =>
    have i1 : i < (xs.length : Int) := by omega
    have up : wrap64 (i + 1) = i + 1 := w64 (by omega) (by omega)
    have next := ih m (by omega) (i + 1) (by omega) (by omega)
    obtain ⟨k5, k0, k1, k2⟩ := kids_shape (rd xs i)
    have hle := kids_le (rd xs i)
    refine Ev.step (f := fun k => impl_typeEnd.j0 k xs i false) (fun k => ?_) ?_
    · simp only [impl_typeEnd.f]; rw [if_neg (by omega), decide_eq_false (by omega)]
    · have open_ : ∀ k, impl_typeEnd.j0 (k + 1) xs i false = (if (shapeV (rd xs i)).1 = 0 then some (i + 1) else if (shapeV (rd xs i)).1 = 4 then impl_typeEnd.f k xs (i + 1) else if (shapeV (rd xs i)).1 = 5 then some (-1) else (impl_typeEnd.f k xs (i + 1)).bind fun j => impl_typeEnd.f k xs j) := by
        intro k
        simp only [impl_typeEnd.j0, shape_eq, Option.bind_some, Bool.false_eq_true, if_false, if_pos h0, if_pos i1, up, Option.bind_fun_some]
      refine Ev.step open_ ?_
      unfold eat
      by_cases c : kidsV (rd xs i) < 0
      · have := k5.mp c
        simp only [this]
        simpa [c] using Ev.now (-1 : Int)
      · rw [if_neg c]
        by_cases c0 : kidsV (rd xs i) = 0
        · simp only [k0.mp c0, c0]
          simpa using Ev.now (i + 1)
        · by_cases c1 : kidsV (rd xs i) = 1
          · simp only [k1.mp c1, c1]
            simpa using next
          · have c2 : kidsV (rd xs i) = 2 := by omega
            have s0 : ¬ (shapeV (rd xs i)).1 = 0 := fun h => c0 (k0.mpr h)
            have s4 : ¬ (shapeV (rd xs i)).1 = 4 := fun h => c1 (k1.mpr h)
            have s5 : ¬ (shapeV (rd xs i)).1 = 5 := fun h => c (k5.mpr h)
            simp only [if_neg s0, if_neg s4, if_neg s5, c2]
            refine Ev.bind next ?_
            have ea := eat_add xs 1 (by omega) m 1 (i + 1) (by omega) (by omega)
            have er := eat_range xs m 1 (i + 1) (by omega)
            have goal_ : (if (1 : Int) - 1 + 2 = 0 then i + 1 else eat xs m (1 - 1 + 2) (i + 1)) = eat xs m (1 + 1) (i + 1) := by rw [if_neg (by decide)]; rfl
            rw [goal_, ea]
            by_cases e : eat xs m 1 (i + 1) = -1
            · rw [if_pos e, e]; exact implEnd_bad xs (-1) (by omega)
            · rw [if_neg e]
              have e' := er.resolve_left e
              exact ih _ (by omega) _ (by omega) (by omega)
def writtenV (xs : List Int) : Bool := inV xs.length 1 40 && decide (eat xs xs.length 1 0 = (xs.length : Int))
theorem specWritten (xs : List Int) (hl : xs.length ≤ 1048576) : Ev (fun k => spec_l2Type.f k xs) (writtenV xs) := by
  unfold spec_l2Type.f writtenV
  have main := specEnd0 xs hl (i := 0) (by omega) (by omega)
  rw [show ((xs.length : Int) - 0).toNat = xs.length by omega] at main
  by_cases c : (xs.length : Int) ≤ 40
  · refine evCongr (fun k => if_pos c) ?_
    refine Ev.bind main ?_
    unfold inV
    by_cases c1 : eat xs xs.length 1 0 = (xs.length : Int)
    · by_cases c2 : (xs.length : Int) > 0
      · have c3 : (xs.length : Int) ≥ 1 := by omega
        simp only [if_pos c1, decide_eq_true c, decide_eq_true c1, decide_eq_true c2, decide_eq_true c3]
        exact Ev.now _
      · have c3 : ¬ (xs.length : Int) ≥ 1 := by omega
        simp only [if_pos c1, decide_eq_true c, decide_eq_true c1, decide_eq_false c2, decide_eq_false c3]
        exact Ev.now _
    · simp only [if_neg c1, decide_eq_false c1, Bool.and_false]
      exact Ev.now _
  · refine evCongr (fun k => if_neg c) ?_
    unfold inV
    rw [decide_eq_false c, Bool.and_false, Bool.false_and]
    exact Ev.now _
theorem implWritten (xs : List Int) (hl : xs.length ≤ 1048576) : Ev (fun k => impl_isWrittenType.f k xs) (writtenV xs) := by
  unfold impl_isWrittenType.f writtenV
  simp only [within_eq, Option.bind_some]
  have main := implEnd xs hl xs.length 0 (by omega) (by omega)
  cases inV (xs.length : Int) 1 40
  · simpa using Ev.now false
  · simp only [if_true, Bool.true_and]
    refine Ev.bind main ?_
    by_cases c1 : eat xs xs.length 1 0 = (xs.length : Int)
    · simp only [c1, beq_self_eq_true, decide_true]; exact Ev.now _
    · simp only [beq_eq_false_iff_ne.mpr c1, decide_eq_false c1]; exact Ev.now _
end Go.Proofs.Ytipfkicndjddgaa.Pure
end

section
namespace Go.Proofs.Ytipfkicndjddgaa.P
open Go.RowKit Go.Proofs.YtipfkicndjddgaaW.PrintWords Go.Proofs.YtipfkicndjddgaaW.PrintLast Go.Proofs.YtipfkicndjddgaaW.PrintMore
attribute [local go_sem] max2_int min2_int max_two min_two max_three min_three max_four min_four   -- for this text's walks alone
set_option linter.unusedVariables false
set_option linter.unusedSimpArgs false

/-! ### spec_l2Node: function 111 -/
def spec_l2Node.j0 : Nat → Int → Bool → Int → Int → List Int → List (S40) → Option (Bool)
 | 0, _, _, _, _, _, _ => none
 | k + 1, x2, x3, x174000, x174001, x174002, x174003 => (spec_l2Typed.f x174000).bind fun t178 => (if t178 = true then ((spec_l2Type.f k x174002).bind fun t179 => (if t179 = true then ((spec_l2Graded.f k x174002 x2 x3).bind fun t180 => (some t180)) else (some false))) else (some ((x174002.length : Int) == 0)))
def spec_l2Node.f (k : Nat) (a0_0 : Int) (a0_1 : Int) (l0_2 : List Int) (l0_3 : List (S40)) (a1 : Int) (a2 : Int) (a3 : Bool) : Option (Bool) := (spec_l2Many.f a0_0).bind fun t174 => (if (l0_3.length : Int) = t174 then (if a0_0 = 0 then ((spec_l1In.f a0_1 0 (wrap64 (a1 - 1))).bind fun t175 => (if t175 = true then (spec_l2Node.j0 k a2 a3 a0_0 a0_1 l0_2 l0_3) else (some false))) else (if a0_0 = 1 then ((spec_l1In.f a0_1 0 2).bind fun t176 => (if t176 = true then (spec_l2Node.j0 k a2 a3 a0_0 a0_1 l0_2 l0_3) else (some false))) else ((spec_l2Has.f a0_0).bind fun t177 => (if t177 = true then (if a0_1 ≥ a2 then (some false) else (if a0_1 < (-1) then (some false) else (if a3 = true then (if a0_1 < 0 then (some false) else (spec_l2Node.j0 k a2 a3 a0_0 a0_1 l0_2 l0_3)) else (spec_l2Node.j0 k a2 a3 a0_0 a0_1 l0_2 l0_3)))) else (if a0_1 = 0 then (spec_l2Node.j0 k a2 a3 a0_0 a0_1 l0_2 l0_3) else (some false)))))) else (some false))
set_option maxHeartbeats 8000000 in
set_option maxRecDepth 100000 in
theorem spec_l2Node.calls (k : Nat) (a0_0 : Int) (a0_1 : Int) (A0_2 : Option Addr) (c0_2 : Nat) (l0_2 : List Int) (A0_3 : Option Addr) (c0_3 : Nat) (l0_3 : List (S40)) (a1 : Int) (a2 : Int) (a3 : Bool) (r : Bool) (w : World) (hr0_2 : Kd.C (Kd.int .i64) w A0_2 l0_2.length l0_2) (hc0_2 : l0_2.length ≤ c0_2) (hr0_3 : Kd.C k40 w A0_3 l0_3.length l0_3) (hc0_3 : l0_3.length ≤ c0_3) (h : spec_l2Node.f k a0_0 a0_1 l0_2 l0_3 a1 a2 a3 = some r) :
  Calls Try.prog 111 #[.agg #[.int .i64 a0_0, .int .i64 a0_1, .slice A0_2 l0_2.length c0_2, .slice A0_3 l0_3.length c0_3], .int .i64 a1, .int .i64 a2, .bool a3] w fun e w' => e = .returned (.bool r) ∧ Below w.heap.size w w' := by
 have hu40 := Try.underlying40
 have HR0_2 := sd_ hr0_2
 have HC0_2 := sd_ hc0_2
 clear hr0_2 hc0_2
 have HR0_3 := sd_ hr0_3
 have HC0_3 := sd_ hc0_3
 clear hr0_3 hc0_3
 have HB := sd_ (Below.refl w.heap.size w)
 have H : ((spec_l2Many.f a0_0).bind fun t174 => (if (l0_3.length : Int) = t174 then (if a0_0 = 0 then ((spec_l1In.f a0_1 0 (wrap64 (a1 - 1))).bind fun t175 => (if t175 = true then (spec_l2Node.j0 k a2 a3 a0_0 a0_1 l0_2 l0_3) else (some false))) else (if a0_0 = 1 then ((spec_l1In.f a0_1 0 2).bind fun t176 => (if t176 = true then (spec_l2Node.j0 k a2 a3 a0_0 a0_1 l0_2 l0_3) else (some false))) else ((spec_l2Has.f a0_0).bind fun t177 => (if t177 = true then (if a0_1 ≥ a2 then (some false) else (if a0_1 < (-1) then (some false) else (if a3 = true then (if a0_1 < 0 then (some false) else (spec_l2Node.j0 k a2 a3 a0_0 a0_1 l0_2 l0_3)) else (spec_l2Node.j0 k a2 a3 a0_0 a0_1 l0_2 l0_3)))) else (if a0_1 = 0 then (spec_l2Node.j0 k a2 a3 a0_0 a0_1 l0_2 l0_3) else (some false)))))) else (some false))) = some r := h
 clear h
 replace H := Option.bind_eq_some_iff.mp H
 obtain ⟨t174, A50, H⟩ := H
 try dsimp only at H
 have A5 := sd_ A50
 clear A50
 by_cases c6 : (l0_3.length : Int) = t174
 ·rw [if_pos c6] at H
  have c6b0 : ((l0_3.length : Int) == t174) = true := beq_iff_eq.mpr c6
  have c6b1 : ((l0_3.length : Int) != t174) = false := bne_eq_false_iff_eq.mpr c6
  clear c6
  have HC7 := sd_ H
  clear H
  go_enter Try.func111, Try.ntmps111
  try go_wp2_with (first | ((with_reducible refine gate_dst (N := 4) rfl ?_); refine bx_ (N := 4) (cs := #[.int .i64 a0_0, .int .i64 a0_1, .slice A0_2 l0_2.length c0_2, .slice A0_3 l0_3.length c0_3]) (t := 40) ?_; intro gb173 hg w8 hbox hb; have BK173 := sd_ (hbox); have GW173 := sd_ (gs_ hg (bw0_ HB.out)); have GE173 := sd_ (gs_ hg (bw0_ HB.out)); replace HB := sd_ (below_step (bw0_ HB.out) hb); clear hb hbox hg))
  refine qb_region (by kernel_rfl) (by kernel_rfl) ?_
  repeat ((first | (apply qb_skip; (focus rfl)) | (refine qb_callN 14 rfl ?_; apply qb_call 14 rfl Try.func136 (by kernel_rfl) rfl rfl; (focus rfl); (focus (exact fun wq9 hb9 => qb_b hb9 (spec_l2Many.calls a0_0 t174 _ A5.out))); (focus (rfl))) | (apply qb_val; (focus rfl); (focus (intro wq9 _; go_simp; with_reducible rfl))) | (apply qb_val; (focus rfl); (focus (intro wq9 hb9_; have hb9 : Below w8.heap.size w8 wq9 := hb9_; have BK173 := sd_ (blk_below BK173.out hb9); have hc9_173_0 : wq9.cell? ⟨gb173, 0, none⟩ = some (.int .i64 a0_0) := (blk_cell BK173.out 0).trans rfl; have hc9_173_1 : wq9.cell? ⟨gb173, 1, none⟩ = some (.int .i64 a0_1) := (blk_cell BK173.out 1).trans rfl; have hc9_173_2 : wq9.cell? ⟨gb173, 2, none⟩ = some (.slice A0_2 l0_2.length c0_2) := (blk_cell BK173.out 2).trans rfl; have hc9_173_3 : wq9.cell? ⟨gb173, 3, none⟩ = some (.slice A0_3 l0_3.length c0_3) := (blk_cell BK173.out 3).trans rfl; go_simp; with_reducible rfl)))); (focus (simp only [Act.put, List.setIfInBounds_toArray, List.set_cons_zero, List.set_cons_succ, i64_w, i32_w]; rfl)))
  refine qb_nil ?_
  intro w10 hb
  replace BK173 := sd_ (blk_below BK173.out hb)
  replace HB := sd_ (below_step HB.out hb)
  clear hb
  (try clear HQ)
  go_upto_block 0 with (fail)
  go_cut [] (fun wc => ∃ (kq : Nat), Aside0 (spec_l2Node.j0 kq a2 a3 a0_0 a0_1 l0_2 l0_3 = some r) ∧ Aside0 (kq ≤ k) ∧ Aside0 (wc.heap[gb173]? = some (.cells #[.int .i64 a0_0, .int .i64 a0_1, (.slice A0_2 l0_2.length c0_2), (.slice A0_3 l0_3.length c0_3)] 40 (0, 0))) ∧ Aside0 (Below w.heap.size w wc))
  case first =>
   have H := HC7.out
   clear HC7
   by_cases c11 : a0_0 = 0
   ·rw [if_pos c11] at H
    have c11b0 : (a0_0 == 0) = true := beq_iff_eq.mpr c11
    have c11b1 : (a0_0 != 0) = false := bne_eq_false_iff_eq.mpr c11
    clear c11
    (first | rw [c11b0] | (simp only [i64_w, i32_w]; rw [c11b0]) | skip)
    replace H := Option.bind_eq_some_iff.mp H
    obtain ⟨t175, A120, H⟩ := H
    try dsimp only at H
    have A12 := sd_ A120
    clear A120
    by_cases c13 : t175 = true
    ·subst c13
     have H1 : (spec_l2Node.j0 k a2 a3 a0_0 a0_1 l0_2 l0_3) = some r := by rw [if_pos rfl] at H; exact H
     clear H
     have H := H1
     clear H1
     have H' := sd_ H
     clear H
     obtain ⟨hcz14_0, hcz14_1, hcz14_2, hcz14_3, hfz14_0, hfz14_1, hfz14_2, hfz14_3⟩ := bf4_ BK173.out
     go_wp2_with (first | ((with_reducible refine gate_callee (f := 112) rfl ?_); refine goesL_ (some 27) rfl rfl Try.func112 (by kernel_rfl) rfl #[.int .i64 a0_1, .int .i64 0, .int .i64 (wrap64 (a1 - 1))] rfl la_ ?_; (with_reducible refine (spec_l1In.calls a0_1 0 (wrap64 (a1 - 1)) true _ A12.out).mono ?_); rintro e w' ⟨rfl, ⟨nd, rfl⟩⟩; refine ⟨_, rfl, ?_⟩))
     go_meet
     case rel => exact ⟨_, H', ⟨by first | omega | exact Nat.le_refl _⟩, ⟨by exact bz_ BK173.out⟩, ⟨bw1_ HB.out GE173.out⟩⟩
    replace c13 := Bool.eq_false_iff.mpr c13
    subst c13
    have H1 : (some false) = some r := by rw [if_neg (show ¬ (false = true) by decide)] at H; exact H
    clear H
    have H := H1
    clear H1
    obtain rfl := Option.some.inj H
    obtain ⟨hcz15_0, hcz15_1, hcz15_2, hcz15_3, hfz15_0, hfz15_1, hfz15_2, hfz15_3⟩ := bf4_ BK173.out
    go_wp2_with (first | ((with_reducible refine gate_callee (f := 112) rfl ?_); refine goesL_ (some 27) rfl rfl Try.func112 (by kernel_rfl) rfl #[.int .i64 a0_1, .int .i64 0, .int .i64 (wrap64 (a1 - 1))] rfl la_ ?_; (with_reducible refine (spec_l1In.calls a0_1 0 (wrap64 (a1 - 1)) false _ A12.out).mono ?_); rintro e w' ⟨rfl, ⟨nd, rfl⟩⟩; refine ⟨_, rfl, ?_⟩))
    go_ret
    exact ⟨an_, bw1_ HB.out GE173.out⟩
   rw [if_neg c11] at H
   have c11b0 : (a0_0 == 0) = false := beq_eq_false_iff_ne.mpr c11
   have c11b1 : (a0_0 != 0) = true := bne_iff_ne.mpr c11
   (first | rw [c11b0] | (simp only [i64_w, i32_w]; rw [c11b0]) | skip)
   by_cases c16 : a0_0 = 1
   ·rw [if_pos c16] at H
    have c16b0 : (a0_0 == 1) = true := beq_iff_eq.mpr c16
    have c16b1 : (a0_0 != 1) = false := bne_eq_false_iff_eq.mpr c16
    clear c16
    replace H := Option.bind_eq_some_iff.mp H
    obtain ⟨t176, A170, H⟩ := H
    try dsimp only at H
    have A17 := sd_ A170
    clear A170
    by_cases c18 : t176 = true
    ·subst c18
     have H1 : (spec_l2Node.j0 k a2 a3 a0_0 a0_1 l0_2 l0_3) = some r := by rw [if_pos rfl] at H; exact H
     clear H
     have H := H1
     clear H1
     have H' := sd_ H
     clear H
     obtain ⟨hcz19_0, hcz19_1, hcz19_2, hcz19_3, hfz19_0, hfz19_1, hfz19_2, hfz19_3⟩ := bf4_ BK173.out
     go_wp2_with (first | ((with_reducible refine gate_callee (f := 112) rfl ?_); refine goesL_ (some 35) rfl rfl Try.func112 (by kernel_rfl) rfl #[.int .i64 a0_1, .int .i64 0, .int .i64 2] rfl la_ ?_; (with_reducible refine (spec_l1In.calls a0_1 0 2 true _ A17.out).mono ?_); rintro e w' ⟨rfl, ⟨nd, rfl⟩⟩; refine ⟨_, rfl, ?_⟩))
     go_meet
     case rel => exact ⟨_, H', ⟨by first | omega | exact Nat.le_refl _⟩, ⟨by exact bz_ BK173.out⟩, ⟨bw1_ HB.out GE173.out⟩⟩
    replace c18 := Bool.eq_false_iff.mpr c18
    subst c18
    have H1 : (some false) = some r := by rw [if_neg (show ¬ (false = true) by decide)] at H; exact H
    clear H
    have H := H1
    clear H1
    obtain rfl := Option.some.inj H
    obtain ⟨hcz20_0, hcz20_1, hcz20_2, hcz20_3, hfz20_0, hfz20_1, hfz20_2, hfz20_3⟩ := bf4_ BK173.out
    go_wp2_with (first | ((with_reducible refine gate_callee (f := 112) rfl ?_); refine goesL_ (some 35) rfl rfl Try.func112 (by kernel_rfl) rfl #[.int .i64 a0_1, .int .i64 0, .int .i64 2] rfl la_ ?_; (with_reducible refine (spec_l1In.calls a0_1 0 2 false _ A17.out).mono ?_); rintro e w' ⟨rfl, ⟨nd, rfl⟩⟩; refine ⟨_, rfl, ?_⟩))
    go_ret
    exact ⟨an_, bw1_ HB.out GE173.out⟩
   rw [if_neg c16] at H
   have c16b0 : (a0_0 == 1) = false := beq_eq_false_iff_ne.mpr c16
   have c16b1 : (a0_0 != 1) = true := bne_iff_ne.mpr c16
   replace H := Option.bind_eq_some_iff.mp H
   obtain ⟨t177, A210, H⟩ := H
   try dsimp only at H
   have A21 := sd_ A210
   clear A210
   by_cases c22 : t177 = true
   ·subst c22
    have H1 : (if a0_1 ≥ a2 then (some false) else (if a0_1 < (-1) then (some false) else (if a3 = true then (if a0_1 < 0 then (some false) else (spec_l2Node.j0 k a2 a3 a0_0 a0_1 l0_2 l0_3)) else (spec_l2Node.j0 k a2 a3 a0_0 a0_1 l0_2 l0_3)))) = some r := by rw [if_pos rfl] at H; exact H
    clear H
    have H := H1
    clear H1
    by_cases c23 : a0_1 ≥ a2
    ·rw [if_pos c23] at H
     have c23b0 : decide (a2 ≤ a0_1) = true := decide_eq_true c23
     clear c23
     obtain rfl := Option.some.inj H
     obtain ⟨hcz24_0, hcz24_1, hcz24_2, hcz24_3, hfz24_0, hfz24_1, hfz24_2, hfz24_3⟩ := bf4_ BK173.out
     go_wp2_with (first | ((with_reducible refine gate_callee (f := 84) rfl ?_); refine goesL_ (some 40) rfl rfl Try.func84 (by kernel_rfl) rfl #[.int .i64 a0_0] rfl la_ ?_; (with_reducible refine (spec_l2Has.calls a0_0 true _ A21.out).mono ?_); rintro e w' ⟨rfl, ⟨nd, rfl⟩⟩; refine ⟨_, rfl, ?_⟩))
     go_ret
     exact ⟨an_, bw1_ HB.out GE173.out⟩
    rw [if_neg c23] at H
    have c23b0 : decide (a2 ≤ a0_1) = false := decide_eq_false c23
    clear c23
    by_cases c25 : a0_1 < (-1)
    ·rw [if_pos c25] at H
     have c25b0 : decide (a0_1 < (-1)) = true := decide_eq_true c25
     clear c25
     obtain rfl := Option.some.inj H
     obtain ⟨hcz26_0, hcz26_1, hcz26_2, hcz26_3, hfz26_0, hfz26_1, hfz26_2, hfz26_3⟩ := bf4_ BK173.out
     go_wp2_with (first | ((with_reducible refine gate_callee (f := 84) rfl ?_); refine goesL_ (some 40) rfl rfl Try.func84 (by kernel_rfl) rfl #[.int .i64 a0_0] rfl la_ ?_; (with_reducible refine (spec_l2Has.calls a0_0 true _ A21.out).mono ?_); rintro e w' ⟨rfl, ⟨nd, rfl⟩⟩; refine ⟨_, rfl, ?_⟩))
     go_ret
     exact ⟨an_, bw1_ HB.out GE173.out⟩
    rw [if_neg c25] at H
    have c25b0 : decide (a0_1 < (-1)) = false := decide_eq_false c25
    clear c25
    by_cases c27 : a3 = true
    ·subst c27
     have H1 : (if a0_1 < 0 then (some false) else (spec_l2Node.j0 k a2 true a0_0 a0_1 l0_2 l0_3)) = some r := by rw [if_pos rfl] at H; exact H
     clear H
     have H := H1
     clear H1
     by_cases c28 : a0_1 < 0
     ·rw [if_pos c28] at H
      have c28b0 : decide (a0_1 < 0) = true := decide_eq_true c28
      clear c28
      obtain rfl := Option.some.inj H
      obtain ⟨hcz29_0, hcz29_1, hcz29_2, hcz29_3, hfz29_0, hfz29_1, hfz29_2, hfz29_3⟩ := bf4_ BK173.out
      go_wp2_with (first | ((with_reducible refine gate_callee (f := 84) rfl ?_); refine goesL_ (some 40) rfl rfl Try.func84 (by kernel_rfl) rfl #[.int .i64 a0_0] rfl la_ ?_; (with_reducible refine (spec_l2Has.calls a0_0 true _ A21.out).mono ?_); rintro e w' ⟨rfl, ⟨nd, rfl⟩⟩; refine ⟨_, rfl, ?_⟩))
      go_ret
      exact ⟨an_, bw1_ HB.out GE173.out⟩
     rw [if_neg c28] at H
     have c28b0 : decide (a0_1 < 0) = false := decide_eq_false c28
     clear c28
     have H' := sd_ H
     clear H
     obtain ⟨hcz30_0, hcz30_1, hcz30_2, hcz30_3, hfz30_0, hfz30_1, hfz30_2, hfz30_3⟩ := bf4_ BK173.out
     go_wp2_with (first | ((with_reducible refine gate_callee (f := 84) rfl ?_); refine goesL_ (some 40) rfl rfl Try.func84 (by kernel_rfl) rfl #[.int .i64 a0_0] rfl la_ ?_; (with_reducible refine (spec_l2Has.calls a0_0 true _ A21.out).mono ?_); rintro e w' ⟨rfl, ⟨nd, rfl⟩⟩; refine ⟨_, rfl, ?_⟩))
     go_meet
     case rel => exact ⟨_, H', ⟨by first | omega | exact Nat.le_refl _⟩, ⟨by exact bz_ BK173.out⟩, ⟨bw1_ HB.out GE173.out⟩⟩
    replace c27 := Bool.eq_false_iff.mpr c27
    subst c27
    have H1 : (spec_l2Node.j0 k a2 false a0_0 a0_1 l0_2 l0_3) = some r := by rw [if_neg (show ¬ (false = true) by decide)] at H; exact H
    clear H
    have H := H1
    clear H1
    have H' := sd_ H
    clear H
    obtain ⟨hcz31_0, hcz31_1, hcz31_2, hcz31_3, hfz31_0, hfz31_1, hfz31_2, hfz31_3⟩ := bf4_ BK173.out
    go_wp2_with (first | ((with_reducible refine gate_callee (f := 84) rfl ?_); refine goesL_ (some 40) rfl rfl Try.func84 (by kernel_rfl) rfl #[.int .i64 a0_0] rfl la_ ?_; (with_reducible refine (spec_l2Has.calls a0_0 true _ A21.out).mono ?_); rintro e w' ⟨rfl, ⟨nd, rfl⟩⟩; refine ⟨_, rfl, ?_⟩))
    go_meet
    case rel => exact ⟨_, H', ⟨by first | omega | exact Nat.le_refl _⟩, ⟨by exact bz_ BK173.out⟩, ⟨bw1_ HB.out GE173.out⟩⟩
   replace c22 := Bool.eq_false_iff.mpr c22
   subst c22
   have H1 : (if a0_1 = 0 then (spec_l2Node.j0 k a2 a3 a0_0 a0_1 l0_2 l0_3) else (some false)) = some r := by rw [if_neg (show ¬ (false = true) by decide)] at H; exact H
   clear H
   have H := H1
   clear H1
   by_cases c32 : a0_1 = 0
   ·rw [if_pos c32] at H
    have c32b0 : (a0_1 == 0) = true := beq_iff_eq.mpr c32
    have c32b1 : (a0_1 != 0) = false := bne_eq_false_iff_eq.mpr c32
    clear c32
    have H' := sd_ H
    clear H
    obtain ⟨hcz33_0, hcz33_1, hcz33_2, hcz33_3, hfz33_0, hfz33_1, hfz33_2, hfz33_3⟩ := bf4_ BK173.out
    go_wp2_with (first | ((with_reducible refine gate_callee (f := 84) rfl ?_); refine goesL_ (some 40) rfl rfl Try.func84 (by kernel_rfl) rfl #[.int .i64 a0_0] rfl la_ ?_; (with_reducible refine (spec_l2Has.calls a0_0 false _ A21.out).mono ?_); rintro e w' ⟨rfl, ⟨nd, rfl⟩⟩; refine ⟨_, rfl, ?_⟩))
    go_meet
    case rel => exact ⟨_, H', ⟨by first | omega | exact Nat.le_refl _⟩, ⟨by exact bz_ BK173.out⟩, ⟨bw1_ HB.out GE173.out⟩⟩
   rw [if_neg c32] at H
   have c32b0 : (a0_1 == 0) = false := beq_eq_false_iff_ne.mpr c32
   have c32b1 : (a0_1 != 0) = true := bne_iff_ne.mpr c32
   obtain rfl := Option.some.inj H
   obtain ⟨hcz34_0, hcz34_1, hcz34_2, hcz34_3, hfz34_0, hfz34_1, hfz34_2, hfz34_3⟩ := bf4_ BK173.out
   go_wp2_with (first | ((with_reducible refine gate_callee (f := 84) rfl ?_); refine goesL_ (some 40) rfl rfl Try.func84 (by kernel_rfl) rfl #[.int .i64 a0_0] rfl la_ ?_; (with_reducible refine (spec_l2Has.calls a0_0 false _ A21.out).mono ?_); rintro e w' ⟨rfl, ⟨nd, rfl⟩⟩; refine ⟨_, rfl, ?_⟩))
   go_ret
   exact ⟨an_, bw1_ HB.out GE173.out⟩
  case rest =>
   clear HC7
   try clear c1
   try clear p2
   try clear c6
   try clear c6b0
   try clear c6b1
   try clear p6
   try clear c9
   try clear q9
   try clear c11
   try clear c13
   obtain ⟨kq, HA, HJ6, BK173, HB⟩ := hcut
   cases kq with
   | zero => exact absurd HA.out (by simp [spec_l2Node.j0])
   | succ kj6 =>
    have H := HA.out
    clear HA
    simp only [spec_l2Node.j0] at H
    replace H := Option.bind_eq_some_iff.mp H
    obtain ⟨t178, A350, H⟩ := H
    try dsimp only at H
    have A35 := sd_ A350
    clear A350
    by_cases c36 : t178 = true
    ·subst c36
     have H1 : ((spec_l2Type.f kj6 l0_2).bind fun t179 => (if t179 = true then ((spec_l2Graded.f kj6 l0_2 a2 a3).bind fun t180 => (some t180)) else (some false))) = some r := by rw [if_pos rfl] at H; exact H
     clear H
     have H := H1
     clear H1
     replace H := Option.bind_eq_some_iff.mp H
     obtain ⟨t179, A370, H⟩ := H
     try dsimp only at H
     have A37 := sd_ A370
     clear A370
     by_cases c38 : t179 = true
     ·subst c38
      have H1 : ((spec_l2Graded.f kj6 l0_2 a2 a3).bind fun t180 => (some t180)) = some r := by rw [if_pos rfl] at H; exact H
      clear H
      have H := H1
      clear H1
      replace H := Option.bind_eq_some_iff.mp H
      obtain ⟨t180, A390, H⟩ := H
      try dsimp only at H
      have A39 := sd_ A390
      clear A390
      obtain rfl := Option.some.inj H
      obtain ⟨hcz40_0, hcz40_1, hcz40_2, hcz40_3, hfz40_0, hfz40_1, hfz40_2, hfz40_3⟩ := bf4_ BK173.out
      go_wp2_with (first | ((with_reducible refine gate_callee (f := 86) rfl ?_); refine goesL_ (some 60) rfl rfl Try.func86 (by kernel_rfl) rfl #[.int .i64 a0_0] rfl la_ ?_; (with_reducible refine (spec_l2Typed.calls a0_0 true _ A35.out).mono ?_); rintro e w' ⟨rfl, ⟨nd, rfl⟩⟩; refine ⟨_, rfl, ?_⟩) | ((with_reducible refine gate_callee (f := 113) rfl ?_); refine goesL_ (some 68) rfl rfl Try.func113 (by kernel_rfl) rfl #[.slice A0_2 l0_2.length c0_2] rfl la_ ?_; (with_reducible refine (spec_l2Type.calls kj6 _ _ l0_2 true _ ?side1 ?side2 A37.out).mono ?_); (case side1 => repeat (first | exact (Kd.C_below HR0_2.out (bw1_ HB.out GE173.out)) | (with_reducible refine Kd.C_alloc ?_ _) | (with_reducible refine Kd.C_drewN ?_ _) | (with_reducible refine Kd.C_drew ?_))); (case side2 => exact HC0_2.out); rintro e w' ⟨rfl, ⟨nd, rfl⟩⟩; refine ⟨_, rfl, ?_⟩) | (go_at_call 137; (with_reducible refine (spec_l2Graded.calls kj6 _ _ l0_2 a2 a3 t180 _ ?side1 ?side2 A39.out).mono ?_); (case side1 => repeat (first | exact (Kd.C_below HR0_2.out (bw1_ HB.out GE173.out)) | (with_reducible refine Kd.C_alloc ?_ _) | (with_reducible refine Kd.C_drewN ?_ _) | (with_reducible refine Kd.C_drew ?_))); (case side2 => exact HC0_2.out); rintro e w' ⟨rfl, ⟨nd, rfl⟩⟩))
      go_ret
      exact ⟨an_, bw1_ HB.out GE173.out⟩
     replace c38 := Bool.eq_false_iff.mpr c38
     subst c38
     have H1 : (some false) = some r := by rw [if_neg (show ¬ (false = true) by decide)] at H; exact H
     clear H
     have H := H1
     clear H1
     obtain rfl := Option.some.inj H
     obtain ⟨hcz41_0, hcz41_1, hcz41_2, hcz41_3, hfz41_0, hfz41_1, hfz41_2, hfz41_3⟩ := bf4_ BK173.out
     go_wp2_with (first | ((with_reducible refine gate_callee (f := 86) rfl ?_); refine goesL_ (some 60) rfl rfl Try.func86 (by kernel_rfl) rfl #[.int .i64 a0_0] rfl la_ ?_; (with_reducible refine (spec_l2Typed.calls a0_0 true _ A35.out).mono ?_); rintro e w' ⟨rfl, ⟨nd, rfl⟩⟩; refine ⟨_, rfl, ?_⟩) | ((with_reducible refine gate_callee (f := 113) rfl ?_); refine goesL_ (some 68) rfl rfl Try.func113 (by kernel_rfl) rfl #[.slice A0_2 l0_2.length c0_2] rfl la_ ?_; (with_reducible refine (spec_l2Type.calls kj6 _ _ l0_2 false _ ?side1 ?side2 A37.out).mono ?_); (case side1 => repeat (first | exact (Kd.C_below HR0_2.out (bw1_ HB.out GE173.out)) | (with_reducible refine Kd.C_alloc ?_ _) | (with_reducible refine Kd.C_drewN ?_ _) | (with_reducible refine Kd.C_drew ?_))); (case side2 => exact HC0_2.out); rintro e w' ⟨rfl, ⟨nd, rfl⟩⟩; refine ⟨_, rfl, ?_⟩))
     go_ret
     exact ⟨an_, bw1_ HB.out GE173.out⟩
    replace c36 := Bool.eq_false_iff.mpr c36
    subst c36
    have H1 : (some ((l0_2.length : Int) == 0)) = some r := by rw [if_neg (show ¬ (false = true) by decide)] at H; exact H
    clear H
    have H := H1
    clear H1
    obtain rfl := Option.some.inj H
    obtain ⟨hcz42_0, hcz42_1, hcz42_2, hcz42_3, hfz42_0, hfz42_1, hfz42_2, hfz42_3⟩ := bf4_ BK173.out
    go_wp2_with (first | ((with_reducible refine gate_callee (f := 86) rfl ?_); refine goesL_ (some 60) rfl rfl Try.func86 (by kernel_rfl) rfl #[.int .i64 a0_0] rfl la_ ?_; (with_reducible refine (spec_l2Typed.calls a0_0 false _ A35.out).mono ?_); rintro e w' ⟨rfl, ⟨nd, rfl⟩⟩; refine ⟨_, rfl, ?_⟩))
    go_ret
    exact ⟨an_, bw1_ HB.out GE173.out⟩
 rw [if_neg c6] at H
 have c6b0 : ((l0_3.length : Int) == t174) = false := beq_eq_false_iff_ne.mpr c6
 have c6b1 : ((l0_3.length : Int) != t174) = true := bne_iff_ne.mpr c6
 obtain rfl := Option.some.inj H
 go_enter Try.func111, Try.ntmps111
 try go_wp2_with (first | ((with_reducible refine gate_dst (N := 4) rfl ?_); refine bx_ (N := 4) (cs := #[.int .i64 a0_0, .int .i64 a0_1, .slice A0_2 l0_2.length c0_2, .slice A0_3 l0_3.length c0_3]) (t := 40) ?_; intro gb173 hg w43 hbox hb; have BK173 := sd_ (hbox); have GW173 := sd_ (gs_ hg (bw0_ HB.out)); have GE173 := sd_ (gs_ hg (bw0_ HB.out)); replace HB := sd_ (below_step (bw0_ HB.out) hb); clear hb hbox hg))
 refine qb_region (by kernel_rfl) (by kernel_rfl) ?_
 repeat ((first | (apply qb_skip; (focus rfl)) | (refine qb_callN 14 rfl ?_; apply qb_call 14 rfl Try.func136 (by kernel_rfl) rfl rfl; (focus rfl); (focus (exact fun wq9 hb9 => qb_b hb9 (spec_l2Many.calls a0_0 t174 _ A5.out))); (focus (rfl))) | (apply qb_val; (focus rfl); (focus (intro wq9 _; go_simp; with_reducible rfl))) | (apply qb_val; (focus rfl); (focus (intro wq9 hb9_; have hb9 : Below w43.heap.size w43 wq9 := hb9_; have BK173 := sd_ (blk_below BK173.out hb9); have hc9_173_0 : wq9.cell? ⟨gb173, 0, none⟩ = some (.int .i64 a0_0) := (blk_cell BK173.out 0).trans rfl; have hc9_173_1 : wq9.cell? ⟨gb173, 1, none⟩ = some (.int .i64 a0_1) := (blk_cell BK173.out 1).trans rfl; have hc9_173_2 : wq9.cell? ⟨gb173, 2, none⟩ = some (.slice A0_2 l0_2.length c0_2) := (blk_cell BK173.out 2).trans rfl; have hc9_173_3 : wq9.cell? ⟨gb173, 3, none⟩ = some (.slice A0_3 l0_3.length c0_3) := (blk_cell BK173.out 3).trans rfl; go_simp; with_reducible rfl)))); (focus (simp only [Act.put, List.setIfInBounds_toArray, List.set_cons_zero, List.set_cons_succ, i64_w, i32_w]; rfl)))
 refine qb_nil ?_
 intro w45 hb
 replace BK173 := sd_ (blk_below BK173.out hb)
 replace HB := sd_ (below_step HB.out hb)
 clear hb
 (try clear HQ)
 try go_wp2
 go_ret
 exact ⟨an_, bw1_ HB.out GE173.out⟩

end Go.Proofs.Ytipfkicndjddgaa.P
end
