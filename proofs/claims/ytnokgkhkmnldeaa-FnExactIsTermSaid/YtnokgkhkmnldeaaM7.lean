-- Several texts in one (wip/tools/merge.py).
import Derived.Test.YtnokgkhkmnldeaaM6
import Derived.Test.YtnokgkhkmnldeaaM5
import Derived.Test.YtnokgkhkmnldeaaM1
import Derived.Test.YtnokgkhkmnldeaaM2
import Derived.Test.YtnokgkhkmnldeaaM4
section
/- Types in their code: where one ends; what is written. -/
set_option linter.unusedSimpArgs false
set_option linter.unusedVariables false
namespace Go.Proofs.Ytnokgkhkmnldeaa.Pure
open Go.RowKit Go.Proofs.Ytnokgkhkmnldeaa.P Go.Proofs.YtnokgkhkmnldeaaW.PrintWords Go.Proofs.YtnokgkhkmnldeaaW.PrintLast
def kidsV (c : Int) : Int := if c = 0 then 0 else if c = 1 ∨ c = 2 ∨ (3 ≤ c ∧ c ≤ 18) ∨ c = 35 then 2 else if (19 ≤ c ∧ c ≤ 34) ∨ c = 36 then 1 else -1
def shapeV (c : Int) : Int × Int := if 0 ≤ c ∧ c ≤ 2 then (c, -1) else if 3 ≤ c ∧ c ≤ 18 then (3, c - 3) else if 19 ≤ c ∧ c ≤ 34 then (4, c - 19) else if c = 35 then (3, -1) else if c = 36 then (4, -1) else (5, -1)
theorem inV_iff (x lo hi : Int) : inV x lo hi = true ↔ lo ≤ x ∧ x ≤ hi := by
  unfold inV; rw [Bool.and_eq_true, decide_eq_true_eq, decide_eq_true_eq]
theorem kids_eq (k : Nat) (c : Int) : spec_l2Kids.f (k + 1) c = some (kidsV c) := by
  unfold spec_l2Kids.f spec_l2Arrow.f kidsV
  simp only [spec_l2Kids.j0, spec_l2Box.f, in_eq, Option.bind_some]
  by_cases c0 : c = 0
  · simp [c0]
  by_cases c1 : c = 1
  · simp [c1]
  by_cases c2 : c = 2
  · simp [c2]
  by_cases c3 : 3 ≤ c ∧ c ≤ 18
  · have e := (inV_iff c 3 18).mpr c3
    simp [c0, c1, c2, c3, e]
  have e3 : inV c 3 18 = false := by rw [Bool.eq_false_iff]; exact fun h => c3 ((inV_iff c 3 18).mp h)
  by_cases c4 : c = 35
  · simp [c4, inV]
  by_cases c5 : 19 ≤ c ∧ c ≤ 34
  · have e := (inV_iff c 19 34).mpr c5
    simp [c0, c1, c2, c3, c4, c5, e, e3]
  have e5 : inV c 19 34 = false := by rw [Bool.eq_false_iff]; exact fun h => c5 ((inV_iff c 19 34).mp h)
  by_cases c6 : c = 36
  · simp [c6, inV]
  · simp [c0, c1, c2, c3, c4, c5, c6, e3, e5]
theorem shape_eq (c : Int) : impl_shape.f c = some (shapeV c) := by
  unfold impl_shape.f shapeV
  simp only [within_eq, Option.bind_some]
  by_cases c0 : 0 ≤ c ∧ c ≤ 2
  · simp [(inV_iff c 0 2).mpr c0, c0]
  have e0 : inV c 0 2 = false := by rw [Bool.eq_false_iff]; exact fun h => c0 ((inV_iff c 0 2).mp h)
  by_cases c3 : 3 ≤ c ∧ c ≤ 18
  · simp only [e0, (inV_iff c 3 18).mpr c3, if_neg c0, if_pos c3, Bool.false_eq_true, if_false, if_true, w64 (x := c - 3) (by omega) (by omega)]
  have e3 : inV c 3 18 = false := by rw [Bool.eq_false_iff]; exact fun h => c3 ((inV_iff c 3 18).mp h)
  by_cases c5 : 19 ≤ c ∧ c ≤ 34
  · simp only [e0, e3, (inV_iff c 19 34).mpr c5, if_neg c0, if_neg c3, if_pos c5, Bool.false_eq_true, if_false, if_true, w64 (x := c - 19) (by omega) (by omega)]
  have e5 : inV c 19 34 = false := by rw [Bool.eq_false_iff]; exact fun h => c5 ((inV_iff c 19 34).mp h)
  simp only [e0, e3, e5, if_neg c0, if_neg c3, if_neg c5, Bool.false_eq_true, if_false]
  by_cases c6 : c = 35
  · simp [c6]
  · by_cases c7 : c = 36
    · simp [c7]
    · simp [c6, c7]
/-- Where d types that begin at i end, m places ahead: -1 where none. -/
def eat (xs : List Int) : Nat → Int → Int → Int
  | 0, _, _ => -1
  | m + 1, d, i => if kidsV (rd xs i) < 0 then -1 else if d - 1 + kidsV (rd xs i) = 0 then i + 1 else eat xs m (d - 1 + kidsV (rd xs i)) (i + 1)
theorem kids_le (c : Int) : kidsV c ≤ 2 := by unfold kidsV; repeat' split <;> omega
theorem eat_range (xs : List Int) : ∀ (m : Nat) (d i : Int), 0 ≤ i → eat xs m d i = -1 ∨ (i < eat xs m d i ∧ eat xs m d i ≤ i + m)
  | 0, _, _, _ => Or.inl rfl
  | m + 1, d, i, h => by
    unfold eat
    split
    · exact Or.inl rfl
    · split
      · right; constructor <;> omega
      · rcases eat_range xs m (d - 1 + kidsV (rd xs i)) (i + 1) (by omega) with e | e
        · exact Or.inl e
        · right; constructor <;> omega
theorem eat_add (xs : List Int) (e : Int) (he : 1 ≤ e) : ∀ (m : Nat) (d i : Int), 0 ≤ i → 1 ≤ d → eat xs m (d + e) i = if eat xs m d i = -1 then -1 else eat xs (i + m - eat xs m d i).toNat e (eat xs m d i)
  | 0, d, i, h, hd => by simp [eat]
  | m + 1, d, i, h, hd => by
    by_cases c : kidsV (rd xs i) < 0
    · simp [eat, c]
    · by_cases c1 : d - 1 + kidsV (rd xs i) = 0
      · have e1 : eat xs (m + 1) d i = i + 1 := by simp [eat, c, c1]
        have e2 : eat xs (m + 1) (d + e) i = eat xs m e (i + 1) := by
          have e4 : d + e - 1 + kidsV (rd xs i) = e := by omega
          have e3 : ¬ e = 0 := by omega
          simp only [eat, if_neg c, e4, if_neg e3]
        rw [e1, e2, if_neg (by omega), show (i + ((m + 1 : Nat) : Int) - (i + 1)).toNat = m by omega]
      · have e1 : eat xs (m + 1) d i = eat xs m (d - 1 + kidsV (rd xs i)) (i + 1) := by simp [eat, c, c1]
        have e4 : d + e - 1 + kidsV (rd xs i) = d - 1 + kidsV (rd xs i) + e := by omega
        have e2 : eat xs (m + 1) (d + e) i = eat xs m (d - 1 + kidsV (rd xs i) + e) (i + 1) := by
          have e3 : ¬ d - 1 + kidsV (rd xs i) + e = 0 := by omega
          simp only [eat, if_neg c, e4, if_neg e3]
        rw [e1, e2, eat_add xs e he m (d - 1 + kidsV (rd xs i)) (i + 1) (by omega) (by omega), show i + 1 + (m : Int) = i + ((m + 1 : Nat) : Int) by omega]
theorem specEnd (xs : List Int) (hl : xs.length ≤ 1048576) : ∀ (m : Nat) (d i : Int), 0 ≤ i → i + m = xs.length → 1 ≤ d → d ≤ 1048576 + i → Ev (fun k => spec_l2End.l0 k xs d i) (eat xs m d i)
  | 0, d, i, h0, h1, hd, hd' => by
    refine Ev.step (f := fun _ => some (-1)) (fun k => ?_) (Ev.now _)
    simp only [spec_l2End.l0]; rw [if_neg (by omega)]
  | m + 1, d, i, h0, h1, hd, hd' => by
    have hk := kids_le (rd xs i)
    have i1 : i < (xs.length : Int) := by omega
    have run : ∀ (r : Int) (F : Nat → Option Int), (∀ k, (if kidsV (rd xs i) < 0 then some (-1) else if d - 1 + kidsV (rd xs i) = 0 then some (i + 1) else spec_l2End.l0 (k + 1) xs (d - 1 + kidsV (rd xs i)) (i + 1)) = F k) → Ev F r → Ev (fun k => spec_l2End.l0 k xs d i) r := by
      rintro r F hF ⟨K, hK⟩
      refine ⟨K + 2, fun k hk2 => ?_⟩
      obtain ⟨k, rfl⟩ : ∃ q, k = q + 2 := ⟨k - 2, by omega⟩
      rw [← hK k (by omega), ← hF k]
      show (if i < (xs.length : Int) then _ else _) = _
      rw [if_pos i1, if_pos h0, kids_eq, Option.bind_some]
      by_cases c : kidsV (rd xs i) < 0
      · rw [if_pos c, if_pos c]
      · rw [if_neg c, if_neg c, w64 (x := d - 1) (by omega) (by omega), w64 (x := d - 1 + kidsV (rd xs i)) (by omega) (by omega), w64 (x := i + 1) (by omega) (by omega)]
    unfold eat
    by_cases c : kidsV (rd xs i) < 0
    · rw [if_pos c]
      exact run _ (fun _ => some (-1)) (fun k => if_pos c) (Ev.now _)
    · rw [if_neg c]
      by_cases c1 : d - 1 + kidsV (rd xs i) = 0
      · rw [if_pos c1]
        exact run _ (fun _ => some (i + 1)) (fun k => (if_neg c).trans (if_pos c1)) (Ev.now _)
      · rw [if_neg c1]
        obtain ⟨K, hK⟩ := specEnd xs hl m (d - 1 + kidsV (rd xs i)) (i + 1) (by omega) (by omega) (by omega) (by omega)
        exact run _ (fun k => spec_l2End.l0 (k + 1) xs (d - 1 + kidsV (rd xs i)) (i + 1)) (fun k => (if_neg c).trans (if_neg c1)) ⟨K, fun k hk => hK (k + 1) (by omega)⟩
theorem specEnd0 (xs : List Int) (hl : xs.length ≤ 1048576) {i : Int} (h0 : 0 ≤ i) (h1 : i ≤ xs.length) : Ev (fun k => spec_l2End.f k xs i) (eat xs (xs.length - i).toNat 1 i) := by
  unfold spec_l2End.f
  exact specEnd xs hl _ 1 i h0 (by omega) (by omega) (by omega)
theorem kids_shape (c : Int) : (kidsV c < 0 ↔ (shapeV c).1 = 5) ∧ (kidsV c = 0 ↔ (shapeV c).1 = 0) ∧ (kidsV c = 1 ↔ (shapeV c).1 = 4) ∧ (kidsV c = 2 ↔ ((shapeV c).1 = 1 ∨ (shapeV c).1 = 2 ∨ (shapeV c).1 = 3)) := by
  unfold kidsV shapeV
  repeat' split
  all_goals (refine ⟨?_, ?_, ?_, ?_⟩ <;> simp <;> omega)
theorem implEnd_bad (xs : List Int) (i : Int) (h : i < 0 ∨ (xs.length : Int) ≤ i) : Ev (fun k => impl_typeEnd.f k xs i) (-1) := by
  refine Ev.step (f := fun k => impl_typeEnd.j0 k xs i true) (fun k => ?_) (Ev.step (f := fun _ => some (-1)) (fun k => ?_) (Ev.now _))
  · simp only [impl_typeEnd.f]
    by_cases c : i < 0
    · rw [if_pos c]
    · rw [if_neg c, decide_eq_true (by omega)]
  · simp only [impl_typeEnd.j0, if_true]
theorem implEnd (xs : List Int) (hl : xs.length ≤ 1048576) : ∀ (m : Nat) (i : Int), 0 ≤ i → i + m = xs.length → Ev (fun k => impl_typeEnd.f k xs i) (eat xs m 1 i) := by
  intro m
  induction m using Nat.strongRecOn with
  | _ m ih =>
  intro i h0 h1
  cases m with
  | zero => exact implEnd_bad xs i (by omega)
  | succ m =>
    have i1 : i < (xs.length : Int) := by omega
    have up : wrap64 (i + 1) = i + 1 := w64 (by omega) (by omega)
    have next := ih m (by omega) (i + 1) (by omega) (by omega)
    obtain ⟨k5, k0, k1, k2⟩ := kids_shape (rd xs i)
    have hle := kids_le (rd xs i)
    refine Ev.step (f := fun k => impl_typeEnd.j0 k xs i false) (fun k => ?_) ?_
    · simp only [impl_typeEnd.f]; rw [if_neg (by omega), decide_eq_false (by omega)]
    · have open_ : ∀ k, impl_typeEnd.j0 (k + 1) xs i false = (if (shapeV (rd xs i)).1 = 0 then some (i + 1) else if (shapeV (rd xs i)).1 = 4 then impl_typeEnd.f k xs (i + 1) else if (shapeV (rd xs i)).1 = 5 then some (-1) else (impl_typeEnd.f k xs (i + 1)).bind fun j => impl_typeEnd.f k xs j) := by
        intro k
        simp only [impl_typeEnd.j0, shape_eq, Option.bind_some, Bool.false_eq_true, if_false, if_pos h0, if_pos i1, up, Option.bind_fun_some]
      refine Ev.step open_ ?_
      unfold eat
      by_cases c : kidsV (rd xs i) < 0
      · have := k5.mp c
        simp only [this]
        simpa [c] using Ev.now (-1 : Int)
      · rw [if_neg c]
        by_cases c0 : kidsV (rd xs i) = 0
        · simp only [k0.mp c0, c0]
          simpa using Ev.now (i + 1)
        · by_cases c1 : kidsV (rd xs i) = 1
          · simp only [k1.mp c1, c1]
            simpa using next
          · have c2 : kidsV (rd xs i) = 2 := by omega
            have s0 : ¬ (shapeV (rd xs i)).1 = 0 := fun h => c0 (k0.mpr h)
            have s4 : ¬ (shapeV (rd xs i)).1 = 4 := fun h => c1 (k1.mpr h)
            have s5 : ¬ (shapeV (rd xs i)).1 = 5 := fun h => c (k5.mpr h)
            simp only [if_neg s0, if_neg s4, if_neg s5, c2]
            refine Ev.bind next ?_
            have ea := eat_add xs 1 (by omega) m 1 (i + 1) (by omega) (by omega)
            have er := eat_range xs m 1 (i + 1) (by omega)
            have goal_ : (if (1 : Int) - 1 + 2 = 0 then i + 1 else eat xs m (1 - 1 + 2) (i + 1)) = eat xs m (1 + 1) (i + 1) := by rw [if_neg (by decide)]; rfl
            rw [goal_, ea]
            by_cases e : eat xs m 1 (i + 1) = -1
            · rw [if_pos e, e]; exact implEnd_bad xs (-1) (by omega)
            · rw [if_neg e]
              have e' := er.resolve_left e
              exact ih _ (by omega) _ (by omega) (by omega)
def writtenV (xs : List Int) : Bool := inV xs.length 1 40 && decide (eat xs xs.length 1 0 = (xs.length : Int))
theorem specWritten (xs : List Int) (hl : xs.length ≤ 1048576) : Ev (fun k => spec_l2Type.f k xs) (writtenV xs) := by
  unfold spec_l2Type.f writtenV
  have main := specEnd0 xs hl (i := 0) (by omega) (by omega)
  rw [show ((xs.length : Int) - 0).toNat = xs.length by omega] at main
  by_cases c : (xs.length : Int) ≤ 40
  · refine evCongr (fun k => if_pos c) ?_
    refine Ev.bind main ?_
    unfold inV
    by_cases c1 : eat xs xs.length 1 0 = (xs.length : Int)
    · by_cases c2 : (xs.length : Int) > 0
      · have c3 : (xs.length : Int) ≥ 1 := by omega
        simp only [if_pos c1, decide_eq_true c, decide_eq_true c1, decide_eq_true c2, decide_eq_true c3]
        exact Ev.now _
      · have c3 : ¬ (xs.length : Int) ≥ 1 := by omega
        simp only [if_pos c1, decide_eq_true c, decide_eq_true c1, decide_eq_false c2, decide_eq_false c3]
        exact Ev.now _
    · simp only [if_neg c1, decide_eq_false c1, Bool.and_false]
      exact Ev.now _
  · refine evCongr (fun k => if_neg c) ?_
    unfold inV
    rw [decide_eq_false c, Bool.and_false, Bool.false_and]
    exact Ev.now _
theorem implWritten (xs : List Int) (hl : xs.length ≤ 1048576) : Ev (fun k => impl_isWrittenType.f k xs) (writtenV xs) := by
  unfold impl_isWrittenType.f writtenV
  simp only [within_eq, Option.bind_some]
  have main := implEnd xs hl xs.length 0 (by omega) (by omega)
  cases inV (xs.length : Int) 1 40
  · simpa using Ev.now false
  · simp only [if_true, Bool.true_and]
    refine Ev.bind main ?_
    by_cases c1 : eat xs xs.length 1 0 = (xs.length : Int)
    · simp only [c1, beq_self_eq_true, decide_true]; exact Ev.now _
    · simp only [beq_eq_false_iff_ne.mpr c1, decide_eq_false c1]; exact Ev.now _
end Go.Proofs.Ytnokgkhkmnldeaa.Pure
end

section
namespace Go.Proofs.Ytnokgkhkmnldeaa.P
open Go.RowKit Go.Proofs.YtnokgkhkmnldeaaW.PrintWords Go.Proofs.YtnokgkhkmnldeaaW.PrintLast Go.Proofs.YtnokgkhkmnldeaaW.PrintMore
attribute [local go_sem] max2_int min2_int max_two min_two max_three min_three max_four min_four   -- for this text's walks alone
set_option linter.unusedVariables false
set_option linter.unusedSimpArgs false

/-! ### spec_l1Tables: function 87 -/
mutual
def spec_l1Tables.j0 : Nat → Bool → Int → List Int → List Int → List Bool → Option (Bool)
 | 0, _, _, _, _, _ => none
 | k + 1, x40, x258000, x258001, x258002, x258003 => if x40 = true then (some false) else (spec_l1Tables.l0 k 0 x258000 x258001 x258002 x258003)
def spec_l1Tables.l0 : Nat → Int → Int → List Int → List Int → List Bool → Option (Bool)
 | 0, _, _, _, _, _ => none
 | k + 1, x3, x258000, x258001, x258002, x258003 => if x3 < (x258001.length : Int) then (if 0 ≤ x3 then ((spec_l1In.f (rd x258001 x3) 0 (wrap64 (x258000 - 1))).bind fun t260 => (if t260 = true then (if x3 < (x258002.length : Int) then ((spec_l1In.f (rd x258002 x3) 0 (wrap64 (x258000 - 1))).bind fun t262 => (if t262 = true then (spec_l1Tables.l0 k (wrap64 (x3 + 1)) x258000 x258001 x258002 x258003) else (some false))) else (none)) else (some false))) else (none)) else (some true)
end
def spec_l1Tables.f (k : Nat) (a0_0 : Int) (l0_1 : List Int) (l0_2 : List Int) (l0_3 : List Bool) : Option (Bool) := (spec_l1In.f a0_0 2 16).bind fun t258 => (if t258 = true then (if (l0_1.length : Int) = (wrap64 (a0_0 * a0_0)) then (if (l0_2.length : Int) = (wrap64 (a0_0 * a0_0)) then (spec_l1Tables.j0 k ((l0_3.length : Int) != (wrap64 (a0_0 * a0_0))) a0_0 l0_1 l0_2 l0_3) else (spec_l1Tables.j0 k true a0_0 l0_1 l0_2 l0_3)) else (spec_l1Tables.j0 k true a0_0 l0_1 l0_2 l0_3)) else (spec_l1Tables.j0 k true a0_0 l0_1 l0_2 l0_3))
set_option maxHeartbeats 8000000 in
set_option maxRecDepth 100000 in
theorem spec_l1Tables.calls (k : Nat) (a0_0 : Int) (A0_1 : Option Addr) (c0_1 : Nat) (l0_1 : List Int) (A0_2 : Option Addr) (c0_2 : Nat) (l0_2 : List Int) (A0_3 : Option Addr) (c0_3 : Nat) (l0_3 : List Bool) (r : Bool) (w : World) (hr0_1 : Kd.C (Kd.int .i64) w A0_1 l0_1.length l0_1) (hc0_1 : l0_1.length ≤ c0_1) (hr0_2 : Kd.C (Kd.int .i64) w A0_2 l0_2.length l0_2) (hc0_2 : l0_2.length ≤ c0_2) (hr0_3 : Kd.C Kd.bool w A0_3 l0_3.length l0_3) (hc0_3 : l0_3.length ≤ c0_3) (h : spec_l1Tables.f k a0_0 l0_1 l0_2 l0_3 = some r) :
  Calls Try.prog 87 #[.agg #[.int .i64 a0_0, .slice A0_1 l0_1.length c0_1, .slice A0_2 l0_2.length c0_2, .slice A0_3 l0_3.length c0_3]] w fun e w' => e = .returned (.bool r) ∧ Below w.heap.size w w' := by
 have hu37 := Try.underlying37
 have HR0_1 := sd_ hr0_1
 have HC0_1 := sd_ hc0_1
 clear hr0_1 hc0_1
 have HR0_2 := sd_ hr0_2
 have HC0_2 := sd_ hc0_2
 clear hr0_2 hc0_2
 have HR0_3 := sd_ hr0_3
 have HC0_3 := sd_ hc0_3
 clear hr0_3 hc0_3
 have HB := sd_ (Below.refl w.heap.size w)
 have H : ((spec_l1In.f a0_0 2 16).bind fun t258 => (if t258 = true then (if (l0_1.length : Int) = (wrap64 (a0_0 * a0_0)) then (if (l0_2.length : Int) = (wrap64 (a0_0 * a0_0)) then (spec_l1Tables.j0 k ((l0_3.length : Int) != (wrap64 (a0_0 * a0_0))) a0_0 l0_1 l0_2 l0_3) else (spec_l1Tables.j0 k true a0_0 l0_1 l0_2 l0_3)) else (spec_l1Tables.j0 k true a0_0 l0_1 l0_2 l0_3)) else (spec_l1Tables.j0 k true a0_0 l0_1 l0_2 l0_3))) = some r := h
 clear h
 have HC2 := sd_ H
 clear H
 go_enter Try.func87, Try.ntmps87
 go_upto_region 1 with (first | ((with_reducible refine gate_dst (N := 1) rfl ?_); (try (refine gate_guard (by rfl) ?_; dsimp only)); refine box_event ?hg (N := 1) ?hd (cs := #[.int .i64 a0_0, .slice A0_1 l0_1.length c0_1, .slice A0_2 l0_2.length c0_2, .slice A0_3 l0_3.length c0_3]) (t := 37) ?hr ?_; (case hd => rfl); (case hg => rfl); (case hr => first | (go_simp; done) | (go_simp; rfl)); intro gb257 hg w3 hbox hb; have BK257 := sd_ (hbox); have GW257 := sd_ ((by rw [hg]; exact (below_size (bw0_ HB.out)) : w.heap.size ≤ gb257)); have GE257 := sd_ ((by rw [hg]; exact (below_size (bw0_ HB.out)) : w.heap.size ≤ gb257)); replace HB := sd_ (below_step (bw0_ HB.out) hb); clear hb hbox hg))
 (try simp only [Act.put, List.setIfInBounds_toArray, List.set_cons_zero, List.set_cons_succ])
 go_cut [40] (fun v40 wc => ∃ (kq : Nat) (x40_1 : Bool), v40 = .bool x40_1 ∧ Aside0 (spec_l1Tables.j0 kq x40_1 a0_0 l0_1 l0_2 l0_3 = some r) ∧ Aside0 (kq ≤ k) ∧ Aside0 (wc.heap[gb257]? = some (.cells #[.int .i64 a0_0, (.slice A0_1 l0_1.length c0_1), (.slice A0_2 l0_2.length c0_2), (.slice A0_3 l0_3.length c0_3)] 37 (0, 0))) ∧ Aside0 (Below w.heap.size w wc))
 case first =>
  have H := HC2.out
  clear HC2
  replace H := Option.bind_eq_some_iff.mp H
  obtain ⟨t258, A40, H⟩ := H
  try dsimp only at H
  have A4 := sd_ A40
  clear A40
  by_cases c5 : t258 = true
  ·subst c5
   have H1 : (if (l0_1.length : Int) = (wrap64 (a0_0 * a0_0)) then (if (l0_2.length : Int) = (wrap64 (a0_0 * a0_0)) then (spec_l1Tables.j0 k ((l0_3.length : Int) != (wrap64 (a0_0 * a0_0))) a0_0 l0_1 l0_2 l0_3) else (spec_l1Tables.j0 k true a0_0 l0_1 l0_2 l0_3)) else (spec_l1Tables.j0 k true a0_0 l0_1 l0_2 l0_3)) = some r := by rw [if_pos rfl] at H; exact H
   clear H
   have H := H1
   clear H1
   by_cases c6 : (l0_1.length : Int) = (wrap64 (a0_0 * a0_0))
   ·rw [if_pos c6] at H
    have c6b0 : ((l0_1.length : Int) == (wrap64 (a0_0 * a0_0))) = true := beq_iff_eq.mpr c6
    have c6b1 : ((l0_1.length : Int) != (wrap64 (a0_0 * a0_0))) = false := bne_eq_false_iff_eq.mpr c6
    clear c6
    (first | rw [c6b0] | (simp only [i64_w, i32_w]; rw [c6b0]) | skip)
    by_cases c7 : (l0_2.length : Int) = (wrap64 (a0_0 * a0_0))
    ·rw [if_pos c7] at H
     have c7b0 : ((l0_2.length : Int) == (wrap64 (a0_0 * a0_0))) = true := beq_iff_eq.mpr c7
     have c7b1 : ((l0_2.length : Int) != (wrap64 (a0_0 * a0_0))) = false := bne_eq_false_iff_eq.mpr c7
     clear c7
     have H' := sd_ H
     clear H
     have hcz8_0 : w3.cell? ⟨gb257, 0, none⟩ = some (.int .i64 a0_0) := (blk_cell BK257.out 0).trans rfl
     have hcz8_1 : w3.cell? ⟨gb257, 1, none⟩ = some (.slice A0_1 l0_1.length c0_1) := (blk_cell BK257.out 1).trans rfl
     have hcz8_2 : w3.cell? ⟨gb257, 2, none⟩ = some (.slice A0_2 l0_2.length c0_2) := (blk_cell BK257.out 2).trans rfl
     have hcz8_3 : w3.cell? ⟨gb257, 3, none⟩ = some (.slice A0_3 l0_3.length c0_3) := (blk_cell BK257.out 3).trans rfl
     have hfz8_0 := blk_frozen BK257.out 0
     have hfz8_1 := blk_frozen BK257.out 1
     have hfz8_2 := blk_frozen BK257.out 2
     have hfz8_3 := blk_frozen BK257.out 3
     go_wp2_with (first | ((with_reducible refine gate_callee (f := 80) rfl ?_); refine goesL_ (some 6) rfl rfl Try.func80 (by kernel_rfl) rfl #[.int .i64 a0_0, .int .i64 2, .int .i64 16] rfl (by (try simp only [List.map_toArray, List.map_cons, List.map_nil]); first | done | rfl | (simp only [List.length_drop, List.length_take]; rfl)) ?_; (with_reducible refine (spec_l1In.calls a0_0 2 16 true _ A4.out).mono ?_); rintro e w' ⟨rfl, ⟨nd, rfl⟩⟩; refine ⟨_, rfl, ?_⟩))
     go_meet
     case rel => exact ⟨_, (((l0_3.length : Int) != (wrap64 (a0_0 * a0_0)))), (by first | rfl | (simp; done) | (simp [*]; done)), H', ⟨by first | omega | exact Nat.le_refl _⟩, ⟨by (with_reducible repeat (first | refine blk_drewN ?_ _ | refine blk_drew ?_ | refine blk_alloc ?_ _)); exact BK257.out⟩, ⟨bw1_ HB.out GE257.out⟩⟩
    ·rw [if_neg c7] at H
     have c7b0 : ((l0_2.length : Int) == (wrap64 (a0_0 * a0_0))) = false := beq_eq_false_iff_ne.mpr c7
     have c7b1 : ((l0_2.length : Int) != (wrap64 (a0_0 * a0_0))) = true := bne_iff_ne.mpr c7
     have H' := sd_ H
     clear H
     have hcz9_0 : w3.cell? ⟨gb257, 0, none⟩ = some (.int .i64 a0_0) := (blk_cell BK257.out 0).trans rfl
     have hcz9_1 : w3.cell? ⟨gb257, 1, none⟩ = some (.slice A0_1 l0_1.length c0_1) := (blk_cell BK257.out 1).trans rfl
     have hcz9_2 : w3.cell? ⟨gb257, 2, none⟩ = some (.slice A0_2 l0_2.length c0_2) := (blk_cell BK257.out 2).trans rfl
     have hcz9_3 : w3.cell? ⟨gb257, 3, none⟩ = some (.slice A0_3 l0_3.length c0_3) := (blk_cell BK257.out 3).trans rfl
     have hfz9_0 := blk_frozen BK257.out 0
     have hfz9_1 := blk_frozen BK257.out 1
     have hfz9_2 := blk_frozen BK257.out 2
     have hfz9_3 := blk_frozen BK257.out 3
     go_wp2_with (first | ((with_reducible refine gate_callee (f := 80) rfl ?_); refine goesL_ (some 6) rfl rfl Try.func80 (by kernel_rfl) rfl #[.int .i64 a0_0, .int .i64 2, .int .i64 16] rfl (by (try simp only [List.map_toArray, List.map_cons, List.map_nil]); first | done | rfl | (simp only [List.length_drop, List.length_take]; rfl)) ?_; (with_reducible refine (spec_l1In.calls a0_0 2 16 true _ A4.out).mono ?_); rintro e w' ⟨rfl, ⟨nd, rfl⟩⟩; refine ⟨_, rfl, ?_⟩))
     go_meet
     case rel => exact ⟨_, (true), (by first | rfl | (simp; done) | (simp [*]; done)), H', ⟨by first | omega | exact Nat.le_refl _⟩, ⟨by (with_reducible repeat (first | refine blk_drewN ?_ _ | refine blk_drew ?_ | refine blk_alloc ?_ _)); exact BK257.out⟩, ⟨bw1_ HB.out GE257.out⟩⟩
   ·rw [if_neg c6] at H
    have c6b0 : ((l0_1.length : Int) == (wrap64 (a0_0 * a0_0))) = false := beq_eq_false_iff_ne.mpr c6
    have c6b1 : ((l0_1.length : Int) != (wrap64 (a0_0 * a0_0))) = true := bne_iff_ne.mpr c6
    (first | rw [c6b0] | (simp only [i64_w, i32_w]; rw [c6b0]) | skip)
    have H' := sd_ H
    clear H
    have hcz10_0 : w3.cell? ⟨gb257, 0, none⟩ = some (.int .i64 a0_0) := (blk_cell BK257.out 0).trans rfl
    have hcz10_1 : w3.cell? ⟨gb257, 1, none⟩ = some (.slice A0_1 l0_1.length c0_1) := (blk_cell BK257.out 1).trans rfl
    have hcz10_2 : w3.cell? ⟨gb257, 2, none⟩ = some (.slice A0_2 l0_2.length c0_2) := (blk_cell BK257.out 2).trans rfl
    have hcz10_3 : w3.cell? ⟨gb257, 3, none⟩ = some (.slice A0_3 l0_3.length c0_3) := (blk_cell BK257.out 3).trans rfl
    have hfz10_0 := blk_frozen BK257.out 0
    have hfz10_1 := blk_frozen BK257.out 1
    have hfz10_2 := blk_frozen BK257.out 2
    have hfz10_3 := blk_frozen BK257.out 3
    go_wp2_with (first | ((with_reducible refine gate_callee (f := 80) rfl ?_); refine goesL_ (some 6) rfl rfl Try.func80 (by kernel_rfl) rfl #[.int .i64 a0_0, .int .i64 2, .int .i64 16] rfl (by (try simp only [List.map_toArray, List.map_cons, List.map_nil]); first | done | rfl | (simp only [List.length_drop, List.length_take]; rfl)) ?_; (with_reducible refine (spec_l1In.calls a0_0 2 16 true _ A4.out).mono ?_); rintro e w' ⟨rfl, ⟨nd, rfl⟩⟩; refine ⟨_, rfl, ?_⟩))
    go_meet
    case rel => exact ⟨_, (true), (by first | rfl | (simp; done) | (simp [*]; done)), H', ⟨by first | omega | exact Nat.le_refl _⟩, ⟨by (with_reducible repeat (first | refine blk_drewN ?_ _ | refine blk_drew ?_ | refine blk_alloc ?_ _)); exact BK257.out⟩, ⟨bw1_ HB.out GE257.out⟩⟩
  ·replace c5 := Bool.eq_false_iff.mpr c5
   subst c5
   have H1 : (spec_l1Tables.j0 k true a0_0 l0_1 l0_2 l0_3) = some r := by rw [if_neg (show ¬ (false = true) by decide)] at H; exact H
   clear H
   have H := H1
   clear H1
   have H' := sd_ H
   clear H
   have hcz11_0 : w3.cell? ⟨gb257, 0, none⟩ = some (.int .i64 a0_0) := (blk_cell BK257.out 0).trans rfl
   have hcz11_1 : w3.cell? ⟨gb257, 1, none⟩ = some (.slice A0_1 l0_1.length c0_1) := (blk_cell BK257.out 1).trans rfl
   have hcz11_2 : w3.cell? ⟨gb257, 2, none⟩ = some (.slice A0_2 l0_2.length c0_2) := (blk_cell BK257.out 2).trans rfl
   have hcz11_3 : w3.cell? ⟨gb257, 3, none⟩ = some (.slice A0_3 l0_3.length c0_3) := (blk_cell BK257.out 3).trans rfl
   have hfz11_0 := blk_frozen BK257.out 0
   have hfz11_1 := blk_frozen BK257.out 1
   have hfz11_2 := blk_frozen BK257.out 2
   have hfz11_3 := blk_frozen BK257.out 3
   go_wp2_with (first | ((with_reducible refine gate_callee (f := 80) rfl ?_); refine goesL_ (some 6) rfl rfl Try.func80 (by kernel_rfl) rfl #[.int .i64 a0_0, .int .i64 2, .int .i64 16] rfl (by (try simp only [List.map_toArray, List.map_cons, List.map_nil]); first | done | rfl | (simp only [List.length_drop, List.length_take]; rfl)) ?_; (with_reducible refine (spec_l1In.calls a0_0 2 16 false _ A4.out).mono ?_); rintro e w' ⟨rfl, ⟨nd, rfl⟩⟩; refine ⟨_, rfl, ?_⟩))
   go_meet
   case rel => exact ⟨_, (true), (by first | rfl | (simp; done) | (simp [*]; done)), H', ⟨by first | omega | exact Nat.le_refl _⟩, ⟨by (with_reducible repeat (first | refine blk_drewN ?_ _ | refine blk_drew ?_ | refine blk_alloc ?_ _)); exact BK257.out⟩, ⟨bw1_ HB.out GE257.out⟩⟩
 case rest =>
  clear HC2
  try clear p6
  try clear c8
  obtain ⟨kq, x40_1, rfl, HA, HJ1, BK257, HB⟩ := hcut
  cases kq with
  | zero => exact absurd HA.out (by simp [spec_l1Tables.j0])
  | succ kj1 =>
   have H := HA.out
   clear HA
   simp only [spec_l1Tables.j0] at H
   by_cases c12 : x40_1 = true
   ·subst c12
    have H1 : (some false) = some r := by rw [if_pos rfl] at H; exact H
    clear H
    have H := H1
    clear H1
    obtain rfl := Option.some.inj H
    go_wp2
    go_ret
    exact ⟨an_, bw1_ HB.out GE257.out⟩
   ·replace c12 := Bool.eq_false_iff.mpr c12
    subst c12
    have H1 : (spec_l1Tables.l0 kj1 0 a0_0 l0_1 l0_2 l0_3) = some r := by rw [if_neg (show ¬ (false = true) by decide)] at H; exact H
    clear H
    have H := H1
    clear H1
    have H' := sd_ H
    clear H
    go_wp2
    go_loopg [3] kj1 (fun kq v3 w' => ∃ (x3_2 : Int), v3 = .int .i64 x3_2 ∧ Aside0 (spec_l1Tables.l0 kq x3_2 a0_0 l0_1 l0_2 l0_3 = some r) ∧ Aside0 (kq ≤ kj1) ∧ Aside0 (w'.heap[gb257]? = some (.cells #[.int .i64 a0_0, (.slice A0_1 l0_1.length c0_1), (.slice A0_2 l0_2.length c0_2), (.slice A0_3 l0_3.length c0_3)] 37 (0, 0))) ∧ Aside0 (Below w.heap.size w w'))
    case atStart => exact ⟨(0), (by first | rfl | (simp; done) | (simp [*]; done)), H', ⟨Nat.le_refl _⟩, ⟨by (with_reducible repeat (first | refine blk_drewN ?_ _ | refine blk_drew ?_ | refine blk_alloc ?_ _)); exact BK257.out⟩, ⟨bw1_ HB.out GE257.out⟩⟩
    case round =>
     clear H'
     try clear c1
     try clear p2
     try clear p6
     try clear c8
     try clear c12
     try clear p6
     obtain ⟨x3_2, rfl, HA, HK2, BK257, HB⟩ := hrel
     cases gk with
     | zero => exact absurd HA.out (by simp [spec_l1Tables.l0])
     | succ k2 =>
      have H := HA.out
      clear HA
      simp only [spec_l1Tables.l0] at H
      by_cases c13 : x3_2 < (l0_1.length : Int)
      ·rw [if_pos c13] at H
       have c13b0 : decide (x3_2 < (l0_1.length : Int)) = true := decide_eq_true c13
       clear c13
       by_cases c14 : 0 ≤ x3_2
       ·rw [if_pos c14] at H
        have c14b0 : decide (0 ≤ x3_2) = true := decide_eq_true c14
        clear c14
        replace H := Option.bind_eq_some_iff.mp H
        obtain ⟨t260, A150, H⟩ := H
        try dsimp only at H
        have A15 := sd_ A150
        clear A150
        by_cases c16 : t260 = true
        ·subst c16
         have H1 : (if x3_2 < (l0_2.length : Int) then ((spec_l1In.f (rd l0_2 x3_2) 0 (wrap64 (a0_0 - 1))).bind fun t262 => (if t262 = true then (spec_l1Tables.l0 k2 (wrap64 (x3_2 + 1)) a0_0 l0_1 l0_2 l0_3) else (some false))) else (none)) = some r := by rw [if_pos rfl] at H; exact H
         clear H
         have H := H1
         clear H1
         by_cases c17 : x3_2 < (l0_2.length : Int)
         ·rw [if_pos c17] at H
          have c17b0 : decide (x3_2 < (l0_2.length : Int)) = true := decide_eq_true c17
          clear c17
          replace H := Option.bind_eq_some_iff.mp H
          obtain ⟨t262, A180, H⟩ := H
          try dsimp only at H
          have A18 := sd_ A180
          clear A180
          by_cases c19 : t262 = true
          ·subst c19
           have H1 : (spec_l1Tables.l0 k2 (wrap64 (x3_2 + 1)) a0_0 l0_1 l0_2 l0_3) = some r := by rw [if_pos rfl] at H; exact H
           clear H
           have H := H1
           clear H1
           have H' := sd_ H
           clear H
           have hcz20_0 : wr.cell? ⟨gb257, 0, none⟩ = some (.int .i64 a0_0) := (blk_cell BK257.out 0).trans rfl
           have hcz20_1 : wr.cell? ⟨gb257, 1, none⟩ = some (.slice A0_1 l0_1.length c0_1) := (blk_cell BK257.out 1).trans rfl
           have hcz20_2 : wr.cell? ⟨gb257, 2, none⟩ = some (.slice A0_2 l0_2.length c0_2) := (blk_cell BK257.out 2).trans rfl
           have hcz20_3 : wr.cell? ⟨gb257, 3, none⟩ = some (.slice A0_3 l0_3.length c0_3) := (blk_cell BK257.out 3).trans rfl
           have hfz20_0 := blk_frozen BK257.out 0
           have hfz20_1 := blk_frozen BK257.out 1
           have hfz20_2 := blk_frozen BK257.out 2
           have hfz20_3 := blk_frozen BK257.out 3
           try go_wp2
           have p259 : 0 ≤ (x3_2 : Int) := of_decide_eq_true (by first | (with_reducible assumption) | assumption)
           have q259 : x3_2 < (l0_1.length : Int) := of_decide_eq_true (by first | (with_reducible assumption) | assumption)
           obtain ⟨ad259, e259, hx259_0⟩ := Kd.at_int HR0_1.out x3_2 p259 q259
           cases e259
           replace hx259_0 := (HB.out.cell (World.block_lt_of_cell? w _ hx259_0)).trans hx259_0
           replace p259 := eq_true p259
           replace q259 := eq_true q259
           have p261 : 0 ≤ (x3_2 : Int) := of_decide_eq_true (by first | (with_reducible assumption) | assumption)
           have q261 : x3_2 < (l0_2.length : Int) := of_decide_eq_true (by first | (with_reducible assumption) | assumption)
           obtain ⟨ad261, e261, hx261_0⟩ := Kd.at_int HR0_2.out x3_2 p261 q261
           cases e261
           replace hx261_0 := (HB.out.cell (World.block_lt_of_cell? w _ hx261_0)).trans hx261_0
           replace p261 := eq_true p261
           replace q261 := eq_true q261
           refine qb_region (by kernel_rfl) (by kernel_rfl) ?_
           repeat ((first | (apply qb_skip; (focus rfl)) | (refine qb_callN 56 rfl ?_; apply qb_call 56 rfl Try.func80 (by kernel_rfl) rfl rfl; (focus rfl); (focus (exact fun wq9 hb9 => qb_d hb9 (spec_l1In.calls (rd l0_1 x3_2) 0 (wrap64 (a0_0 - 1)) true _ A15.out))); (focus (rfl))) | (refine qb_callN 67 rfl ?_; apply qb_call 67 rfl Try.func80 (by kernel_rfl) rfl rfl; (focus rfl); (focus (exact fun wq9 hb9 => qb_d hb9 (spec_l1In.calls (rd l0_2 x3_2) 0 (wrap64 (a0_0 - 1)) true _ A18.out))); (focus (rfl))) | (apply qb_val; (focus rfl); (focus (intro wq9 _; go_simp; with_reducible rfl))) | (apply qb_val; (focus rfl); (focus (intro wq9 hb9_; have hb9 : Below wr.heap.size wr wq9 := hb9_; have BK257 := sd_ (blk_below BK257.out hb9); have hc9_257_0 : wq9.cell? ⟨gb257, 0, none⟩ = some (.int .i64 a0_0) := (blk_cell BK257.out 0).trans rfl; have hc9_257_1 : wq9.cell? ⟨gb257, 1, none⟩ = some (.slice (some ad259) l0_1.length c0_1) := (blk_cell BK257.out 1).trans rfl; have hc9_257_2 : wq9.cell? ⟨gb257, 2, none⟩ = some (.slice (some ad261) l0_2.length c0_2) := (blk_cell BK257.out 2).trans rfl; have hc9_257_3 : wq9.cell? ⟨gb257, 3, none⟩ = some (.slice A0_3 l0_3.length c0_3) := (blk_cell BK257.out 3).trans rfl; have hx259_0 := (hb9.cell (World.block_lt_of_cell? _ _ hx259_0)).trans hx259_0; have hx261_0 := (hb9.cell (World.block_lt_of_cell? _ _ hx261_0)).trans hx261_0; go_simp; with_reducible rfl)))); (focus (simp only [Act.put, List.setIfInBounds_toArray, List.set_cons_zero, List.set_cons_succ, i64_w, i32_w]; rfl)))
           refine qb_nil ?_
           intro w21 hb
           replace BK257 := sd_ (blk_below BK257.out hb)
           replace HB := sd_ (below_step HB.out hb)
           clear hb
           (try clear HQ)
           try go_wp2
           go_roundg k2
           case measure => have := HJ1.out; have := HK2.out; omega
           case rel => exact ⟨(wrap64 (x3_2 + 1)), (by first | rfl | (simp; done) | (simp [*]; done)), H', ⟨by have := HJ1.out; have := HK2.out; omega⟩, ⟨by (with_reducible repeat (first | refine blk_drewN ?_ _ | refine blk_drew ?_ | refine blk_alloc ?_ _)); exact BK257.out⟩, ⟨bw1_ HB.out GE257.out⟩⟩
          ·replace c19 := Bool.eq_false_iff.mpr c19
           subst c19
           have H1 : (some false) = some r := by rw [if_neg (show ¬ (false = true) by decide)] at H; exact H
           clear H
           have H := H1
           clear H1
           obtain rfl := Option.some.inj H
           have hcz22_0 : wr.cell? ⟨gb257, 0, none⟩ = some (.int .i64 a0_0) := (blk_cell BK257.out 0).trans rfl
           have hcz22_1 : wr.cell? ⟨gb257, 1, none⟩ = some (.slice A0_1 l0_1.length c0_1) := (blk_cell BK257.out 1).trans rfl
           have hcz22_2 : wr.cell? ⟨gb257, 2, none⟩ = some (.slice A0_2 l0_2.length c0_2) := (blk_cell BK257.out 2).trans rfl
           have hcz22_3 : wr.cell? ⟨gb257, 3, none⟩ = some (.slice A0_3 l0_3.length c0_3) := (blk_cell BK257.out 3).trans rfl
           have hfz22_0 := blk_frozen BK257.out 0
           have hfz22_1 := blk_frozen BK257.out 1
           have hfz22_2 := blk_frozen BK257.out 2
           have hfz22_3 := blk_frozen BK257.out 3
           try go_wp2
           have p259 : 0 ≤ (x3_2 : Int) := of_decide_eq_true (by first | (with_reducible assumption) | assumption)
           have q259 : x3_2 < (l0_1.length : Int) := of_decide_eq_true (by first | (with_reducible assumption) | assumption)
           obtain ⟨ad259, e259, hx259_0⟩ := Kd.at_int HR0_1.out x3_2 p259 q259
           cases e259
           replace hx259_0 := (HB.out.cell (World.block_lt_of_cell? w _ hx259_0)).trans hx259_0
           replace p259 := eq_true p259
           replace q259 := eq_true q259
           have p261 : 0 ≤ (x3_2 : Int) := of_decide_eq_true (by first | (with_reducible assumption) | assumption)
           have q261 : x3_2 < (l0_2.length : Int) := of_decide_eq_true (by first | (with_reducible assumption) | assumption)
           obtain ⟨ad261, e261, hx261_0⟩ := Kd.at_int HR0_2.out x3_2 p261 q261
           cases e261
           replace hx261_0 := (HB.out.cell (World.block_lt_of_cell? w _ hx261_0)).trans hx261_0
           replace p261 := eq_true p261
           replace q261 := eq_true q261
           refine qb_region (by kernel_rfl) (by kernel_rfl) ?_
           repeat ((first | (apply qb_skip; (focus rfl)) | (refine qb_callN 56 rfl ?_; apply qb_call 56 rfl Try.func80 (by kernel_rfl) rfl rfl; (focus rfl); (focus (exact fun wq9 hb9 => qb_d hb9 (spec_l1In.calls (rd l0_1 x3_2) 0 (wrap64 (a0_0 - 1)) true _ A15.out))); (focus (rfl))) | (refine qb_callN 67 rfl ?_; apply qb_call 67 rfl Try.func80 (by kernel_rfl) rfl rfl; (focus rfl); (focus (exact fun wq9 hb9 => qb_d hb9 (spec_l1In.calls (rd l0_2 x3_2) 0 (wrap64 (a0_0 - 1)) false _ A18.out))); (focus (rfl))) | (apply qb_val; (focus rfl); (focus (intro wq9 _; go_simp; with_reducible rfl))) | (apply qb_val; (focus rfl); (focus (intro wq9 hb9_; have hb9 : Below wr.heap.size wr wq9 := hb9_; have BK257 := sd_ (blk_below BK257.out hb9); have hc9_257_0 : wq9.cell? ⟨gb257, 0, none⟩ = some (.int .i64 a0_0) := (blk_cell BK257.out 0).trans rfl; have hc9_257_1 : wq9.cell? ⟨gb257, 1, none⟩ = some (.slice (some ad259) l0_1.length c0_1) := (blk_cell BK257.out 1).trans rfl; have hc9_257_2 : wq9.cell? ⟨gb257, 2, none⟩ = some (.slice (some ad261) l0_2.length c0_2) := (blk_cell BK257.out 2).trans rfl; have hc9_257_3 : wq9.cell? ⟨gb257, 3, none⟩ = some (.slice A0_3 l0_3.length c0_3) := (blk_cell BK257.out 3).trans rfl; have hx259_0 := (hb9.cell (World.block_lt_of_cell? _ _ hx259_0)).trans hx259_0; have hx261_0 := (hb9.cell (World.block_lt_of_cell? _ _ hx261_0)).trans hx261_0; go_simp; with_reducible rfl)))); (focus (simp only [Act.put, List.setIfInBounds_toArray, List.set_cons_zero, List.set_cons_succ, i64_w, i32_w]; rfl)))
           refine qb_nil ?_
           intro w23 hb
           replace BK257 := sd_ (blk_below BK257.out hb)
           replace HB := sd_ (below_step HB.out hb)
           clear hb
           (try clear HQ)
           try go_wp2
           go_ret
           exact ⟨an_, bw1_ HB.out GE257.out⟩
         ·rw [if_neg c17] at H
          exact absurd H (by simp)
        ·replace c16 := Bool.eq_false_iff.mpr c16
         subst c16
         have H1 : (some false) = some r := by rw [if_neg (show ¬ (false = true) by decide)] at H; exact H
         clear H
         have H := H1
         clear H1
         obtain rfl := Option.some.inj H
         have hcz24_0 : wr.cell? ⟨gb257, 0, none⟩ = some (.int .i64 a0_0) := (blk_cell BK257.out 0).trans rfl
         have hcz24_1 : wr.cell? ⟨gb257, 1, none⟩ = some (.slice A0_1 l0_1.length c0_1) := (blk_cell BK257.out 1).trans rfl
         have hcz24_2 : wr.cell? ⟨gb257, 2, none⟩ = some (.slice A0_2 l0_2.length c0_2) := (blk_cell BK257.out 2).trans rfl
         have hcz24_3 : wr.cell? ⟨gb257, 3, none⟩ = some (.slice A0_3 l0_3.length c0_3) := (blk_cell BK257.out 3).trans rfl
         have hfz24_0 := blk_frozen BK257.out 0
         have hfz24_1 := blk_frozen BK257.out 1
         have hfz24_2 := blk_frozen BK257.out 2
         have hfz24_3 := blk_frozen BK257.out 3
         try go_wp2
         have p259 : 0 ≤ (x3_2 : Int) := of_decide_eq_true (by first | (with_reducible assumption) | assumption)
         have q259 : x3_2 < (l0_1.length : Int) := of_decide_eq_true (by first | (with_reducible assumption) | assumption)
         obtain ⟨ad259, e259, hx259_0⟩ := Kd.at_int HR0_1.out x3_2 p259 q259
         cases e259
         replace hx259_0 := (HB.out.cell (World.block_lt_of_cell? w _ hx259_0)).trans hx259_0
         replace p259 := eq_true p259
         replace q259 := eq_true q259
         refine qb_region (by kernel_rfl) (by kernel_rfl) ?_
         repeat ((first | (apply qb_skip; (focus rfl)) | (refine qb_callN 56 rfl ?_; apply qb_call 56 rfl Try.func80 (by kernel_rfl) rfl rfl; (focus rfl); (focus (exact fun wq9 hb9 => qb_d hb9 (spec_l1In.calls (rd l0_1 x3_2) 0 (wrap64 (a0_0 - 1)) false _ A15.out))); (focus (rfl))) | (apply qb_val; (focus rfl); (focus (intro wq9 _; go_simp; with_reducible rfl))) | (apply qb_val; (focus rfl); (focus (intro wq9 hb9_; have hb9 : Below wr.heap.size wr wq9 := hb9_; have BK257 := sd_ (blk_below BK257.out hb9); have hc9_257_0 : wq9.cell? ⟨gb257, 0, none⟩ = some (.int .i64 a0_0) := (blk_cell BK257.out 0).trans rfl; have hc9_257_1 : wq9.cell? ⟨gb257, 1, none⟩ = some (.slice (some ad259) l0_1.length c0_1) := (blk_cell BK257.out 1).trans rfl; have hc9_257_2 : wq9.cell? ⟨gb257, 2, none⟩ = some (.slice A0_2 l0_2.length c0_2) := (blk_cell BK257.out 2).trans rfl; have hc9_257_3 : wq9.cell? ⟨gb257, 3, none⟩ = some (.slice A0_3 l0_3.length c0_3) := (blk_cell BK257.out 3).trans rfl; have hx259_0 := (hb9.cell (World.block_lt_of_cell? _ _ hx259_0)).trans hx259_0; go_simp; with_reducible rfl)))); (focus (simp only [Act.put, List.setIfInBounds_toArray, List.set_cons_zero, List.set_cons_succ, i64_w, i32_w]; rfl)))
         refine qb_nil ?_
         intro w25 hb
         replace BK257 := sd_ (blk_below BK257.out hb)
         replace HB := sd_ (below_step HB.out hb)
         clear hb
         (try clear HQ)
         try go_wp2
         go_ret
         exact ⟨an_, bw1_ HB.out GE257.out⟩
       ·rw [if_neg c14] at H
        exact absurd H (by simp)
      ·rw [if_neg c13] at H
       have c13b0 : decide (x3_2 < (l0_1.length : Int)) = false := decide_eq_false c13
       clear c13
       obtain rfl := Option.some.inj H
       have hcz26_0 : wr.cell? ⟨gb257, 0, none⟩ = some (.int .i64 a0_0) := (blk_cell BK257.out 0).trans rfl
       have hcz26_1 : wr.cell? ⟨gb257, 1, none⟩ = some (.slice A0_1 l0_1.length c0_1) := (blk_cell BK257.out 1).trans rfl
       have hcz26_2 : wr.cell? ⟨gb257, 2, none⟩ = some (.slice A0_2 l0_2.length c0_2) := (blk_cell BK257.out 2).trans rfl
       have hcz26_3 : wr.cell? ⟨gb257, 3, none⟩ = some (.slice A0_3 l0_3.length c0_3) := (blk_cell BK257.out 3).trans rfl
       have hfz26_0 := blk_frozen BK257.out 0
       have hfz26_1 := blk_frozen BK257.out 1
       have hfz26_2 := blk_frozen BK257.out 2
       have hfz26_3 := blk_frozen BK257.out 3
       go_wp2
       go_ret
       exact ⟨an_, bw1_ HB.out GE257.out⟩


/-! ### impl_System_has: function 91 -/
def impl_System_has.f (a0_0 : Int) (l0_1 : List Int) (l0_2 : List Int) (l0_3 : List Bool) (a1 : Int) : Option (Bool) := (impl_within.f a1 0 (wrap64 (a0_0 - 1))).bind fun t353 => (some t353)
set_option maxHeartbeats 8000000 in
set_option maxRecDepth 100000 in
theorem impl_System_has.calls (a0_0 : Int) (A0_1 : Option Addr) (c0_1 : Nat) (l0_1 : List Int) (A0_2 : Option Addr) (c0_2 : Nat) (l0_2 : List Int) (A0_3 : Option Addr) (c0_3 : Nat) (l0_3 : List Bool) (a1 : Int) (r : Bool) (w : World) (hr0_1 : Kd.C (Kd.int .i64) w A0_1 l0_1.length l0_1) (hc0_1 : l0_1.length ≤ c0_1) (hr0_2 : Kd.C (Kd.int .i64) w A0_2 l0_2.length l0_2) (hc0_2 : l0_2.length ≤ c0_2) (hr0_3 : Kd.C Kd.bool w A0_3 l0_3.length l0_3) (hc0_3 : l0_3.length ≤ c0_3) (h : impl_System_has.f a0_0 l0_1 l0_2 l0_3 a1 = some r) :
  Calls Try.prog 91 #[.agg #[.int .i64 a0_0, .slice A0_1 l0_1.length c0_1, .slice A0_2 l0_2.length c0_2, .slice A0_3 l0_3.length c0_3], .int .i64 a1] w fun e w' => e = .returned (.bool r) ∧ Below w.heap.size w w' := by
 have hu37 := Try.underlying37
 have HR0_1 := sd_ hr0_1
 have HC0_1 := sd_ hc0_1
 clear hr0_1 hc0_1
 have HR0_2 := sd_ hr0_2
 have HC0_2 := sd_ hc0_2
 clear hr0_2 hc0_2
 have HR0_3 := sd_ hr0_3
 have HC0_3 := sd_ hc0_3
 clear hr0_3 hc0_3
 have HB := sd_ (Below.refl w.heap.size w)
 have H : ((impl_within.f a1 0 (wrap64 (a0_0 - 1))).bind fun t353 => (some t353)) = some r := h
 clear h
 replace H := Option.bind_eq_some_iff.mp H
 obtain ⟨t353, A30, H⟩ := H
 try dsimp only at H
 have A3 := sd_ A30
 clear A30
 obtain rfl := Option.some.inj H
 go_enter Try.func91, Try.ntmps91
 go_wp2_with (first | ((with_reducible refine gate_dst (N := 2) rfl ?_); refine box_event ?hg (N := 2) ?hd (cs := #[.int .i64 a0_0, .slice A0_1 l0_1.length c0_1, .slice A0_2 l0_2.length c0_2, .slice A0_3 l0_3.length c0_3]) (t := 37) ?hr ?_; (case hd => rfl); (case hg => rfl); (case hr => first | (go_simp; done) | (go_simp; rfl)); intro gb352 hg w4 hbox hb; have BK352 := sd_ (hbox); have GW352 := sd_ ((by rw [hg]; exact (below_size (bw0_ HB.out)) : w.heap.size ≤ gb352)); have GE352 := sd_ ((by rw [hg]; exact (below_size (bw0_ HB.out)) : w.heap.size ≤ gb352)); replace HB := sd_ (below_step (bw0_ HB.out) hb); clear hb hbox hg; have hcz5_0 : w4.cell? ⟨gb352, 0, none⟩ = some (.int .i64 a0_0) := (blk_cell BK352.out 0).trans rfl; have hcz5_1 : w4.cell? ⟨gb352, 1, none⟩ = some (.slice A0_1 l0_1.length c0_1) := (blk_cell BK352.out 1).trans rfl; have hcz5_2 : w4.cell? ⟨gb352, 2, none⟩ = some (.slice A0_2 l0_2.length c0_2) := (blk_cell BK352.out 2).trans rfl; have hcz5_3 : w4.cell? ⟨gb352, 3, none⟩ = some (.slice A0_3 l0_3.length c0_3) := (blk_cell BK352.out 3).trans rfl; have hfz5_0 := blk_frozen BK352.out 0; have hfz5_1 := blk_frozen BK352.out 1; have hfz5_2 := blk_frozen BK352.out 2; have hfz5_3 := blk_frozen BK352.out 3) | ((with_reducible refine gate_callee (f := 85) rfl ?_); refine goesL_ (some 9) rfl rfl Try.func85 (by kernel_rfl) rfl #[.int .i64 a1, .int .i64 0, .int .i64 (wrap64 (a0_0 - 1))] rfl (by (try simp only [List.map_toArray, List.map_cons, List.map_nil]); first | done | rfl | (simp only [List.length_drop, List.length_take]; rfl)) ?_; (with_reducible refine (impl_within.calls a1 0 (wrap64 (a0_0 - 1)) t353 _ A3.out).mono ?_); rintro e w' ⟨rfl, ⟨nd, rfl⟩⟩; refine ⟨_, rfl, ?_⟩))
 go_ret
 exact ⟨an_, bw1_ HB.out GE352.out⟩


/-! ### impl_System_plus: function 92 -/
def impl_System_plus.f (a0_0 : Int) (l0_1 : List Int) (l0_2 : List Int) (l0_3 : List Bool) (a1 : Int) (a2 : Int) : Option (Int) := if 0 ≤ (wrap64 ((wrap64 (a1 * a0_0)) + a2)) then (if (wrap64 ((wrap64 (a1 * a0_0)) + a2)) < (l0_1.length : Int) then (some (rd l0_1 (wrap64 ((wrap64 (a1 * a0_0)) + a2)))) else (none)) else (none)
set_option maxHeartbeats 8000000 in
set_option maxRecDepth 100000 in
theorem impl_System_plus.calls (a0_0 : Int) (A0_1 : Option Addr) (c0_1 : Nat) (l0_1 : List Int) (A0_2 : Option Addr) (c0_2 : Nat) (l0_2 : List Int) (A0_3 : Option Addr) (c0_3 : Nat) (l0_3 : List Bool) (a1 : Int) (a2 : Int) (r : Int) (w : World) (hr0_1 : Kd.C (Kd.int .i64) w A0_1 l0_1.length l0_1) (hc0_1 : l0_1.length ≤ c0_1) (hr0_2 : Kd.C (Kd.int .i64) w A0_2 l0_2.length l0_2) (hc0_2 : l0_2.length ≤ c0_2) (hr0_3 : Kd.C Kd.bool w A0_3 l0_3.length l0_3) (hc0_3 : l0_3.length ≤ c0_3) (h : impl_System_plus.f a0_0 l0_1 l0_2 l0_3 a1 a2 = some r) :
  Calls Try.prog 92 #[.agg #[.int .i64 a0_0, .slice A0_1 l0_1.length c0_1, .slice A0_2 l0_2.length c0_2, .slice A0_3 l0_3.length c0_3], .int .i64 a1, .int .i64 a2] w fun e w' => e = .returned (.int .i64 r) ∧ Below w.heap.size w w' := by
 have hu37 := Try.underlying37
 have HR0_1 := sd_ hr0_1
 have HC0_1 := sd_ hc0_1
 clear hr0_1 hc0_1
 have HR0_2 := sd_ hr0_2
 have HC0_2 := sd_ hc0_2
 clear hr0_2 hc0_2
 have HR0_3 := sd_ hr0_3
 have HC0_3 := sd_ hc0_3
 clear hr0_3 hc0_3
 have HB := sd_ (Below.refl w.heap.size w)
 have H : (if 0 ≤ (wrap64 ((wrap64 (a1 * a0_0)) + a2)) then (if (wrap64 ((wrap64 (a1 * a0_0)) + a2)) < (l0_1.length : Int) then (some (rd l0_1 (wrap64 ((wrap64 (a1 * a0_0)) + a2)))) else (none)) else (none)) = some r := h
 clear h
 obtain ⟨ji4, hji4⟩ : ∃ j_ : Int, (wrap64 ((wrap64 (a1 * a0_0)) + a2)) = j_ := ⟨_, rfl⟩
 replace H : (if 0 ≤ (ji4) then (if (ji4) < (l0_1.length : Int) then (some (rd l0_1 (ji4))) else (none)) else (none)) = some r := by first | (rw [hji4] at H; exact H) | (simp only [hji4] at H ⊢; exact H)
 have hji4w : (IntKind.i64.wrap ((wrap64 (a1 * a0_0)) + a2)) = ji4 := (i64_w _).trans hji4
 by_cases c5 : 0 ≤ (ji4)
 ·rw [if_pos c5] at H
  have c5b0 : decide (0 ≤ (ji4)) = true := decide_eq_true c5
  clear c5
  by_cases c6 : (ji4) < (l0_1.length : Int)
  ·rw [if_pos c6] at H
   have c6b0 : decide ((ji4) < (l0_1.length : Int)) = true := decide_eq_true c6
   clear c6
   obtain rfl := Option.some.inj H
   go_enter Try.func92, Try.ntmps92
   go_wp2_with (first | ((with_reducible refine gate_dst (N := 3) rfl ?_); refine box_event ?hg (N := 3) ?hd (cs := #[.int .i64 a0_0, .slice A0_1 l0_1.length c0_1, .slice A0_2 l0_2.length c0_2, .slice A0_3 l0_3.length c0_3]) (t := 37) ?hr ?_; (case hd => rfl); (case hg => rfl); (case hr => first | (go_simp; done) | (go_simp; rfl)); intro gb361 hg w7 hbox hb; have BK361 := sd_ (hbox); have GW361 := sd_ ((by rw [hg]; exact (below_size (bw0_ HB.out)) : w.heap.size ≤ gb361)); have GE361 := sd_ ((by rw [hg]; exact (below_size (bw0_ HB.out)) : w.heap.size ≤ gb361)); replace HB := sd_ (below_step (bw0_ HB.out) hb); clear hb hbox hg; have hcz8_0 : w7.cell? ⟨gb361, 0, none⟩ = some (.int .i64 a0_0) := (blk_cell BK361.out 0).trans rfl; have hcz8_1 : w7.cell? ⟨gb361, 1, none⟩ = some (.slice A0_1 l0_1.length c0_1) := (blk_cell BK361.out 1).trans rfl; have hcz8_2 : w7.cell? ⟨gb361, 2, none⟩ = some (.slice A0_2 l0_2.length c0_2) := (blk_cell BK361.out 2).trans rfl; have hcz8_3 : w7.cell? ⟨gb361, 3, none⟩ = some (.slice A0_3 l0_3.length c0_3) := (blk_cell BK361.out 3).trans rfl; have hfz8_0 := blk_frozen BK361.out 0; have hfz8_1 := blk_frozen BK361.out 1; have hfz8_2 := blk_frozen BK361.out 2; have hfz8_3 := blk_frozen BK361.out 3; have p362 : 0 ≤ ((ji4) : Int) := of_decide_eq_true (by first | (with_reducible assumption) | assumption); have q362 : (ji4) < (l0_1.length : Int) := of_decide_eq_true (by first | (with_reducible assumption) | assumption); obtain ⟨ad362, e362, hx362_0⟩ := Kd.at_int HR0_1.out (ji4) p362 q362; cases e362; replace hx362_0 := (HB.out.cell (World.block_lt_of_cell? w _ hx362_0)).trans hx362_0; replace p362 := eq_true p362; replace q362 := eq_true q362))
   go_ret
   exact ⟨by first | rfl | (simp [errW_none, errW_some] <;> rfl) | (simp only [← hji4]; first | rfl | (simp [errW_none, errW_some] <;> rfl)) | (simp [*, errW_none, errW_some] <;> rfl), bw1_ HB.out GE361.out⟩
  ·rw [if_neg c6] at H
   exact absurd H (by simp)
 ·rw [if_neg c5] at H
  exact absurd H (by simp)


/-! ### impl_System_times: function 93 -/
def impl_System_times.f (a0_0 : Int) (l0_1 : List Int) (l0_2 : List Int) (l0_3 : List Bool) (a1 : Int) (a2 : Int) : Option (Int) := if 0 ≤ (wrap64 ((wrap64 (a1 * a0_0)) + a2)) then (if (wrap64 ((wrap64 (a1 * a0_0)) + a2)) < (l0_2.length : Int) then (some (rd l0_2 (wrap64 ((wrap64 (a1 * a0_0)) + a2)))) else (none)) else (none)
set_option maxHeartbeats 8000000 in
set_option maxRecDepth 100000 in
theorem impl_System_times.calls (a0_0 : Int) (A0_1 : Option Addr) (c0_1 : Nat) (l0_1 : List Int) (A0_2 : Option Addr) (c0_2 : Nat) (l0_2 : List Int) (A0_3 : Option Addr) (c0_3 : Nat) (l0_3 : List Bool) (a1 : Int) (a2 : Int) (r : Int) (w : World) (hr0_1 : Kd.C (Kd.int .i64) w A0_1 l0_1.length l0_1) (hc0_1 : l0_1.length ≤ c0_1) (hr0_2 : Kd.C (Kd.int .i64) w A0_2 l0_2.length l0_2) (hc0_2 : l0_2.length ≤ c0_2) (hr0_3 : Kd.C Kd.bool w A0_3 l0_3.length l0_3) (hc0_3 : l0_3.length ≤ c0_3) (h : impl_System_times.f a0_0 l0_1 l0_2 l0_3 a1 a2 = some r) :
  Calls Try.prog 93 #[.agg #[.int .i64 a0_0, .slice A0_1 l0_1.length c0_1, .slice A0_2 l0_2.length c0_2, .slice A0_3 l0_3.length c0_3], .int .i64 a1, .int .i64 a2] w fun e w' => e = .returned (.int .i64 r) ∧ Below w.heap.size w w' := by
 have hu37 := Try.underlying37
 have HR0_1 := sd_ hr0_1
 have HC0_1 := sd_ hc0_1
 clear hr0_1 hc0_1
 have HR0_2 := sd_ hr0_2
 have HC0_2 := sd_ hc0_2
 clear hr0_2 hc0_2
 have HR0_3 := sd_ hr0_3
 have HC0_3 := sd_ hc0_3
 clear hr0_3 hc0_3
 have HB := sd_ (Below.refl w.heap.size w)
 have H : (if 0 ≤ (wrap64 ((wrap64 (a1 * a0_0)) + a2)) then (if (wrap64 ((wrap64 (a1 * a0_0)) + a2)) < (l0_2.length : Int) then (some (rd l0_2 (wrap64 ((wrap64 (a1 * a0_0)) + a2)))) else (none)) else (none)) = some r := h
 clear h
 obtain ⟨ji4, hji4⟩ : ∃ j_ : Int, (wrap64 ((wrap64 (a1 * a0_0)) + a2)) = j_ := ⟨_, rfl⟩
 replace H : (if 0 ≤ (ji4) then (if (ji4) < (l0_2.length : Int) then (some (rd l0_2 (ji4))) else (none)) else (none)) = some r := by first | (rw [hji4] at H; exact H) | (simp only [hji4] at H ⊢; exact H)
 have hji4w : (IntKind.i64.wrap ((wrap64 (a1 * a0_0)) + a2)) = ji4 := (i64_w _).trans hji4
 by_cases c5 : 0 ≤ (ji4)
 ·rw [if_pos c5] at H
  have c5b0 : decide (0 ≤ (ji4)) = true := decide_eq_true c5
  clear c5
  by_cases c6 : (ji4) < (l0_2.length : Int)
  ·rw [if_pos c6] at H
   have c6b0 : decide ((ji4) < (l0_2.length : Int)) = true := decide_eq_true c6
   clear c6
   obtain rfl := Option.some.inj H
   go_enter Try.func93, Try.ntmps93
   go_wp2_with (first | ((with_reducible refine gate_dst (N := 3) rfl ?_); refine box_event ?hg (N := 3) ?hd (cs := #[.int .i64 a0_0, .slice A0_1 l0_1.length c0_1, .slice A0_2 l0_2.length c0_2, .slice A0_3 l0_3.length c0_3]) (t := 37) ?hr ?_; (case hd => rfl); (case hg => rfl); (case hr => first | (go_simp; done) | (go_simp; rfl)); intro gb363 hg w7 hbox hb; have BK363 := sd_ (hbox); have GW363 := sd_ ((by rw [hg]; exact (below_size (bw0_ HB.out)) : w.heap.size ≤ gb363)); have GE363 := sd_ ((by rw [hg]; exact (below_size (bw0_ HB.out)) : w.heap.size ≤ gb363)); replace HB := sd_ (below_step (bw0_ HB.out) hb); clear hb hbox hg; have hcz8_0 : w7.cell? ⟨gb363, 0, none⟩ = some (.int .i64 a0_0) := (blk_cell BK363.out 0).trans rfl; have hcz8_1 : w7.cell? ⟨gb363, 1, none⟩ = some (.slice A0_1 l0_1.length c0_1) := (blk_cell BK363.out 1).trans rfl; have hcz8_2 : w7.cell? ⟨gb363, 2, none⟩ = some (.slice A0_2 l0_2.length c0_2) := (blk_cell BK363.out 2).trans rfl; have hcz8_3 : w7.cell? ⟨gb363, 3, none⟩ = some (.slice A0_3 l0_3.length c0_3) := (blk_cell BK363.out 3).trans rfl; have hfz8_0 := blk_frozen BK363.out 0; have hfz8_1 := blk_frozen BK363.out 1; have hfz8_2 := blk_frozen BK363.out 2; have hfz8_3 := blk_frozen BK363.out 3; have p364 : 0 ≤ ((ji4) : Int) := of_decide_eq_true (by first | (with_reducible assumption) | assumption); have q364 : (ji4) < (l0_2.length : Int) := of_decide_eq_true (by first | (with_reducible assumption) | assumption); obtain ⟨ad364, e364, hx364_0⟩ := Kd.at_int HR0_2.out (ji4) p364 q364; cases e364; replace hx364_0 := (HB.out.cell (World.block_lt_of_cell? w _ hx364_0)).trans hx364_0; replace p364 := eq_true p364; replace q364 := eq_true q364))
   go_ret
   exact ⟨by first | rfl | (simp [errW_none, errW_some] <;> rfl) | (simp only [← hji4]; first | rfl | (simp [errW_none, errW_some] <;> rfl)) | (simp [*, errW_none, errW_some] <;> rfl), bw1_ HB.out GE363.out⟩
  ·rw [if_neg c6] at H
   exact absurd H (by simp)
 ·rw [if_neg c5] at H
  exact absurd H (by simp)


/-! ### spec_l2Has: function 114 -/
def spec_l2Has.f (a0 : Int) : Option (Bool) := if a0 = 5 then (some true) else (if a0 = 8 then (some true) else (if a0 = 9 then (some true) else (if a0 = 11 then (some true) else (some (a0 == 12)))))
set_option maxHeartbeats 8000000 in
set_option maxRecDepth 100000 in
theorem spec_l2Has.calls (a0 : Int) (r : Bool) (w : World) (h : spec_l2Has.f a0 = some r) :
  Calls Try.prog 114 #[.int .i64 a0] w fun e w' => e = .returned (.bool r) ∧ Drawn0 w w' := by
 have H : (if a0 = 5 then (some true) else (if a0 = 8 then (some true) else (if a0 = 9 then (some true) else (if a0 = 11 then (some true) else (some (a0 == 12)))))) = some r := h
 clear h
 by_cases c2 : a0 = 5
 ·rw [if_pos c2] at H
  have c2b0 : (a0 == 5) = true := beq_iff_eq.mpr c2
  have c2b1 : (a0 != 5) = false := bne_eq_false_iff_eq.mpr c2
  clear c2
  obtain rfl := Option.some.inj H
  go_enter Try.func114, Try.ntmps114
  go_wp2
  go_ret
  exact ⟨by first | rfl | (simp; done) | (simp [*]; done), by repeat (first | exact Drawn0.refl _ | apply Drawn0.step)⟩
 ·rw [if_neg c2] at H
  have c2b0 : (a0 == 5) = false := beq_eq_false_iff_ne.mpr c2
  have c2b1 : (a0 != 5) = true := bne_iff_ne.mpr c2
  by_cases c3 : a0 = 8
  ·rw [if_pos c3] at H
   have c3b0 : (a0 == 8) = true := beq_iff_eq.mpr c3
   have c3b1 : (a0 != 8) = false := bne_eq_false_iff_eq.mpr c3
   clear c3
   obtain rfl := Option.some.inj H
   go_enter Try.func114, Try.ntmps114
   go_wp2
   go_ret
   exact ⟨by first | rfl | (simp; done) | (simp [*]; done), by repeat (first | exact Drawn0.refl _ | apply Drawn0.step)⟩
  ·rw [if_neg c3] at H
   have c3b0 : (a0 == 8) = false := beq_eq_false_iff_ne.mpr c3
   have c3b1 : (a0 != 8) = true := bne_iff_ne.mpr c3
   by_cases c4 : a0 = 9
   ·rw [if_pos c4] at H
    have c4b0 : (a0 == 9) = true := beq_iff_eq.mpr c4
    have c4b1 : (a0 != 9) = false := bne_eq_false_iff_eq.mpr c4
    clear c4
    obtain rfl := Option.some.inj H
    go_enter Try.func114, Try.ntmps114
    go_wp2
    go_ret
    exact ⟨by first | rfl | (simp; done) | (simp [*]; done), by repeat (first | exact Drawn0.refl _ | apply Drawn0.step)⟩
   ·rw [if_neg c4] at H
    have c4b0 : (a0 == 9) = false := beq_eq_false_iff_ne.mpr c4
    have c4b1 : (a0 != 9) = true := bne_iff_ne.mpr c4
    by_cases c5 : a0 = 11
    ·rw [if_pos c5] at H
     have c5b0 : (a0 == 11) = true := beq_iff_eq.mpr c5
     have c5b1 : (a0 != 11) = false := bne_eq_false_iff_eq.mpr c5
     clear c5
     obtain rfl := Option.some.inj H
     go_enter Try.func114, Try.ntmps114
     go_wp2
     go_ret
     exact ⟨by first | rfl | (simp; done) | (simp [*]; done), by repeat (first | exact Drawn0.refl _ | apply Drawn0.step)⟩
    ·rw [if_neg c5] at H
     have c5b0 : (a0 == 11) = false := beq_eq_false_iff_ne.mpr c5
     have c5b1 : (a0 != 11) = true := bne_iff_ne.mpr c5
     obtain rfl := Option.some.inj H
     go_enter Try.func114, Try.ntmps114
     go_wp2
     go_ret
     exact ⟨by first | rfl | (simp; done) | (simp [*]; done), by repeat (first | exact Drawn0.refl _ | apply Drawn0.step)⟩

end Go.Proofs.Ytnokgkhkmnldeaa.P
end
