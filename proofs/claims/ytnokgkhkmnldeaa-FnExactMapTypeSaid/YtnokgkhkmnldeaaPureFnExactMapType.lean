/- FnExactMapType: the pure statement. -/
import Derived.Test.YtnokgkhkmnldeaaPf4
import Derived.Test.YtnokgkhkmnldeaaB5
set_option linter.unusedSimpArgs false
set_option linter.unusedVariables false
namespace Go.Proofs.Ytnokgkhkmnldeaa.Pure
open Go.RowKit Go.Proofs.Ytnokgkhkmnldeaa.P Go.Proofs.YtnokgkhkmnldeaaW.PrintWords Go.Proofs.YtnokgkhkmnldeaaW.PrintLast
/-- Numbers from a on, n of them. -/
def marks (a : Int) : Nat → List Int
  | 0 => []
  | n + 1 => a :: marks (a + 1) n
theorem marks_len : ∀ (n : Nat) (a : Int), (marks a n).length = n
  | 0, _ => rfl
  | n + 1, a => by simp [marks, marks_len n (a + 1)]
theorem markS_loop (hi : Int) (hh : hi ≤ 4611686018427387904) : ∀ (m : Nat) (pre rest : List Int) (a : Int), rest.length = m → 0 ≤ a → a + m ≤ hi → (pre.length : Int) + m ≤ hi → Ev (fun k => laws_markIntS.l0 k (pre ++ rest) a (pre.length : Int)) (a + m, pre ++ marks a m)
  | 0, pre, rest, a, h, ha, hb, hc => by
    obtain rfl : rest = [] := List.length_eq_zero_iff.mp h
    refine Ev.step (f := fun _ => some (a + 0, pre ++ marks a 0)) (fun k => ?_) (Ev.now _)
    simp only [laws_markIntS.l0, marks, List.append_nil]
    rw [if_neg (by omega), Int.add_zero]
  | m + 1, pre, rest, a, h, ha, hb, hc => by
    obtain ⟨z, zs, rfl⟩ : ∃ z zs, rest = z :: zs := by cases rest with | nil => cases h | cons z zs => exact ⟨z, zs, rfl⟩
    have ih := markS_loop hi hh m (pre ++ [a]) zs (a + 1) (by simpa using h) (by omega) (by omega) (by simp; omega)
    have e1 : (pre ++ z :: zs).set pre.length a = (pre ++ [a]) ++ zs := by simp
    have e2 : a + ((m + 1 : Nat) : Int) = a + 1 + m := by omega
    have e3 : pre ++ marks a (m + 1) = (pre ++ [a]) ++ marks (a + 1) m := by simp [marks]
    rw [e2, e3]
    refine Ev.step (fun k => ?_) ih
    simp only [laws_markIntS.l0]
    rw [if_pos (by simp; omega), if_pos (by omega), w64 (x := a + 1) (by omega) (by omega), w64 (x := (pre.length : Int) + 1) (by omega) (by omega), Int.toNat_natCast, e1, show ((pre ++ [a]).length : Int) = (pre.length : Int) + 1 by simp]
theorem markIntS (l : List Int) (a : Int) (ha : 0 ≤ a) (hb : a + l.length ≤ 4611686018427387904) : Ev (fun k => laws_markIntS.f k l a) (a + l.length, marks a l.length) := by
  unfold laws_markIntS.f
  exact markS_loop _ (Int.le_refl _) l.length [] l a rfl ha hb (by simp; omega)
theorem heldS_loop (hi : Int) (hh : hi ≤ 4611686018427387904) : ∀ (m : Nat) (pre : List Int) (a : Int), 0 ≤ a → a + m ≤ hi → (pre.length : Int) + m ≤ hi → Ev (fun k => laws_heldIntS.l0 k (pre ++ marks a m) a (pre.length : Int)) (a + m)
  | 0, pre, a, ha, hb, hc => by
    refine Ev.step (f := fun _ => some (a + 0)) (fun k => ?_) (Ev.now _)
    simp only [laws_heldIntS.l0, marks, List.append_nil]
    rw [if_neg (by omega), Int.add_zero]
  | m + 1, pre, a, ha, hb, hc => by
    have ih := heldS_loop hi hh m (pre ++ [a]) (a + 1) (by omega) (by omega) (by simp; omega)
    have e2 : a + ((m + 1 : Nat) : Int) = a + 1 + m := by omega
    have e3 : pre ++ marks a (m + 1) = (pre ++ [a]) ++ marks (a + 1) m := by simp [marks]
    have e4 : rd (pre ++ marks a (m + 1)) (pre.length : Int) = a := by rw [rd_get (by simp [marks])]; simp [marks]
    rw [e2]
    refine Ev.step (fun k => ?_) ih
    simp only [laws_heldIntS.l0]
    rw [if_pos (by simp [marks]; omega), if_pos (by omega), e4, if_pos rfl, e3, w64 (x := a + 1) (by omega) (by omega), w64 (x := (pre.length : Int) + 1) (by omega) (by omega), show ((pre ++ [a]).length : Int) = (pre.length : Int) + 1 by simp]
theorem heldIntS (n : Nat) (a : Int) (ha : 0 ≤ a) (hb : a + (n : Int) ≤ 4611686018427387904) : Ev (fun k => laws_heldIntS.f k (marks a n) a) (a + n) := by
  unfold laws_heldIntS.f
  exact heldS_loop _ (Int.le_refl _) n [] a ha hb (by simp; omega)
/-- What is put for a code: none where its grade has no image. -/
def mapOne (f : List Int) (c : Int) : Option Int :=
  if (shapeV c).2 < 0 then some c
  else if (shapeV c).2 < (f.length : Int) ∧ 0 ≤ rd f (shapeV c).2 ∧ rd f (shapeV c).2 ≤ 15 then some ((if (shapeV c).1 = 3 then 3 else 19) + rd f (shapeV c).2)
  else none
def mapAll (f : List Int) : List Int → Option (List Int)
  | [] => some []
  | c :: cs => (mapOne f c).bind fun y => (mapAll f cs).bind fun ys => some (y :: ys)
def mapV (f xs : List Int) : List Int := if writtenV xs = true then (mapAll f xs).getD [] else []
theorem shape_two (c : Int) : 0 ≤ (shapeV c).2 → ((shapeV c).1 = 3 ∧ 3 ≤ c ∧ c ≤ 18 ∧ (shapeV c).2 = c - 3) ∨ ((shapeV c).1 = 4 ∧ 19 ≤ c ∧ c ≤ 34 ∧ (shapeV c).2 = c - 19) := by
  unfold shapeV
  repeat' split
  all_goals (intro h; simp at h ⊢; try omega)
theorem shape_neg (c : Int) : (shapeV c).2 < 0 → c < 3 ∨ 35 ≤ c := by
  unfold shapeV
  repeat' split
  all_goals (intro h; simp at h ⊢; try omega)
theorem specMap (f xs : List Int) (hf : f.length ≤ 1048576) (hl : xs.length ≤ 1048576) : ∀ (m i : Nat) (acc : List Int), i + m = xs.length → acc.length = i → Ev (fun k => spec_MapType.l0 k f xs acc (i : Int)) (((mapAll f (xs.drop i)).map (acc ++ ·)).getD [])
  | 0, i, acc, hi, ha => by
    rw [List.drop_eq_nil_of_le (by omega)]
    refine Ev.step (f := fun _ => some acc) (fun k => ?_) (by simpa [mapAll] using Ev.now acc)
    simp only [spec_MapType.l0]; rw [if_neg (by omega)]
  | m + 1, i, acc, hi, ha => by
    rw [List.drop_eq_getElem_cons (by omega)]
    have up : wrap64 ((i : Int) + 1) = ((i + 1 : Nat) : Int) := by rw [w64 (by omega) (by omega)]; omega
    have i1 : (i : Int) < (xs.length : Int) := by omega
    have i0 : 0 ≤ (i : Int) := by omega
    have len : acc.length < 17592186044416 := by omega
    have ih := fun y => specMap f xs hf hl m (i + 1) (acc ++ [y]) (by omega) (by simp [ha])
    have key : ∀ k, spec_MapType.l0 (k + 4) f xs acc (i : Int) = (match mapOne f xs[i] with | none => some [] | some y => spec_MapType.l0 (k + 2) f xs (acc ++ [y]) ((i + 1 : Nat) : Int)) := by
      intro k
      show (if (i : Int) < (xs.length : Int) then _ else _) = _
      rw [if_pos i1, if_pos i0, rd_get (by omega), kids_eq, Option.bind_some]
      unfold mapOne
      by_cases g0 : (shapeV xs[i]).2 < 0
      · rw [if_pos g0]
        have hc := shape_neg _ g0
        have plain : ∀ j, spec_MapType.j1 (j + 1) f xs acc (i : Int) xs[i] false = spec_MapType.l0 j f xs (acc ++ [xs[i]]) ((i + 1 : Nat) : Int) := by
          intro j
          simp only [spec_MapType.j1, Bool.false_eq_true, if_false]
          rw [if_pos len, up]
        by_cases ck : kidsV xs[i] > 0
        · rw [if_pos ck]
          by_cases c2 : xs[i] > 2
          · have c35 : xs[i] ≥ 35 := by omega
            rw [if_pos c2]
            unfold spec_l2Grade.f
            rw [if_pos c35, Option.bind_some]
            exact plain _
          · rw [if_neg c2]; exact plain _
        · rw [if_neg ck]; exact plain _
      · rw [if_neg g0]
        rcases shape_two xs[i] (by omega) with ⟨s3, a1, a2, s2⟩ | ⟨s4, a1, a2, s2⟩
        · have ck : kidsV xs[i] > 0 := by unfold kidsV; rw [if_neg (by omega), if_pos (by omega)]; decide
          have eg : spec_l2Grade.f xs[i] = some (xs[i] - 3) := by unfold spec_l2Grade.f; rw [if_neg (by omega), if_neg (by omega), w64 (by omega) (by omega)]
          have ea : spec_l2Arrow.f xs[i] = some true := by unfold spec_l2Arrow.f; rw [in_eq, (inV_iff _ _ _).mpr ⟨a1, a2⟩]; rfl
          rw [if_pos ck, if_pos (show xs[i] > 2 by omega), eg, Option.bind_some, decide_eq_true (show xs[i] - 3 ≥ 0 by omega), s3, s2]
          simp only [spec_MapType.j1, if_true, eg, ea, Option.bind_some, spec_l3Mapped.f]
          rw [if_neg (show ¬ xs[i] - 3 < 0 by omega)]
          by_cases r1 : xs[i] - 3 < (f.length : Int)
          · rw [if_pos r1, if_pos (show 0 ≤ xs[i] - 3 by omega), in_eq, Option.bind_some, Option.bind_some]
            by_cases r2 : 0 ≤ rd f (xs[i] - 3) ∧ rd f (xs[i] - 3) ≤ 15
            · rw [(inV_iff _ _ _).mpr r2, if_pos rfl, if_pos (show 0 ≤ xs[i] - 3 by omega), if_pos r1, if_pos ⟨r1, r2.1, r2.2⟩]
              unfold spec_l2Code.f
              rw [if_pos rfl, decide_eq_false (show ¬ rd f (xs[i] - 3) < 0 by omega)]
              simp only [spec_l2Code.j0, Bool.false_eq_true, if_false, if_true, Option.bind_some]
              rw [w64 (x := 3 + rd f (xs[i] - 3)) (by omega) (by omega), if_pos len, up]
            · have e : inV (rd f (xs[i] - 3)) 0 15 = false := by rw [Bool.eq_false_iff]; exact fun hh => r2 ((inV_iff _ _ _).mp hh)
              rw [e, if_neg (by decide), if_neg (fun hh => r2 ⟨hh.2.1, hh.2.2⟩)]
          · rw [if_neg r1, Option.bind_some, if_neg (by decide), if_neg (fun hh => r1 hh.1)]
        · have ck : kidsV xs[i] > 0 := by unfold kidsV; rw [if_neg (by omega), if_neg (by omega), if_pos (by omega)]; decide
          have eg : spec_l2Grade.f xs[i] = some (xs[i] - 19) := by unfold spec_l2Grade.f; rw [if_neg (by omega), if_pos (by omega), w64 (by omega) (by omega)]
          have e3 : inV xs[i] 3 18 = false := by rw [Bool.eq_false_iff]; exact fun hh => by have := (inV_iff _ _ _).mp hh; omega
          have ea : spec_l2Arrow.f xs[i] = some false := by unfold spec_l2Arrow.f; rw [in_eq, e3, Option.bind_some, if_neg (by decide), beq_eq_false_iff_ne.mpr (by omega)]
          rw [if_pos ck, if_pos (show xs[i] > 2 by omega), eg, Option.bind_some, decide_eq_true (show xs[i] - 19 ≥ 0 by omega), s4, s2]
          simp only [spec_MapType.j1, if_true, eg, ea, Option.bind_some, spec_l3Mapped.f]
          rw [if_neg (show ¬ xs[i] - 19 < 0 by omega)]
          by_cases r1 : xs[i] - 19 < (f.length : Int)
          · rw [if_pos r1, if_pos (show 0 ≤ xs[i] - 19 by omega), in_eq, Option.bind_some, Option.bind_some]
            by_cases r2 : 0 ≤ rd f (xs[i] - 19) ∧ rd f (xs[i] - 19) ≤ 15
            · rw [(inV_iff _ _ _).mpr r2, if_pos rfl, if_pos (show 0 ≤ xs[i] - 19 by omega), if_pos r1, if_pos ⟨r1, r2.1, r2.2⟩]
              unfold spec_l2Code.f
              rw [if_neg (by decide)]
              simp only [spec_l2Code.j0, Bool.false_eq_true, if_false, Option.bind_some]
              rw [if_neg (show ¬ rd f (xs[i] - 19) < 0 by omega), w64 (x := 19 + rd f (xs[i] - 19)) (by omega) (by omega), Option.bind_some, if_pos len, up, if_neg (by decide)]
            · have e : inV (rd f (xs[i] - 19)) 0 15 = false := by rw [Bool.eq_false_iff]; exact fun hh => r2 ((inV_iff _ _ _).mp hh)
              rw [e, if_neg (by decide), if_neg (fun hh => r2 ⟨hh.2.1, hh.2.2⟩)]
          · rw [if_neg r1, Option.bind_some, if_neg (by decide), if_neg (fun hh => r1 hh.1)]
    cases hm : mapOne f xs[i] with
    | none =>
      have e : ((mapAll f (xs[i] :: xs.drop (i + 1))).map (acc ++ ·)).getD [] = [] := by simp only [mapAll, hm]; rfl
      rw [e]
      refine ⟨4, fun k hk => ?_⟩
      obtain ⟨k, rfl⟩ : ∃ q, k = q + 4 := ⟨k - 4, by omega⟩
      show spec_MapType.l0 (k + 4) f xs acc (i : Int) = _
      rw [key, hm]
    | some y =>
      have e : ((mapAll f (xs[i] :: xs.drop (i + 1))).map (acc ++ ·)).getD [] = ((mapAll f (xs.drop (i + 1))).map ((acc ++ [y]) ++ ·)).getD [] := by
        simp only [mapAll, hm, Option.bind_some]
        cases mapAll f (xs.drop (i + 1)) <;> simp
      rw [e]
      obtain ⟨K, hK⟩ := ih y
      refine ⟨K + 4, fun k hk => ?_⟩
      obtain ⟨k, rfl⟩ : ∃ q, k = q + 4 := ⟨k - 4, by omega⟩
      show spec_MapType.l0 (k + 4) f xs acc (i : Int) = _
      rw [key, hm]
      exact hK (k + 2) (by omega)
theorem mapped_eq (f : List Int) (hf : f.length ≤ 1048576) (g : Int) (hg : 0 ≤ g) : impl_mapped.f f g = some (if g < (f.length : Int) ∧ 0 ≤ rd f g ∧ rd f g ≤ 15 then rd f g else -1) := by
  unfold impl_mapped.f
  rw [within_eq, Option.bind_some, w64 (x := (f.length : Int) - 1) (by omega) (by omega)]
  by_cases r1 : g < (f.length : Int)
  · rw [(inV_iff _ _ _).mpr ⟨hg, by omega⟩, if_pos rfl, if_pos hg, if_pos r1, within_eq, Option.bind_some]
    by_cases r2 : 0 ≤ rd f g ∧ rd f g ≤ 15
    · rw [(inV_iff _ _ _).mpr r2, if_pos rfl, if_pos ⟨r1, r2.1, r2.2⟩]
    · have e : inV (rd f g) 0 15 = false := by rw [Bool.eq_false_iff]; exact fun hh => r2 ((inV_iff _ _ _).mp hh)
      rw [e, if_neg (by decide), if_neg (fun hh => r2 ⟨hh.2.1, hh.2.2⟩)]
  · have e : inV g 0 ((f.length : Int) - 1) = false := by rw [Bool.eq_false_iff]; intro hh; have := (inV_iff _ _ _).mp hh; omega
    rw [e, if_neg (by decide), if_neg (fun hh => r1 hh.1)]
theorem implMap (f xs : List Int) (hf : f.length ≤ 1048576) (hl : xs.length ≤ 1048576) : ∀ (m i : Nat) (pre : List Int), i + m = xs.length → pre.length = i → Ev (fun k => impl_MapType.l0 k f (pre ++ xs.drop i) xs (xs.length : Int) (i : Int)) (((mapAll f (xs.drop i)).map (pre ++ ·)).getD [])
  | 0, i, pre, hi, ha => by
    rw [List.drop_eq_nil_of_le (by omega)]
    refine Ev.step (f := fun _ => some pre) (fun k => ?_) (by simpa [mapAll] using Ev.now pre)
    simp only [impl_MapType.l0, List.append_nil]; rw [if_neg (by omega)]
  | m + 1, i, pre, hi, ha => by
    rw [List.drop_eq_getElem_cons (by omega)]
    have up : wrap64 ((i : Int) + 1) = ((i + 1 : Nat) : Int) := by rw [w64 (by omega) (by omega)]; omega
    have i1 : (i : Int) < (xs.length : Int) := by omega
    have i0 : 0 ≤ (i : Int) := by omega
    have ih := fun y => implMap f xs hf hl m (i + 1) (pre ++ [y]) (by omega) (by simp [ha])
    have e0 : ∀ y, (pre ++ [y]) ++ xs.drop (i + 1) = pre ++ y :: xs.drop (i + 1) := fun y => by simp
    have es : ∀ y z, (pre ++ y :: xs.drop (i + 1)).set i z = pre ++ z :: xs.drop (i + 1) := fun y z => by
      subst ha; simp
    have ln : ∀ y, (i : Int) < ((pre ++ y :: xs.drop (i + 1)).length : Int) := fun y => by simp; omega
    have key : ∀ k, impl_MapType.l0 (k + 1) f (pre ++ xs[i] :: xs.drop (i + 1)) xs (xs.length : Int) (i : Int) = (match mapOne f xs[i] with | none => some [] | some y => impl_MapType.l0 k f (pre ++ y :: xs.drop (i + 1)) xs (xs.length : Int) ((i + 1 : Nat) : Int)) := by
      intro k
      show (if (i : Int) < (xs.length : Int) then _ else _) = _
      rw [if_pos i1, if_pos i0, if_pos i1, rd_get (by omega), shape_eq, Option.bind_some]
      unfold mapOne
      by_cases g0 : (shapeV xs[i]).2 < 0
      · rw [if_pos g0, if_pos g0, up]
      · rw [if_neg g0, if_neg g0, mapped_eq f hf _ (by omega), Option.bind_some]
        by_cases r : (shapeV xs[i]).2 < (f.length : Int) ∧ 0 ≤ rd f (shapeV xs[i]).2 ∧ rd f (shapeV xs[i]).2 ≤ 15
        · rw [if_pos r, if_pos r, if_neg (by omega), if_pos (ln _), Option.bind_some, Int.toNat_natCast, es, es, up]
          rw [w64 (x := 19 + rd f (shapeV xs[i]).2) (by omega) (by omega), w64 (x := 3 + rd f (shapeV xs[i]).2) (by omega) (by omega)]
          by_cases s3 : (shapeV xs[i]).1 = 3
          · rw [if_pos s3, if_pos s3]
          · rw [if_neg s3, if_neg s3]
        · rw [if_neg r, if_neg r, if_pos (by decide)]
    cases hm : mapOne f xs[i] with
    | none =>
      have e : ((mapAll f (xs[i] :: xs.drop (i + 1))).map (pre ++ ·)).getD [] = [] := by simp only [mapAll, hm]; rfl
      rw [e]
      exact Ev.step (f := fun _ => some []) (fun k => by rw [key, hm]) (Ev.now _)
    | some y =>
      have e : ((mapAll f (xs[i] :: xs.drop (i + 1))).map (pre ++ ·)).getD [] = ((mapAll f (xs.drop (i + 1))).map ((pre ++ [y]) ++ ·)).getD [] := by
        simp only [mapAll, hm, Option.bind_some]
        cases mapAll f (xs.drop (i + 1)) <;> simp
      rw [e]
      have := ih y
      rw [e0] at this
      exact Ev.step (fun k => by rw [key, hm]) this
theorem specV (f xs : List Int) (hf : f.length ≤ 1048576) (hl : xs.length ≤ 1048576) : Ev (fun k => spec_MapType.f k f xs) (mapV f xs) := by
  unfold spec_MapType.f mapV
  refine Ev.bind (specWritten xs hl) ?_
  cases writtenV xs
  · simpa using Ev.now ([] : List Int)
  · simp only [if_true]
    have := specMap f xs hf hl xs.length 0 [] (by omega) rfl
    simpa using this
theorem implV (f xs : List Int) (hf : f.length ≤ 1048576) (hl : xs.length ≤ 1048576) : Ev (fun k => impl_MapType.f k f xs) (mapV f xs) := by
  unfold impl_MapType.f mapV
  refine Ev.bind (implWritten xs hl) ?_
  cases writtenV xs
  · simpa using Ev.now ([] : List Int)
  · have c : ([] : List Int).length + xs.length < 17592186044416 := by simp only [List.length_nil]; omega
    simp only [if_true, slices_Clone_int_int.f, if_pos c, Option.bind_some]
    have := implMap f xs hf hl xs.length 0 [] (by omega) rfl
    simpa using this
theorem mapAll_len (f : List Int) : ∀ (xs ys : List Int), mapAll f xs = some ys → ys.length = xs.length
  | [], ys, h => by simp only [mapAll, Option.some.injEq] at h; subst h; rfl
  | c :: cs, ys, h => by
    simp only [mapAll, Option.bind_eq_some_iff, Option.some.injEq] at h
    obtain ⟨y, _, zs, hz, rfl⟩ := h
    simp [mapAll_len f cs zs hz]
theorem mapV_len (f xs : List Int) (hl : xs.length ≤ 1048576) : (mapV f xs).length ≤ 1048576 := by
  unfold mapV
  split
  · cases c : mapAll f xs with
    | none => simp
    | some ys => simp [mapAll_len f xs ys c]; exact hl
  · simp
theorem FnExactMapType : laws_FnExactMapType.Pure := by
  intro f xs hf0 hl0
  refine evRounds ?_
  unfold laws_FnExactMapType.f
  by_cases c0 : (f.length : Int) > 1048576
  · simp only [if_pos c0]; exact Ev.now _
  by_cases c1 : (xs.length : Int) > 1048576
  · simp only [if_neg c0, if_pos c1]; exact Ev.now _
  have hf : f.length ≤ 1048576 := by omega
  have hl : xs.length ≤ 1048576 := by omega
  simp only [if_neg c0, if_neg c1]
  have tf := toIntS f hf
  have tx := toIntS xs hl
  have ef := eqIntS f hf
  have ex := eqIntS xs hl
  have ev := eqIntS (mapV f xs) (mapV_len f xs hl)
  have hv := mapV_len f xs hl
  refine Ev.bind tf ?_
  refine Ev.bind tx ?_
  refine Ev.bind (specV f xs hf hl) ?_
  refine Ev.bind tf ?_
  refine Ev.bind tx ?_
  refine Ev.bind (implV f xs hf hl) ?_
  refine Ev.bind ev ?_
  simp only [if_true]
  refine Ev.bind tf ?_
  refine Ev.bind ef ?_
  simp only [if_true]
  refine Ev.bind tx ?_
  refine Ev.bind ex ?_
  simp only [if_true]
  refine Ev.bind (markIntS f 1 (by decide) (by omega)) ?_
  refine Ev.bind (markIntS xs (1 + f.length) (by omega) (by omega)) ?_
  have n0 : ¬ (1 + (f.length : Int) + xs.length < 0) := by omega
  simp only [if_neg n0]
  refine Ev.bind ev ?_
  refine Ev.step (fun k => by simp only [laws_FnExactMapType.j0, Bool.not_true, Bool.false_eq_true, if_false]; rfl) ?_
  refine Ev.bind (markIntS (mapV f xs) 1 (by decide) (by omega)) ?_
  have hh := heldIntS (mapV f xs).length 1 (by decide) (by omega)
  refine Ev.bind hh ?_
  have n1 : ¬ (1 + ((mapV f xs).length : Int) < 0) := by omega
  simp only [if_neg n1, if_true]
  refine Ev.bind tf ?_
  refine Ev.bind tx ?_
  refine Ev.bind (implV f xs hf hl) ?_
  refine Ev.bind ev ?_
  simp only [if_true]
  refine Ev.bind hh ?_
  simp only [if_neg n1, if_true]
  exact Ev.now _
end Go.Proofs.Ytnokgkhkmnldeaa.Pure
