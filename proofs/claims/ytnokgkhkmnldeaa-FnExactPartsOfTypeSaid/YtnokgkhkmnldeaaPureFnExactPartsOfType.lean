/- FnExactPartsOfType: the pure statement. -/
import Derived.Test.YtnokgkhkmnldeaaPf3
import Derived.Test.YtnokgkhkmnldeaaB5
set_option linter.unusedSimpArgs false
set_option linter.unusedVariables false
namespace Go.Proofs.Ytnokgkhkmnldeaa.Pure
open Go.RowKit Go.Proofs.Ytnokgkhkmnldeaa.P Go.Proofs.YtnokgkhkmnldeaaW.PrintWords Go.Proofs.YtnokgkhkmnldeaaW.PrintLast
/-- Numbers from a on, n of them. -/
def marks (a : Int) : Nat → List Int
  | 0 => []
  | n + 1 => a :: marks (a + 1) n
theorem marks_len : ∀ (n : Nat) (a : Int), (marks a n).length = n
  | 0, _ => rfl
  | n + 1, a => by simp [marks, marks_len n (a + 1)]
theorem markS_loop (hi : Int) (hh : hi ≤ 4611686018427387904) : ∀ (m : Nat) (pre rest : List Int) (a : Int), rest.length = m → 0 ≤ a → a + m ≤ hi → (pre.length : Int) + m ≤ hi → Ev (fun k => laws_markIntS.l0 k (pre ++ rest) a (pre.length : Int)) (a + m, pre ++ marks a m)
  | 0, pre, rest, a, h, ha, hb, hc => by
    obtain rfl : rest = [] := List.length_eq_zero_iff.mp h
    refine Ev.step (f := fun _ => some (a + 0, pre ++ marks a 0)) (fun k => ?_) (Ev.now _)
    simp only [laws_markIntS.l0, marks, List.append_nil]
    rw [if_neg (by omega), Int.add_zero]
  | m + 1, pre, rest, a, h, ha, hb, hc => by
    obtain ⟨z, zs, rfl⟩ : ∃ z zs, rest = z :: zs := by cases rest with | nil => cases h | cons z zs => exact ⟨z, zs, rfl⟩
    have ih := markS_loop hi hh m (pre ++ [a]) zs (a + 1) (by simpa using h) (by omega) (by omega) (by simp; omega)
    have e1 : (pre ++ z :: zs).set pre.length a = (pre ++ [a]) ++ zs := by simp
    have e2 : a + ((m + 1 : Nat) : Int) = a + 1 + m := by omega
    have e3 : pre ++ marks a (m + 1) = (pre ++ [a]) ++ marks (a + 1) m := by simp [marks]
    rw [e2, e3]
    refine Ev.step (fun k => ?_) ih
    simp only [laws_markIntS.l0]
    rw [if_pos (by simp; omega), if_pos (by omega), w64 (x := a + 1) (by omega) (by omega), w64 (x := (pre.length : Int) + 1) (by omega) (by omega), Int.toNat_natCast, e1, show ((pre ++ [a]).length : Int) = (pre.length : Int) + 1 by simp]
theorem markIntS (l : List Int) (a : Int) (ha : 0 ≤ a) (hb : a + l.length ≤ 4611686018427387904) : Ev (fun k => laws_markIntS.f k l a) (a + l.length, marks a l.length) := by
  unfold laws_markIntS.f
  exact markS_loop _ (Int.le_refl _) l.length [] l a rfl ha hb (by simp; omega)
theorem heldS_loop (hi : Int) (hh : hi ≤ 4611686018427387904) : ∀ (m : Nat) (pre : List Int) (a : Int), 0 ≤ a → a + m ≤ hi → (pre.length : Int) + m ≤ hi → Ev (fun k => laws_heldIntS.l0 k (pre ++ marks a m) a (pre.length : Int)) (a + m)
  | 0, pre, a, ha, hb, hc => by
    refine Ev.step (f := fun _ => some (a + 0)) (fun k => ?_) (Ev.now _)
    simp only [laws_heldIntS.l0, marks, List.append_nil]
    rw [if_neg (by omega), Int.add_zero]
  | m + 1, pre, a, ha, hb, hc => by
    have ih := heldS_loop hi hh m (pre ++ [a]) (a + 1) (by omega) (by omega) (by simp; omega)
    have e2 : a + ((m + 1 : Nat) : Int) = a + 1 + m := by omega
    have e3 : pre ++ marks a (m + 1) = (pre ++ [a]) ++ marks (a + 1) m := by simp [marks]
    have e4 : rd (pre ++ marks a (m + 1)) (pre.length : Int) = a := by rw [rd_get (by simp [marks])]; simp [marks]
    rw [e2]
    refine Ev.step (fun k => ?_) ih
    simp only [laws_heldIntS.l0]
    rw [if_pos (by simp [marks]; omega), if_pos (by omega), e4, if_pos rfl, e3, w64 (x := a + 1) (by omega) (by omega), w64 (x := (pre.length : Int) + 1) (by omega) (by omega), show ((pre ++ [a]).length : Int) = (pre.length : Int) + 1 by simp]
theorem heldIntS (n : Nat) (a : Int) (ha : 0 ≤ a) (hb : a + (n : Int) ≤ 4611686018427387904) : Ev (fun k => laws_heldIntS.f k (marks a n) a) (a + n) := by
  unfold laws_heldIntS.f
  exact heldS_loop _ (Int.le_refl _) n [] a ha hb (by simp; omega)
/-! ## Rows of rows -/
theorem rdL_get {l : List (List Int)} {i : Nat} (h : i < l.length) : rd_L1 l (i : Int) = l[i] := by
  unfold rd_L1; rw [Int.toNat_natCast, List.getD_eq_getElem?_getD, List.getElem?_eq_getElem h]; rfl
def small (ps : List (List Int)) : Prop := ps.length ≤ 2 ∧ ∀ p ∈ ps, p.length ≤ 1048576
theorem eqIntSS (ps : List (List Int)) (h : small ps) : Ev (fun k => laws_eqIntSS.f k ps ps) true := by
  unfold laws_eqIntSS.f
  refine evCongr (fun k => if_pos rfl) ?_
  have hh : (findO (fun _ => (none : Option Bool)) 0 (ps.length : Int).toNat).getD true = true := by rw [findO_nil]; rfl
  rw [← hh]
  refine loop0 (F := fun k x => laws_eqIntSS.l0 k ps ps x) (n := (ps.length : Int)) (g := fun _ => none) (e := true) (by omega) ?_ ?_
  · refine Ev.step (f := fun _ => some true) (fun k => ?_) (Ev.now _)
    simp only [laws_eqIntSS.l0]; rw [if_neg (by omega)]
  · intro x h0 h1 r hr
    have hl := h.1
    obtain ⟨i, rfl⟩ := Int.eq_ofNat_of_zero_le h0
    refine Ev.step (f := fun k => (laws_eqIntS.f k ps[i] ps[i]).bind fun t => if t = true then laws_eqIntSS.l0 k ps ps ((i : Int) + 1) else some false) (fun k => ?_) ?_
    · simp only [laws_eqIntSS.l0]; rw [if_pos h1, if_pos h0, if_pos h1, w64 (by omega) (by omega), rdL_get (by omega)]
    · refine Ev.bind (eqIntS _ (h.2 _ (List.getElem_mem _))) ?_
      simpa using hr
/-- Rows of numbers from a on, as long as these. -/
def marksS (a : Int) : List (List Int) → List (List Int)
  | [] => []
  | p :: ps => marks a p.length :: marksS (a + p.length) ps
def total : List (List Int) → Int
  | [] => 0
  | p :: ps => p.length + total ps
theorem total_nn : ∀ ps : List (List Int), 0 ≤ total ps
  | [] => Int.le_refl _
  | p :: ps => by have := total_nn ps; unfold total; omega
theorem markSS_loop (hi : Int) (hh : hi ≤ 4611686018427387904) : ∀ (rest pre : List (List Int)) (a : Int), 0 ≤ a → a + total rest ≤ hi → (pre.length : Int) + rest.length ≤ hi → Ev (fun k => laws_markIntSS.l0 k (pre ++ rest) a (pre.length : Int)) (a + total rest, pre ++ marksS a rest)
  | [], pre, a, ha, hb, hc => by
    refine Ev.step (f := fun _ => some (a + 0, pre ++ [])) (fun k => ?_) (Ev.now _)
    simp only [laws_markIntSS.l0, List.append_nil]
    rw [if_neg (by omega), Int.add_zero]
  | p :: ps, pre, a, ha, hb, hc => by
    have tn := total_nn ps
    have hb' : a + (p.length + total ps) ≤ hi := hb
    have hc' : (pre.length : Int) + (ps.length + 1) ≤ hi := by simpa using hc
    have ih := markSS_loop hi hh ps (pre ++ [marks a p.length]) (a + p.length) (by omega) (by omega) (by simp; omega)
    have e1 : (pre ++ p :: ps).set pre.length (marks a p.length) = (pre ++ [marks a p.length]) ++ ps := by simp
    have e2 : a + total (p :: ps) = a + p.length + total ps := by show a + (p.length + total ps) = _; omega
    have e3 : pre ++ marksS a (p :: ps) = (pre ++ [marks a p.length]) ++ marksS (a + p.length) ps := by simp [marksS]
    have e4 : rd_L1 (pre ++ p :: ps) (pre.length : Int) = p := by rw [rdL_get (by simp)]; simp
    rw [e2, e3]
    refine Ev.step (f := fun k => (laws_markIntS.f k p a).bind fun t => laws_markIntSS.l0 k ((pre ++ p :: ps).set pre.length t.2) t.1 ((pre.length : Int) + 1)) (fun k => ?_) ?_
    · simp only [laws_markIntSS.l0]
      rw [if_pos (by simp; omega), if_pos (by omega), e4, w64 (x := (pre.length : Int) + 1) (by omega) (by omega), Int.toNat_natCast]
    · refine Ev.bind (markIntS p a ha (by omega)) ?_
      simp only [e1]
      rw [show ((pre ++ [marks a p.length]).length : Int) = (pre.length : Int) + 1 by simp] at ih
      exact ih
theorem markIntSS (ps : List (List Int)) (a : Int) (ha : 0 ≤ a) (hb : a + total ps ≤ 4611686018427387904) (hc : ps.length ≤ 4611686018427387904) : Ev (fun k => laws_markIntSS.f k ps a) (a + total ps, marksS a ps) := by
  unfold laws_markIntSS.f
  exact markSS_loop 4611686018427387904 (Int.le_refl _) ps [] a ha hb (by simp; omega)
theorem heldSS_loop (hi : Int) (hh : hi ≤ 4611686018427387904) : ∀ (rest pre : List (List Int)) (a : Int), 0 ≤ a → a + total rest ≤ hi → (pre.length : Int) + rest.length ≤ hi → Ev (fun k => laws_heldIntSS.l0 k (pre ++ marksS a rest) a (pre.length : Int)) (a + total rest)
  | [], pre, a, ha, hb, hc => by
    refine Ev.step (f := fun _ => some (a + 0)) (fun k => ?_) (Ev.now _)
    simp only [laws_heldIntSS.l0, marksS, List.append_nil]
    rw [if_neg (by omega), Int.add_zero]
  | p :: ps, pre, a, ha, hb, hc => by
    have tn := total_nn ps
    have hb' : a + (p.length + total ps) ≤ hi := hb
    have hc' : (pre.length : Int) + (ps.length + 1) ≤ hi := by simpa using hc
    have ih := heldSS_loop hi hh ps (pre ++ [marks a p.length]) (a + p.length) (by omega) (by omega) (by simp; omega)
    have e2 : a + total (p :: ps) = a + p.length + total ps := by show a + (p.length + total ps) = _; omega
    have e3 : pre ++ marksS a (p :: ps) = (pre ++ [marks a p.length]) ++ marksS (a + p.length) ps := by simp [marksS]
    have e4 : rd_L1 (pre ++ marksS a (p :: ps)) (pre.length : Int) = marks a p.length := by rw [rdL_get (by simp [marksS])]; simp [marksS]
    rw [e2]
    refine Ev.step (f := fun k => (laws_heldIntS.f k (marks a p.length) a).bind fun t => if t < 0 then some (-1) else laws_heldIntSS.l0 k (pre ++ marksS a (p :: ps)) t ((pre.length : Int) + 1)) (fun k => ?_) ?_
    · simp only [laws_heldIntSS.l0]
      rw [if_pos (by simp [marksS]; omega), if_pos (by omega), e4, w64 (x := (pre.length : Int) + 1) (by omega) (by omega)]
    · refine Ev.bind (heldIntS p.length a ha (by omega)) ?_
      simp only [if_neg (show ¬ a + (p.length : Int) < 0 by omega)]
      rw [e3]
      rw [show ((pre ++ [marks a p.length]).length : Int) = (pre.length : Int) + 1 by simp] at ih
      exact ih
theorem heldIntSS (ps : List (List Int)) (a : Int) (ha : 0 ≤ a) (hb : a + total ps ≤ 4611686018427387904) (hc : ps.length ≤ 4611686018427387904) : Ev (fun k => laws_heldIntSS.f k (marksS a ps) a) (a + total ps) := by
  unfold laws_heldIntSS.f
  exact heldSS_loop 4611686018427387904 (Int.le_refl _) ps [] a ha hb (by simp; omega)
/-! ## The parts -/
/-- Where the first part ends. -/
def endV (xs : List Int) : Int := eat xs (xs.length - 1) 1 1
def partsV (xs : List Int) : List (List Int) :=
  if writtenV xs = true then
    if kidsV (rd xs 0) = 0 then [] else if kidsV (rd xs 0) = 1 then [xs.drop 1] else [(xs.take (endV xs).toNat).drop 1, xs.drop (endV xs).toNat]
  else []
theorem copy_eq (l : List Int) (hl : l.length ≤ 1048576) : spec_l1Copy.f l = some l := by
  unfold spec_l1Copy.f
  simp only [Option.bind_some, List.nil_append, List.length_nil]
  rw [if_pos (by omega)]
theorem clone_eq (l : List Int) (hl : l.length ≤ 1048576) : slices_Clone_int_int.f l = some l := by
  unfold slices_Clone_int_int.f
  simp only [List.nil_append, List.length_nil]
  rw [if_pos (by omega)]
theorem written_facts {xs : List Int} (h : writtenV xs = true) : 1 ≤ xs.length ∧ xs.length ≤ 40 ∧ eat xs xs.length 1 0 = (xs.length : Int) := by
  unfold writtenV at h
  rw [Bool.and_eq_true, decide_eq_true_eq, inV_iff] at h
  exact ⟨by omega, by omega, h.2⟩
/-- How a written type falls into parts. -/
theorem written_parts {xs : List Int} (h : writtenV xs = true) : (kidsV (rd xs 0) = 0 ∧ xs.length = 1) ∨ (kidsV (rd xs 0) = 1 ∧ endV xs = (xs.length : Int) ∧ 1 < xs.length) ∨ (kidsV (rd xs 0) = 2 ∧ 1 < endV xs ∧ endV xs < xs.length ∧ eat xs (xs.length - endV xs).toNat 1 (endV xs) = (xs.length : Int)) := by
  obtain ⟨h1, h2, h3⟩ := written_facts h
  obtain ⟨m, hm⟩ : ∃ m, xs.length = m + 1 := ⟨xs.length - 1, by omega⟩
  have hle := kids_le (rd xs 0)
  rw [hm] at h3
  unfold eat at h3
  have e0 : endV xs = eat xs m 1 1 := by unfold endV; rw [hm]; rfl
  by_cases c : kidsV (rd xs 0) < 0
  · rw [if_pos c] at h3; omega
  · rw [if_neg c] at h3
    by_cases c0 : kidsV (rd xs 0) = 0
    · rw [if_pos (by omega)] at h3
      exact Or.inl ⟨c0, by omega⟩
    · rw [if_neg (by omega)] at h3
      by_cases c1 : kidsV (rd xs 0) = 1
      · rw [c1, show (1 : Int) - 1 + 1 = 1 by omega, show (0 : Int) + 1 = 1 by omega] at h3
        refine Or.inr (Or.inl ⟨c1, by rw [e0, h3, hm], ?_⟩)
        have r := eat_range xs m 1 1 (by omega)
        rw [h3] at r
        omega
      · have c2 : kidsV (rd xs 0) = 2 := by omega
        have ea := eat_add xs 1 (by omega) m 1 1 (by omega) (by omega)
        rw [c2, show (1 : Int) - 1 + 2 = 1 + 1 by omega, show (0 : Int) + 1 = 1 by omega, ea, ← e0] at h3
        have r := eat_range xs m 1 1 (by omega)
        rw [← e0] at r
        by_cases c3 : endV xs = -1
        · rw [if_pos c3] at h3; omega
        · rw [if_neg c3] at h3
          have r' := r.resolve_left c3
          have hl : ((xs.length : Int) - endV xs).toNat = (1 + (m : Int) - endV xs).toNat := by rw [hm]; omega
          have r2 := eat_range xs (1 + (m : Int) - endV xs).toNat 1 (endV xs) (by omega)
          rw [h3] at r2
          refine Or.inr (Or.inr ⟨c2, by omega, ?_, by rw [hl, h3, hm]⟩)
          rw [hm]
          omega
theorem partsV_small (xs : List Int) (hl : xs.length ≤ 1048576) : small (partsV xs) := by
  unfold partsV small
  split
  · split
    · simp
    · split
      · simp; omega
      · simp; omega
  · simp
theorem specPart {xs : List Int} (hl : xs.length ≤ 1048576) (h1 : 1 ≤ xs.length) (he : 1 ≤ endV xs ∧ endV xs ≤ xs.length) : Ev (fun k => spec_l2Part.f k xs 0) ((xs.take (endV xs).toNat).drop 1) ∧ Ev (fun k => spec_l2Part.f k xs 1) (xs.drop (endV xs).toNat) := by
  have main := specEnd0 xs hl (i := 1) (by omega) (by omega)
  rw [show ((xs.length : Int) - 1).toNat = xs.length - 1 by omega] at main
  change Ev (fun k => spec_l2End.f k xs 1) (endV xs) at main
  constructor
  · unfold spec_l2Part.f
    refine Ev.bind main ?_
    rw [show spec_l1Copy.f ((xs.take (endV xs).toNat).drop 1) = some ((xs.take (endV xs).toNat).drop 1) from copy_eq _ (by simp; omega)]
    simp only [if_true, if_pos he.1, if_pos he.2, Option.bind_some]
    exact Ev.now _
  · unfold spec_l2Part.f
    refine Ev.bind main ?_
    rw [show spec_l1Copy.f (xs.drop (endV xs).toNat) = some (xs.drop (endV xs).toNat) from copy_eq _ (by simp; omega)]
    simp only [if_neg (show ¬ (1 : Int) = 0 by decide), if_pos (show 0 ≤ endV xs by omega), if_pos he.2, Option.bind_some]
    exact Ev.now _
theorem spec_stop {xs : List Int} (h1 : 1 ≤ xs.length) (acc : List (List Int)) (i : Int) (h : kidsV (rd xs 0) ≤ i) : Ev (fun k => spec_PartsOfType.l0 k xs acc i) acc := by
  refine ⟨2, fun k hk => ?_⟩
  obtain ⟨k, rfl⟩ : ∃ q, k = q + 2 := ⟨k - 2, by omega⟩
  show (if 0 < (xs.length : Int) then _ else _) = _
  rw [if_pos (by omega), kids_eq, Option.bind_some, if_neg (by omega)]
theorem spec_go {xs : List Int} (h1 : 1 ≤ xs.length) {acc r : List (List Int)} {i : Int} {p : List Int} (h : i < kidsV (rd xs 0)) (hi : 0 ≤ i) (ha : acc.length ≤ 2) (hp : Ev (fun k => spec_l2Part.f k xs i) p) (hr : Ev (fun k => spec_PartsOfType.l0 k xs (acc ++ [p]) (i + 1)) r) : Ev (fun k => spec_PartsOfType.l0 k xs acc i) r := by
  have hle := kids_le (rd xs 0)
  obtain ⟨K, hK⟩ := hp
  obtain ⟨K', hK'⟩ := hr
  refine ⟨K + K' + 2, fun k hk => ?_⟩
  obtain ⟨k, rfl⟩ : ∃ q, k = q + 2 := ⟨k - 2, by omega⟩
  have hK2 : spec_l2Part.f (k + 1) xs i = some p := hK (k + 1) (by omega)
  show (if 0 < (xs.length : Int) then _ else _) = _
  rw [if_pos (by omega), kids_eq, Option.bind_some, if_pos h, hK2, Option.bind_some, if_pos (by omega), w64 (by omega) (by omega)]
  exact hK' (k + 1) (by omega)
theorem specParts (xs : List Int) (hl : xs.length ≤ 1048576) : Ev (fun k => spec_PartsOfType.f k xs) (partsV xs) := by
  unfold spec_PartsOfType.f
  refine Ev.bind (specWritten xs hl) ?_
  unfold partsV
  cases c : writtenV xs
  · simpa using Ev.now ([] : List (List Int))
  · simp only [if_true]
    obtain ⟨h1, h2, h3⟩ := written_facts c
    rcases written_parts c with ⟨k0, _⟩ | ⟨k1, e, e'⟩ | ⟨k2, e, e', e2⟩
    · rw [if_pos k0]; exact spec_stop h1 [] 0 (by omega)
    · rw [if_neg (by omega), if_pos k1]
      have p := (specPart hl h1 (by omega)).1
      have t : (xs.take (endV xs).toNat).drop 1 = xs.drop 1 := by rw [e, Int.toNat_natCast, List.take_length]
      rw [t] at p
      exact spec_go h1 (by omega) (by omega) (by simp) p (spec_stop h1 _ _ (by omega))
    · rw [if_neg (by omega), if_neg (by omega)]
      obtain ⟨p, q⟩ := specPart hl h1 (by omega)
      exact spec_go h1 (by omega) (by omega) (by simp) p (spec_go h1 (by omega) (by omega) (by simp) q (spec_stop h1 _ _ (by omega)))
theorem parts_go {xs : List Int} (hl : xs.length ≤ 1048576) {acc r : List (List Int)} {i : Int} (h0 : 0 ≤ i) (hi : i < xs.length) (ha : acc.length ≤ 2) {e : Int} (he : eat xs ((xs.length : Int) - i).toNat 1 i = e) (h2 : i ≤ e) (h3 : e ≤ xs.length) (hr : Ev (fun k => impl_parts.l0 k xs (acc ++ [(xs.take e.toNat).drop i.toNat]) e) r) : Ev (fun k => impl_parts.l0 k xs acc i) r := by
  have main := implEnd xs hl ((xs.length : Int) - i).toNat i h0 (by omega)
  rw [he] at main
  refine Ev.step (f := fun k => (impl_typeEnd.f k xs i).bind fun t => if 0 ≤ i then if i ≤ t then if t ≤ (xs.length : Int) then if acc.length < 5864062014805 then impl_parts.l0 k xs (acc ++ [(xs.take t.toNat).drop i.toNat]) t else none else none else none else none) (fun k => ?_) ?_
  · show (if i < (xs.length : Int) then _ else _) = _
    rw [if_pos hi]
  · refine Ev.bind main ?_
    simp only [if_pos h0, if_pos h2, if_pos h3, if_pos (show acc.length < 5864062014805 by omega)]
    exact hr
theorem parts_stop {xs : List Int} (acc : List (List Int)) : Ev (fun k => impl_parts.l0 k xs acc (xs.length : Int)) acc :=
  Ev.step (f := fun _ => some acc) (fun k => by show (if (xs.length : Int) < (xs.length : Int) then _ else _) = _; rw [if_neg (by omega)]) (Ev.now _)
theorem implParts_in {xs : List Int} (hl : xs.length ≤ 1048576) (c : writtenV xs = true) : Ev (fun k => impl_parts.f k xs) (partsV xs) := by
  unfold impl_parts.f partsV
  rw [if_pos c]
  obtain ⟨h1, h2, h3⟩ := written_facts c
  rcases written_parts c with ⟨k0, e⟩ | ⟨k1, e, e'⟩ | ⟨k2, e, e', e2⟩
  · rw [if_pos k0]
    have := parts_stop (xs := xs) []
    rw [show (xs.length : Int) = 1 by omega] at this
    exact this
  · rw [if_neg (by omega), if_pos k1]
    have t : (xs.take (xs.length : Int).toNat).drop (1 : Int).toNat = xs.drop 1 := by rw [Int.toNat_natCast, List.take_length]; rfl
    refine parts_go hl (by omega) (by omega) (by simp) (e := (xs.length : Int)) ?_ (by omega) (by omega) ?_
    · rw [show ((xs.length : Int) - 1).toNat = xs.length - 1 by omega]; exact e
    · rw [t]; exact parts_stop _
  · rw [if_neg (by omega), if_neg (by omega)]
    refine parts_go hl (by omega) (by omega) (by simp) (e := endV xs) ?_ (by omega) (by omega) ?_
    · unfold endV; congr 1; omega
    · refine parts_go hl (by omega) (by omega) (by simp) (e := (xs.length : Int)) e2 (by omega) (by omega) ?_
      have t : (xs.take (xs.length : Int).toNat).drop (endV xs).toNat = xs.drop (endV xs).toNat := by rw [Int.toNat_natCast, List.take_length]
      rw [t]
      exact parts_stop _
theorem cloneAll (ps : List (List Int)) (h : small ps) : ∀ (m i : Nat) (acc : List (List Int)), i + m = ps.length → acc = ps.take i → Ev (fun k => impl_PartsOfType.l0 k acc ps (ps.length : Int) (i : Int)) ps
  | 0, i, acc, hi, ha => by
    refine Ev.step (f := fun _ => some acc) (fun k => ?_) ?_
    · simp only [impl_PartsOfType.l0]; rw [if_neg (by omega)]
    · rw [ha, List.take_of_length_le (by omega)]; exact Ev.now _
  | m + 1, i, acc, hi, ha => by
    have hl := h.1
    have ih := cloneAll ps h m (i + 1) (acc ++ [ps[i]]) (by omega) (by rw [ha, List.take_succ_eq_append_getElem (by omega)])
    have al : acc.length ≤ 2 := by rw [ha, List.length_take]; omega
    refine Ev.step (fun k => ?_) ih
    simp only [impl_PartsOfType.l0]
    rw [if_pos (by omega), if_pos (by omega), if_pos (by omega), rdL_get (by omega), clone_eq _ (h.2 _ (List.getElem_mem _)), Option.bind_some, if_pos (by omega), w64 (by omega) (by omega)]
    rfl
theorem implParts (xs : List Int) (hl : xs.length ≤ 1048576) : Ev (fun k => impl_PartsOfType.f k xs) (partsV xs) := by
  unfold impl_PartsOfType.f
  refine Ev.bind (implWritten xs hl) ?_
  cases c : writtenV xs
  · have : partsV xs = [] := by unfold partsV; rw [c]; rfl
    rw [this]
    simpa using Ev.now ([] : List (List Int))
  · simp only [if_true]
    refine Ev.bind (implParts_in hl c) ?_
    exact cloneAll (partsV xs) (partsV_small xs hl) (partsV xs).length 0 [] (by omega) (by simp)
theorem total_le : ∀ (ps : List (List Int)), (∀ p ∈ ps, p.length ≤ 1048576) → total ps ≤ 1048576 * (ps.length : Int)
  | [], _ => by simp [total]
  | p :: ps, h => by
    have a := h p (by simp)
    have b := total_le ps fun q hq => h q (by simp [hq])
    unfold total
    simp only [List.length_cons]
    omega
theorem FnExactPartsOfType : laws_FnExactPartsOfType.Pure := by
  intro xs hx
  refine evRounds ?_
  unfold laws_FnExactPartsOfType.f
  by_cases c1 : (xs.length : Int) > 1048576
  · simp only [if_pos c1]; exact Ev.now _
  have hl : xs.length ≤ 1048576 := by omega
  simp only [if_neg c1]
  have tx := toIntS xs hl
  have ex := eqIntS xs hl
  have sm := partsV_small xs hl
  have ev := eqIntSS (partsV xs) sm
  have tt := total_le (partsV xs) sm.2
  have tn := total_nn (partsV xs)
  have sl := sm.1
  refine Ev.bind tx ?_
  refine Ev.bind (specParts xs hl) ?_
  refine Ev.bind tx ?_
  refine Ev.bind (implParts xs hl) ?_
  refine Ev.bind ev ?_
  simp only [if_true]
  refine Ev.bind tx ?_
  refine Ev.bind ex ?_
  simp only [if_true]
  refine Ev.bind (markIntS xs 1 (by decide) (by omega)) ?_
  have n0 : ¬ (1 + (xs.length : Int) < 0) := by omega
  simp only [if_neg n0]
  refine Ev.bind ev ?_
  refine Ev.step (fun k => by simp only [laws_FnExactPartsOfType.j0, Bool.not_true, Bool.false_eq_true, if_false]; rfl) ?_
  refine Ev.bind (markIntSS (partsV xs) 1 (by decide) (by omega) (by omega)) ?_
  have hh := heldIntSS (partsV xs) 1 (by decide) (by omega) (by omega)
  refine Ev.bind hh ?_
  have n1 : ¬ (1 + total (partsV xs) < 0) := by omega
  simp only [if_neg n1, if_true]
  refine Ev.bind tx ?_
  refine Ev.bind (implParts xs hl) ?_
  refine Ev.bind ev ?_
  simp only [if_true]
  refine Ev.bind hh ?_
  simp only [if_neg n1, if_true]
  exact Ev.now _
end Go.Proofs.Ytnokgkhkmnldeaa.Pure
