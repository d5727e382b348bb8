-- Several texts in one (wip/tools/merge.py).
import Derived.Test.YtipfkicndjddgaaPf103
import Derived.Test.YtipfkicndjddgaaPf78
import Derived.Test.YtipfkicndjddgaaB1
import Derived.Test.YtipfkicndjddgaaM6
import Derived.Test.YtipfkicndjddgaaM5
import Derived.Test.YtipfkicndjddgaaM3
section
/- Marked sets of grades. -/
set_option linter.unusedSimpArgs false
set_option linter.unusedVariables false
namespace Go.Proofs.Ytipfkicndjddgaa.Pure
open Go.RowKit Go.Proofs.Ytipfkicndjddgaa.P Go.Proofs.YtipfkicndjddgaaW.PrintWords Go.Proofs.YtipfkicndjddgaaW.PrintLast
/-- What a pair of grades tells of a marked set. -/
def v1 (n : Int) (p t : List Int) (b : List Bool) (s : List Bool) (x y : Int) : Option Bool :=
  if rdOf false s x = true then
    (if rdOf false s (A n p x y) = true ∧ rdOf false s (A n t x y) = rdOf false s y ∧ (L n b x y = true → rdOf false s y = true) then none else some false)
  else (if rdOf false s (A n p x y) = rdOf false s y ∧ rdOf false s (A n t x y) = false then none else some false)
def v0 (n : Int) (p t : List Int) (b : List Bool) (s : List Bool) (x : Int) : Option Bool := findO (v1 n p t b s x) 0 n.toNat
def markV (n : Int) (p t : List Int) (b : List Bool) (s : List Bool) : Bool := if rdOf false s 0 = false ∧ rdOf false s 1 = true then (findO (v0 n p t b s) 0 n.toNat).getD true else false
section
variable {n : Int} {p t : List Int} {b : List Bool} {s : List Bool}
theorem specMarks (h : OK n p t b) (hs : (s.length : Int) = n) : Ev (fun k => spec_l1View.l0 k s 0 n p t b) ((findO (v0 n p t b s) 0 n.toNat).getD true) := by
  have hn : 0 ≤ n := by have := h.lo; omega
  have up : ∀ x, 0 ≤ x → x < n → wrap64 (x + 1) = x + 1 := fun x h0 h1 => w64 (by omega) (by have := h.hi; omega)
  refine loop0 (F := fun k x => spec_l1View.l0 k s x n p t b) hn ?_ ?_
  · refine Ev.step (f := fun _ => some true) (fun k => ?_) (Ev.now _)
    simp only [spec_l1View.l0]; rw [if_neg (by omega)]
  · intro x x0 x1 r hr
    refine Ev.step (f := fun k => spec_l1View.l1 k s x 0 n p t b) (fun k => ?_) ?_
    · simp only [spec_l1View.l0]; rw [if_pos x1]
    · unfold v0
      refine loop0 (F := fun k y => spec_l1View.l1 k s x y n p t b) hn ?_ ?_
      · refine Ev.step (fun k => ?_) hr
        simp only [spec_l1View.l1]; rw [if_neg (by omega), up x x0 x1]
      · intro y y0 y1 r hr
        have hx : Rg n x := ⟨x0, x1⟩
        have hy : Rg n y := ⟨y0, y1⟩
        have ha := A_in h hx hy
        have hm := M_in h hx hy
        have ha' : A n p x y < (s.length : Int) := by rw [hs]; exact ha.2
        have hm' : A n t x y < (s.length : Int) := by rw [hs]; exact hm.2
        have x2 : x < (s.length : Int) := by omega
        have y2 : y < (s.length : Int) := by omega
        refine Ev.step (f := fun k => if v1 n p t b s x y = none then spec_l1View.l1 k s x (y + 1) n p t b else some false) (fun k => ?_) ?_
        · simp only [spec_l1View.l1, add_eq h hx hy, mul_eq h hx hy, le_eq h hx hy, Option.bind_some, if_pos y1, if_pos ha.1, if_pos ha', if_pos x0, if_pos x2, if_pos y0, if_pos y2, if_pos hm.1, if_pos hm', up y y0 y1]
          unfold v1
          generalize rdOf false s x = q1
          generalize rdOf false s (A n p x y) = q2
          generalize rdOf false s (A n t x y) = q3
          generalize rdOf false s y = q4
          generalize L n b x y = q5
          cases q1 <;> cases q2 <;> cases q3 <;> cases q4 <;> cases q5 <;> simp
        · cases c : v1 n p t b s x y with
          | none => simpa using hr
          | some u =>
            have : u = false := by
              unfold v1 at c
              repeat' split at c
              all_goals first | exact (Option.some.inj c).symm | cases c
            subst this
            simpa using Ev.now false
theorem implMarks (h : OK n p t b) (hs : (s.length : Int) = n) : Ev (fun k => impl_isView.l0 k s 0 n p t b) ((findO (v0 n p t b s) 0 n.toNat).getD true) := by
  have hn : 0 ≤ n := by have := h.lo; omega
  have up : ∀ x, 0 ≤ x → x < n → wrap64 (x + 1) = x + 1 := fun x h0 h1 => w64 (by omega) (by have := h.hi; omega)
  refine loop0 (F := fun k x => impl_isView.l0 k s x n p t b) hn ?_ ?_
  · refine Ev.step (f := fun _ => some true) (fun k => ?_) (Ev.now _)
    simp only [impl_isView.l0]; rw [if_neg (by omega)]
  · intro x x0 x1 r hr
    refine Ev.step (f := fun k => impl_isView.l1 k s x 0 n p t b) (fun k => ?_) ?_
    · simp only [impl_isView.l0]; rw [if_pos x1]
    · unfold v0
      refine loop0 (F := fun k y => impl_isView.l1 k s x y n p t b) hn ?_ ?_
      · refine Ev.step (fun k => ?_) hr
        simp only [impl_isView.l1]; rw [if_neg (by omega), up x x0 x1]
      · intro y y0 y1 r hr
        have hx : Rg n x := ⟨x0, x1⟩
        have hy : Rg n y := ⟨y0, y1⟩
        have ha := A_in h hx hy
        have hm := M_in h hx hy
        have ha' : A n p x y < (s.length : Int) := by rw [hs]; exact ha.2
        have hm' : A n t x y < (s.length : Int) := by rw [hs]; exact hm.2
        have x2 : x < (s.length : Int) := by omega
        have y2 : y < (s.length : Int) := by omega
        refine Ev.step (f := fun k => if v1 n p t b s x y = none then impl_isView.l1 k s x (y + 1) n p t b else some false) (fun k => ?_) ?_
        · simp only [impl_isView.l1, plus_is, times_is, below_is, add_eq h hx hy, mul_eq h hx hy, le_eq h hx hy, Option.bind_some, if_pos y1, if_pos ha.1, if_pos ha', if_pos x0, if_pos x2, if_pos y0, if_pos y2, if_pos hm.1, if_pos hm', up y y0 y1]
          unfold v1
          generalize rdOf false s x = q1
          generalize rdOf false s (A n p x y) = q2
          generalize rdOf false s (A n t x y) = q3
          generalize rdOf false s y = q4
          generalize L n b x y = q5
          cases q1 <;> cases q2 <;> cases q3 <;> cases q4 <;> cases q5 <;> simp
        · cases c : v1 n p t b s x y with
          | none => simpa using hr
          | some u =>
            have : u = false := by
              unfold v1 at c
              repeat' split at c
              all_goals first | exact (Option.some.inj c).symm | cases c
            subst this
            simpa using Ev.now false
theorem specMark (h : OK n p t b) (hs : (s.length : Int) = n) : Ev (fun k => spec_l1View.f k n p t b s) (markV n p t b s) := by
  have p0 : 0 < (s.length : Int) := by have := h.lo; omega
  have p1 : 1 < (s.length : Int) := by have := h.lo; omega
  unfold spec_l1View.f markV
  simp only [if_pos p0, if_pos p1]
  have main := specMarks h hs
  refine evCongr (f := fun k => spec_l1View.j0 k s (rdOf false s 0 || !rdOf false s 1) n p t b) (fun k => ?_) (Ev.step (f := fun k => if rdOf false s 0 = false ∧ rdOf false s 1 = true then spec_l1View.l0 k s 0 n p t b else some false) (fun k => ?_) ?_)
  · cases rdOf false s 0 <;> simp
  · simp only [spec_l1View.j0]
    cases rdOf false s 0 <;> cases rdOf false s 1 <;> simp
  · split
    · exact main
    · exact Ev.now _
theorem implMark (h : OK n p t b) (hs : (s.length : Int) = n) : Ev (fun k => impl_isView.f k n p t b s) (markV n p t b s) := by
  have p0 : 0 < (s.length : Int) := by have := h.lo; omega
  have p1 : 1 < (s.length : Int) := by have := h.lo; omega
  unfold impl_isView.f markV
  simp only [if_pos p0, if_pos p1]
  have main := implMarks h hs
  refine evCongr (f := fun k => impl_isView.j0 k s (!rdOf false s 1 || rdOf false s 0) n p t b) (fun k => ?_) (Ev.step (f := fun k => if rdOf false s 0 = false ∧ rdOf false s 1 = true then impl_isView.l0 k s 0 n p t b else some false) (fun k => ?_) ?_)
  · cases rdOf false s 1 <;> simp
  · simp only [impl_isView.j0]
    cases rdOf false s 0 <;> cases rdOf false s 1 <;> simp
  · split
    · exact main
    · exact Ev.now _
end
end Go.Proofs.Ytipfkicndjddgaa.Pure
end

section
/- Marks in systems and in rows of rows. -/
set_option linter.unusedSimpArgs false
set_option linter.unusedVariables false
namespace Go.Proofs.Ytipfkicndjddgaa.Pure
open Go.RowKit Go.Proofs.Ytipfkicndjddgaa.P Go.Proofs.YtipfkicndjddgaaW.PrintWords Go.Proofs.YtipfkicndjddgaaW.PrintLast
/-- Numbers from a on, n of them. -/
def marks (a : Int) : Nat → List Int
  | 0 => []
  | n + 1 => a :: marks (a + 1) n
theorem marks_len : ∀ (n : Nat) (a : Int), (marks a n).length = n
  | 0, _ => rfl
  | n + 1, a => by simp [marks, marks_len n (a + 1)]
theorem markS_loop (hi : Int) (hh : hi ≤ 4611686018427387904) : ∀ (m : Nat) (pre rest : List Int) (a : Int), rest.length = m → 0 ≤ a → a + m ≤ hi → (pre.length : Int) + m ≤ hi → Ev (fun k => laws_markIntS.l0 k (pre ++ rest) a (pre.length : Int)) (a + m, pre ++ marks a m)
  | 0, pre, rest, a, h, ha, hb, hc => by
    obtain rfl : rest = [] := List.length_eq_zero_iff.mp h
    refine Ev.step (f := fun _ => some (a + 0, pre ++ marks a 0)) (fun k => ?_) (Ev.now _)
    simp only [laws_markIntS.l0, marks, List.append_nil]
    rw [if_neg (by omega), Int.add_zero]
  | m + 1, pre, rest, a, h, ha, hb, hc => by
    obtain ⟨z, zs, rfl⟩ : ∃ z zs, rest = z :: zs := by cases rest with | nil => cases h | cons z zs => exact ⟨z, zs, rfl⟩
    have ih := markS_loop hi hh m (pre ++ [a]) zs (a + 1) (by simpa using h) (by omega) (by omega) (by simp; omega)
    have e1 : (pre ++ z :: zs).set pre.length a = (pre ++ [a]) ++ zs := by simp
    have e2 : a + ((m + 1 : Nat) : Int) = a + 1 + m := by omega
    have e3 : pre ++ marks a (m + 1) = (pre ++ [a]) ++ marks (a + 1) m := by simp [marks]
    rw [e2, e3]
    refine Ev.step (fun k => ?_) ih
    simp only [laws_markIntS.l0]
    rw [if_pos (by simp; omega), if_pos (by omega), w64 (x := a + 1) (by omega) (by omega), w64 (x := (pre.length : Int) + 1) (by omega) (by omega), Int.toNat_natCast, e1, show ((pre ++ [a]).length : Int) = (pre.length : Int) + 1 by simp]
theorem markIntS (l : List Int) (a : Int) (ha : 0 ≤ a) (hb : a + l.length ≤ 4611686018427387904) : Ev (fun k => laws_markIntS.f k l a) (a + l.length, marks a l.length) := by
  unfold laws_markIntS.f
  exact markS_loop _ (Int.le_refl _) l.length [] l a rfl ha hb (by simp; omega)
theorem heldS_loop (hi : Int) (hh : hi ≤ 4611686018427387904) : ∀ (m : Nat) (pre : List Int) (a : Int), 0 ≤ a → a + m ≤ hi → (pre.length : Int) + m ≤ hi → Ev (fun k => laws_heldIntS.l0 k (pre ++ marks a m) a (pre.length : Int)) (a + m)
  | 0, pre, a, ha, hb, hc => by
    refine Ev.step (f := fun _ => some (a + 0)) (fun k => ?_) (Ev.now _)
    simp only [laws_heldIntS.l0, marks, List.append_nil]
    rw [if_neg (by omega), Int.add_zero]
  | m + 1, pre, a, ha, hb, hc => by
    have ih := heldS_loop hi hh m (pre ++ [a]) (a + 1) (by omega) (by omega) (by simp; omega)
    have e2 : a + ((m + 1 : Nat) : Int) = a + 1 + m := by omega
    have e3 : pre ++ marks a (m + 1) = (pre ++ [a]) ++ marks (a + 1) m := by simp [marks]
    have e4 : rd (pre ++ marks a (m + 1)) (pre.length : Int) = a := by rw [rd_get (by simp [marks])]; simp [marks]
    rw [e2]
    refine Ev.step (fun k => ?_) ih
    simp only [laws_heldIntS.l0]
    rw [if_pos (by simp [marks]; omega), if_pos (by omega), e4, if_pos rfl, e3, w64 (x := a + 1) (by omega) (by omega), w64 (x := (pre.length : Int) + 1) (by omega) (by omega), show ((pre ++ [a]).length : Int) = (pre.length : Int) + 1 by simp]
theorem heldIntS (n : Nat) (a : Int) (ha : 0 ≤ a) (hb : a + (n : Int) ≤ 4611686018427387904) : Ev (fun k => laws_heldIntS.f k (marks a n) a) (a + n) := by
  unfold laws_heldIntS.f
  exact heldS_loop _ (Int.le_refl _) n [] a ha hb (by simp; omega)
def marksB (a : Int) : Nat → List Bool
  | 0 => []
  | n + 1 => ((Int.tmod a 3) == 0) :: marksB (a + 1) n
theorem marksB_len : ∀ (n : Nat) (a : Int), (marksB a n).length = n
  | 0, _ => rfl
  | n + 1, a => by simp [marksB, marksB_len n (a + 1)]
theorem markB_loop (hi : Int) (hh : hi ≤ 4611686018427387904) : ∀ (m : Nat) (pre rest : List Bool) (a : Int), rest.length = m → 0 ≤ a → a + m ≤ hi → (pre.length : Int) + m ≤ hi → Ev (fun k => laws_markBoolS.l0 k (pre ++ rest) a (pre.length : Int)) (a + m, pre ++ marksB a m)
  | 0, pre, rest, a, h, ha, hb, hc => by
    obtain rfl : rest = [] := List.length_eq_zero_iff.mp h
    refine Ev.step (f := fun _ => some (a + 0, pre ++ marksB a 0)) (fun k => ?_) (Ev.now _)
    simp only [laws_markBoolS.l0, marksB, List.append_nil]
    rw [if_neg (by omega), Int.add_zero]
  | m + 1, pre, rest, a, h, ha, hb, hc => by
    obtain ⟨z, zs, rfl⟩ : ∃ z zs, rest = z :: zs := by cases rest with | nil => cases h | cons z zs => exact ⟨z, zs, rfl⟩
    have ih := markB_loop hi hh m (pre ++ [((Int.tmod a 3) == 0)]) zs (a + 1) (by simpa using h) (by omega) (by omega) (by simp; omega)
    have e1 : (pre ++ z :: zs).set pre.length ((Int.tmod a 3) == 0) = (pre ++ [((Int.tmod a 3) == 0)]) ++ zs := by simp
    have e2 : a + ((m + 1 : Nat) : Int) = a + 1 + m := by omega
    have e3 : pre ++ marksB a (m + 1) = (pre ++ [((Int.tmod a 3) == 0)]) ++ marksB (a + 1) m := by simp [marksB]
    rw [e2, e3]
    refine Ev.step (fun k => ?_) ih
    simp only [laws_markBoolS.l0]
    rw [if_pos (by simp; omega), if_pos (by omega), w64 (x := a + 1) (by omega) (by omega), w64 (x := (pre.length : Int) + 1) (by omega) (by omega), Int.toNat_natCast, e1, show ((pre ++ [((Int.tmod a 3) == 0)]).length : Int) = (pre.length : Int) + 1 by simp]
theorem markBoolS (l : List Bool) (a : Int) (ha : 0 ≤ a) (hb : a + l.length ≤ 4611686018427387904) : Ev (fun k => laws_markBoolS.f k l a) (a + l.length, marksB a l.length) := by
  unfold laws_markBoolS.f
  exact markB_loop _ (Int.le_refl _) l.length [] l a rfl ha hb (by simp; omega)
theorem markSys (n : Int) (p t : List Int) (b : List Bool) (a : Int) (h1 : p.length ≤ 1048576) (h2 : t.length ≤ 1048576) (h3 : b.length ≤ 1048576) (ha : 0 ≤ a) (hb : a ≤ 1000000000) :
    Ev (fun k => laws_markSystem.f k n p t b a) (a + p.length + t.length + b.length, marks a p.length, marks (a + p.length) t.length, marksB (a + p.length + t.length) b.length) := by
  unfold laws_markSystem.f
  refine Ev.bind (markIntS p a ha (by omega)) ?_
  refine Ev.bind (markIntS t (a + p.length) (by omega) (by omega)) ?_
  refine Ev.bind (markBoolS b (a + p.length + t.length) (by omega) (by omega)) ?_
  exact Ev.now _
/-! ## Rows of rows -/
theorem rdL_get {l : List (List Int)} {i : Nat} (h : i < l.length) : rd_L2 l (i : Int) = l[i] := by
  unfold rd_L2; rw [Int.toNat_natCast, List.getD_eq_getElem?_getD, List.getElem?_eq_getElem h]; rfl
def small (ps : List (List Int)) : Prop := ps.length ≤ 1048576 ∧ ∀ p ∈ ps, p.length ≤ 1048576
theorem eqIntSS (ps : List (List Int)) (h : small ps) : Ev (fun k => laws_eqIntSS.f k ps ps) true := by
  unfold laws_eqIntSS.f
  refine evCongr (fun k => if_pos rfl) ?_
  have hh : (findO (fun _ => (none : Option Bool)) 0 (ps.length : Int).toNat).getD true = true := by rw [findO_nil]; rfl
  rw [← hh]
  refine loop0 (F := fun k x => laws_eqIntSS.l0 k ps ps x) (n := (ps.length : Int)) (g := fun _ => none) (e := true) (by omega) ?_ ?_
  · refine Ev.step (f := fun _ => some true) (fun k => ?_) (Ev.now _)
    simp only [laws_eqIntSS.l0]; rw [if_neg (by omega)]
  · intro x h0 h1 r hr
    have hl := h.1
    obtain ⟨i, rfl⟩ := Int.eq_ofNat_of_zero_le h0
    refine Ev.step (f := fun k => (laws_eqIntS.f k ps[i] ps[i]).bind fun t => if t = true then laws_eqIntSS.l0 k ps ps ((i : Int) + 1) else some false) (fun k => ?_) ?_
    · simp only [laws_eqIntSS.l0]; rw [if_pos h1, if_pos h0, if_pos h1, w64 (by omega) (by omega), rdL_get (by omega)]
    · refine Ev.bind (eqIntS _ (h.2 _ (List.getElem_mem _))) ?_
      simpa using hr
/-- Rows of numbers from a on, as long as these. -/
def marksS (a : Int) : List (List Int) → List (List Int)
  | [] => []
  | p :: ps => marks a p.length :: marksS (a + p.length) ps
def total : List (List Int) → Int
  | [] => 0
  | p :: ps => p.length + total ps
theorem total_nn : ∀ ps : List (List Int), 0 ≤ total ps
  | [] => Int.le_refl _
  | p :: ps => by have := total_nn ps; unfold total; omega
theorem markSS_loop (hi : Int) (hh : hi ≤ 4611686018427387904) : ∀ (rest pre : List (List Int)) (a : Int), 0 ≤ a → a + total rest ≤ hi → (pre.length : Int) + rest.length ≤ hi → Ev (fun k => laws_markIntSS.l0 k (pre ++ rest) a (pre.length : Int)) (a + total rest, pre ++ marksS a rest)
  | [], pre, a, ha, hb, hc => by
    refine Ev.step (f := fun _ => some (a + 0, pre ++ [])) (fun k => ?_) (Ev.now _)
    simp only [laws_markIntSS.l0, List.append_nil]
    rw [if_neg (by omega), Int.add_zero]
  | p :: ps, pre, a, ha, hb, hc => by
    have tn := total_nn ps
    have hb' : a + (p.length + total ps) ≤ hi := hb
    have hc' : (pre.length : Int) + (ps.length + 1) ≤ hi := by simpa using hc
    have ih := markSS_loop hi hh ps (pre ++ [marks a p.length]) (a + p.length) (by omega) (by omega) (by simp; omega)
    have e1 : (pre ++ p :: ps).set pre.length (marks a p.length) = (pre ++ [marks a p.length]) ++ ps := by simp
    have e2 : a + total (p :: ps) = a + p.length + total ps := by show a + (p.length + total ps) = _; omega
    have e3 : pre ++ marksS a (p :: ps) = (pre ++ [marks a p.length]) ++ marksS (a + p.length) ps := by simp [marksS]
    have e4 : rd_L2 (pre ++ p :: ps) (pre.length : Int) = p := by rw [rdL_get (by simp)]; simp
    rw [e2, e3]
    refine Ev.step (f := fun k => (laws_markIntS.f k p a).bind fun t => laws_markIntSS.l0 k ((pre ++ p :: ps).set pre.length t.2) t.1 ((pre.length : Int) + 1)) (fun k => ?_) ?_
    · simp only [laws_markIntSS.l0]
      rw [if_pos (by simp; omega), if_pos (by omega), e4, w64 (x := (pre.length : Int) + 1) (by omega) (by omega), Int.toNat_natCast]
    · refine Ev.bind (markIntS p a ha (by omega)) ?_
      simp only [e1]
      rw [show ((pre ++ [marks a p.length]).length : Int) = (pre.length : Int) + 1 by simp] at ih
      exact ih
theorem markIntSS (ps : List (List Int)) (a : Int) (ha : 0 ≤ a) (hb : a + total ps ≤ 4611686018427387904) (hc : ps.length ≤ 4611686018427387904) : Ev (fun k => laws_markIntSS.f k ps a) (a + total ps, marksS a ps) := by
  unfold laws_markIntSS.f
  exact markSS_loop 4611686018427387904 (Int.le_refl _) ps [] a ha hb (by simp; omega)
theorem heldSS_loop (hi : Int) (hh : hi ≤ 4611686018427387904) : ∀ (rest pre : List (List Int)) (a : Int), 0 ≤ a → a + total rest ≤ hi → (pre.length : Int) + rest.length ≤ hi → Ev (fun k => laws_heldIntSS.l0 k (pre ++ marksS a rest) a (pre.length : Int)) (a + total rest)
  | [], pre, a, ha, hb, hc => by
    refine Ev.step (f := fun _ => some (a + 0)) (fun k => ?_) (Ev.now _)
    simp only [laws_heldIntSS.l0, marksS, List.append_nil]
    rw [if_neg (by omega), Int.add_zero]
  | p :: ps, pre, a, ha, hb, hc => by
    have tn := total_nn ps
    have hb' : a + (p.length + total ps) ≤ hi := hb
    have hc' : (pre.length : Int) + (ps.length + 1) ≤ hi := by simpa using hc
    have ih := heldSS_loop hi hh ps (pre ++ [marks a p.length]) (a + p.length) (by omega) (by omega) (by simp; omega)
    have e2 : a + total (p :: ps) = a + p.length + total ps := by show a + (p.length + total ps) = _; omega
    have e3 : pre ++ marksS a (p :: ps) = (pre ++ [marks a p.length]) ++ marksS (a + p.length) ps := by simp [marksS]
    have e4 : rd_L2 (pre ++ marksS a (p :: ps)) (pre.length : Int) = marks a p.length := by rw [rdL_get (by simp [marksS])]; simp [marksS]
    rw [e2]
    refine Ev.step (f := fun k => (laws_heldIntS.f k (marks a p.length) a).bind fun t => if t < 0 then some (-1) else laws_heldIntSS.l0 k (pre ++ marksS a (p :: ps)) t ((pre.length : Int) + 1)) (fun k => ?_) ?_
    · simp only [laws_heldIntSS.l0]
      rw [if_pos (by simp [marksS]; omega), if_pos (by omega), e4, w64 (x := (pre.length : Int) + 1) (by omega) (by omega)]
    · refine Ev.bind (heldIntS p.length a ha (by omega)) ?_
      simp only [if_neg (show ¬ a + (p.length : Int) < 0 by omega)]
      rw [e3]
      rw [show ((pre ++ [marks a p.length]).length : Int) = (pre.length : Int) + 1 by simp] at ih
      exact ih
theorem heldIntSS (ps : List (List Int)) (a : Int) (ha : 0 ≤ a) (hb : a + total ps ≤ 4611686018427387904) (hc : ps.length ≤ 4611686018427387904) : Ev (fun k => laws_heldIntSS.f k (marksS a ps) a) (a + total ps) := by
  unfold laws_heldIntSS.f
  exact heldSS_loop 4611686018427387904 (Int.le_refl _) ps [] a ha hb (by simp; omega)
end Go.Proofs.Ytipfkicndjddgaa.Pure
end
