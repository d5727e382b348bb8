-- Several texts in one (wip/tools/merge.py).
import Derived.Test.YtipfkicndjddgaaM7
import Derived.Test.YtipfkicndjddgaaM6
import Derived.Test.YtipfkicndjddgaaPf9
import Derived.Test.YtipfkicndjddgaaPf11
import Derived.Test.YtipfkicndjddgaaM9
import Derived.Test.YtipfkicndjddgaaM1
import Derived.Test.YtipfkicndjddgaaM4
import Derived.Test.YtipfkicndjddgaaM3
section
/- Marks in systems; the product's tables: the program's and the reference's are one. -/
set_option linter.unusedSimpArgs false
set_option linter.unusedVariables false
namespace Go.Proofs.Ytipfkicndjddgaa.Pure
open Go.RowKit Go.Proofs.Ytipfkicndjddgaa.P Go.Proofs.YtipfkicndjddgaaW.PrintWords Go.Proofs.YtipfkicndjddgaaW.PrintLast
/-- Numbers from a on, n of them. -/
def marks (a : Int) : Nat → List Int
  | 0 => []
  | n + 1 => a :: marks (a + 1) n
theorem marks_len : ∀ (n : Nat) (a : Int), (marks a n).length = n
  | 0, _ => rfl
  | n + 1, a => by simp [marks, marks_len n (a + 1)]
theorem markS_loop (hi : Int) (hh : hi ≤ 4611686018427387904) : ∀ (m : Nat) (pre rest : List Int) (a : Int), rest.length = m → 0 ≤ a → a + m ≤ hi → (pre.length : Int) + m ≤ hi → Ev (fun k => laws_markIntS.l0 k (pre ++ rest) a (pre.length : Int)) (a + m, pre ++ marks a m)
  | 0, pre, rest, a, h, ha, hb, hc => by
    obtain rfl : rest = [] := List.length_eq_zero_iff.mp h
    refine Ev.step (f := fun _ => some (a + 0, pre ++ marks a 0)) (fun k => ?_) (Ev.now _)
    simp only [laws_markIntS.l0, marks, List.append_nil]
    rw [if_neg (by omega), Int.add_zero]
  | m + 1, pre, rest, a, h, ha, hb, hc => by
    obtain ⟨z, zs, rfl⟩ : ∃ z zs, rest = z :: zs := by cases rest with | nil => cases h | cons z zs => exact ⟨z, zs, rfl⟩
    have ih := markS_loop hi hh m (pre ++ [a]) zs (a + 1) (by simpa using h) (by omega) (by omega) (by simp; omega)
    have e1 : (pre ++ z :: zs).set pre.length a = (pre ++ [a]) ++ zs := by simp
    have e2 : a + ((m + 1 : Nat) : Int) = a + 1 + m := by omega
    have e3 : pre ++ marks a (m + 1) = (pre ++ [a]) ++ marks (a + 1) m := by simp [marks]
    rw [e2, e3]
    refine Ev.step (fun k => ?_) ih
    simp only [laws_markIntS.l0]
    rw [if_pos (by simp; omega), if_pos (by omega), w64 (x := a + 1) (by omega) (by omega), w64 (x := (pre.length : Int) + 1) (by omega) (by omega), Int.toNat_natCast, e1, show ((pre ++ [a]).length : Int) = (pre.length : Int) + 1 by simp]
theorem markIntS (l : List Int) (a : Int) (ha : 0 ≤ a) (hb : a + l.length ≤ 4611686018427387904) : Ev (fun k => laws_markIntS.f k l a) (a + l.length, marks a l.length) := by
  unfold laws_markIntS.f
  exact markS_loop _ (Int.le_refl _) l.length [] l a rfl ha hb (by simp; omega)
theorem heldS_loop (hi : Int) (hh : hi ≤ 4611686018427387904) : ∀ (m : Nat) (pre : List Int) (a : Int), 0 ≤ a → a + m ≤ hi → (pre.length : Int) + m ≤ hi → Ev (fun k => laws_heldIntS.l0 k (pre ++ marks a m) a (pre.length : Int)) (a + m)
  | 0, pre, a, ha, hb, hc => by
    refine Ev.step (f := fun _ => some (a + 0)) (fun k => ?_) (Ev.now _)
    simp only [laws_heldIntS.l0, marks, List.append_nil]
    rw [if_neg (by omega), Int.add_zero]
  | m + 1, pre, a, ha, hb, hc => by
    have ih := heldS_loop hi hh m (pre ++ [a]) (a + 1) (by omega) (by omega) (by simp; omega)
    have e2 : a + ((m + 1 : Nat) : Int) = a + 1 + m := by omega
    have e3 : pre ++ marks a (m + 1) = (pre ++ [a]) ++ marks (a + 1) m := by simp [marks]
    have e4 : rd (pre ++ marks a (m + 1)) (pre.length : Int) = a := by rw [rd_get (by simp [marks])]; simp [marks]
    rw [e2]
    refine Ev.step (fun k => ?_) ih
    simp only [laws_heldIntS.l0]
    rw [if_pos (by simp [marks]; omega), if_pos (by omega), e4, if_pos rfl, e3, w64 (x := a + 1) (by omega) (by omega), w64 (x := (pre.length : Int) + 1) (by omega) (by omega), show ((pre ++ [a]).length : Int) = (pre.length : Int) + 1 by simp]
theorem heldIntS (n : Nat) (a : Int) (ha : 0 ≤ a) (hb : a + (n : Int) ≤ 4611686018427387904) : Ev (fun k => laws_heldIntS.f k (marks a n) a) (a + n) := by
  unfold laws_heldIntS.f
  exact heldS_loop _ (Int.le_refl _) n [] a ha hb (by simp; omega)
def marksB (a : Int) : Nat → List Bool
  | 0 => []
  | n + 1 => ((Int.tmod a 3) == 0) :: marksB (a + 1) n
theorem marksB_len : ∀ (n : Nat) (a : Int), (marksB a n).length = n
  | 0, _ => rfl
  | n + 1, a => by simp [marksB, marksB_len n (a + 1)]
theorem markB_loop (hi : Int) (hh : hi ≤ 4611686018427387904) : ∀ (m : Nat) (pre rest : List Bool) (a : Int), rest.length = m → 0 ≤ a → a + m ≤ hi → (pre.length : Int) + m ≤ hi → Ev (fun k => laws_markBoolS.l0 k (pre ++ rest) a (pre.length : Int)) (a + m, pre ++ marksB a m)
  | 0, pre, rest, a, h, ha, hb, hc => by
    obtain rfl : rest = [] := List.length_eq_zero_iff.mp h
    refine Ev.step (f := fun _ => some (a + 0, pre ++ marksB a 0)) (fun k => ?_) (Ev.now _)
    simp only [laws_markBoolS.l0, marksB, List.append_nil]
    rw [if_neg (by omega), Int.add_zero]
  | m + 1, pre, rest, a, h, ha, hb, hc => by
    obtain ⟨z, zs, rfl⟩ : ∃ z zs, rest = z :: zs := by cases rest with | nil => cases h | cons z zs => exact ⟨z, zs, rfl⟩
    have ih := markB_loop hi hh m (pre ++ [((Int.tmod a 3) == 0)]) zs (a + 1) (by simpa using h) (by omega) (by omega) (by simp; omega)
    have e1 : (pre ++ z :: zs).set pre.length ((Int.tmod a 3) == 0) = (pre ++ [((Int.tmod a 3) == 0)]) ++ zs := by simp
    have e2 : a + ((m + 1 : Nat) : Int) = a + 1 + m := by omega
    have e3 : pre ++ marksB a (m + 1) = (pre ++ [((Int.tmod a 3) == 0)]) ++ marksB (a + 1) m := by simp [marksB]
    rw [e2, e3]
    refine Ev.step (fun k => ?_) ih
    simp only [laws_markBoolS.l0]
    rw [if_pos (by simp; omega), if_pos (by omega), w64 (x := a + 1) (by omega) (by omega), w64 (x := (pre.length : Int) + 1) (by omega) (by omega), Int.toNat_natCast, e1, show ((pre ++ [((Int.tmod a 3) == 0)]).length : Int) = (pre.length : Int) + 1 by simp]
theorem markBoolS (l : List Bool) (a : Int) (ha : 0 ≤ a) (hb : a + l.length ≤ 4611686018427387904) : Ev (fun k => laws_markBoolS.f k l a) (a + l.length, marksB a l.length) := by
  unfold laws_markBoolS.f
  exact markB_loop _ (Int.le_refl _) l.length [] l a rfl ha hb (by simp; omega)
theorem heldB_loop (hi : Int) (hh : hi ≤ 4611686018427387904) : ∀ (m : Nat) (pre : List Bool) (a : Int), 0 ≤ a → a + m ≤ hi → (pre.length : Int) + m ≤ hi → Ev (fun k => laws_heldBoolS.l0 k (pre ++ marksB a m) a (pre.length : Int)) (a + m)
  | 0, pre, a, ha, hb, hc => by
    refine Ev.step (f := fun _ => some (a + 0)) (fun k => ?_) (Ev.now _)
    simp only [laws_heldBoolS.l0, marksB, List.append_nil]
    rw [if_neg (by omega), Int.add_zero]
  | m + 1, pre, a, ha, hb, hc => by
    have ih := heldB_loop hi hh m (pre ++ [((Int.tmod a 3) == 0)]) (a + 1) (by omega) (by omega) (by simp; omega)
    have e2 : a + ((m + 1 : Nat) : Int) = a + 1 + m := by omega
    have e3 : pre ++ marksB a (m + 1) = (pre ++ [((Int.tmod a 3) == 0)]) ++ marksB (a + 1) m := by simp [marksB]
    have e4 : rdOf false (pre ++ marksB a (m + 1)) (pre.length : Int) = ((Int.tmod a 3) == 0) := by unfold rdOf; simp [marksB]
    rw [e2]
    refine Ev.step (fun k => ?_) ih
    simp only [laws_heldBoolS.l0]
    rw [if_pos (by simp [marksB]; omega), if_pos (by omega), e4, bne_self_eq_false, if_neg (by decide), e3, w64 (x := a + 1) (by omega) (by omega), w64 (x := (pre.length : Int) + 1) (by omega) (by omega), show ((pre ++ [((Int.tmod a 3) == 0)]).length : Int) = (pre.length : Int) + 1 by simp]
theorem heldBoolS (n : Nat) (a : Int) (ha : 0 ≤ a) (hb : a + (n : Int) ≤ 4611686018427387904) : Ev (fun k => laws_heldBoolS.f k (marksB a n) a) (a + n) := by
  unfold laws_heldBoolS.f
  exact heldB_loop _ (Int.le_refl _) n [] a ha hb (by simp; omega)
theorem markSys (n : Int) (p t : List Int) (b : List Bool) (a : Int) (h1 : p.length ≤ 1048576) (h2 : t.length ≤ 1048576) (h3 : b.length ≤ 1048576) (ha : 0 ≤ a) (hb : a ≤ 1000000000) :
    Ev (fun k => laws_markSystem.f k n p t b a) (a + p.length + t.length + b.length, marks a p.length, marks (a + p.length) t.length, marksB (a + p.length + t.length) b.length) := by
  unfold laws_markSystem.f
  refine Ev.bind (markIntS p a ha (by omega)) ?_
  refine Ev.bind (markIntS t (a + p.length) (by omega) (by omega)) ?_
  refine Ev.bind (markBoolS b (a + p.length + t.length) (by omega) (by omega)) ?_
  exact Ev.now _
theorem heldSys (n : Int) (x y z : Nat) (a : Int) (h1 : x ≤ 1048576) (h2 : y ≤ 1048576) (h3 : z ≤ 1048576) (ha : 0 ≤ a) (hb : a ≤ 1000000000) :
    Ev (fun k => laws_heldSystem.f k n (marks a x) (marks (a + x) y) (marksB (a + x + y) z) a) (a + x + y + z) := by
  unfold laws_heldSystem.f
  refine Ev.bind (heldIntS x a ha (by omega)) ?_
  simp only [if_neg (show ¬ a + (x : Int) < 0 by omega)]
  refine Ev.bind (heldIntS y (a + x) (by omega) (by omega)) ?_
  simp only [if_neg (show ¬ a + (x : Int) + (y : Int) < 0 by omega)]
  refine Ev.bind (heldBoolS z (a + x + y) (by omega) (by omega)) ?_
  simp only [if_neg (show ¬ a + (x : Int) + (y : Int) + (z : Int) < 0 by omega)]
  exact Ev.now _
/-- Two counts of rounds. -/
def Ev2 {α : Type} (g : Nat → Nat → Option α) (r : α) : Prop := ∃ K, ∀ k, K ≤ k → ∀ j, K ≤ j → g k j = some r
theorem ev2_now {α : Type} (r : α) : Ev2 (fun _ _ => some r) r := ⟨0, fun _ _ _ _ => rfl⟩
theorem ev2_step {α : Type} {g h : Nat → Nat → Option α} {r : α} (H : ∀ k j, 64 ≤ j → g (k + 1) j = h k j) (e : Ev2 h r) : Ev2 g r := by
  obtain ⟨K, e⟩ := e
  refine ⟨K + 65, fun k hk j hj => ?_⟩
  obtain ⟨k, rfl⟩ : ∃ q, k = q + 1 := ⟨k - 1, by omega⟩
  rw [H k j (by omega)]
  exact e k (by omega) j (by omega)
theorem ev2_diag {α : Type} {g : Nat → Nat → Option α} {r : α} (h : Ev2 g r) : Ev (fun k => g k k) r := by
  obtain ⟨K, h⟩ := h
  exact ⟨K, fun k hk => h k hk k hk⟩
section
variable {a b : Nat} {L' : List Pr} {p t p' t' : List Int} {u u' : List Bool}
/-- One place of the tables. -/
structure Place (a b : Nat) (L' : List Pr) (p t : List Int) (u : List Bool) (p' t' : List Int) (u' : List Bool) (g h : Nat) (v m : Int) (c : Bool) : Prop where
  f1 : spec_l1First.f b (g : Int) = some (rdP L' g).f0
  f2 : spec_l1Second.f b (g : Int) = some (rdP L' g).f1
  f3 : spec_l1First.f b (h : Int) = some (rdP L' h).f0
  f4 : spec_l1Second.f b (h : Int) = some (rdP L' h).f1
  add : ∃ x y, spec_l1Add.f a p t u (rdP L' g).f0 (rdP L' h).f0 = some x ∧ spec_l1Add.f b p' t' u' (rdP L' g).f1 (rdP L' h).f1 = some y ∧ spec_l1Pair.f b x y = some v
  mul : ∃ x y, spec_l1Mul.f a p t u (rdP L' g).f0 (rdP L' h).f0 = some x ∧ spec_l1Mul.f b p' t' u' (rdP L' g).f1 (rdP L' h).f1 = some y ∧ spec_l1Pair.f b x y = some m
  le : ∃ x y, spec_l1Le.f a p t u (rdP L' g).f0 (rdP L' h).f0 = some x ∧ spec_l1Le.f b p' t' u' (rdP L' g).f1 (rdP L' h).f1 = some y ∧ c = (x && y)
  i2 : ∀ j, 64 ≤ j → impl_ProductSystem_2.f (g : Int) (h : Int) (fun z0_ z1_ => impl_ProductSystem_1.f j z0_ z1_ L') a p t u L' b p' t' u' = some v
  i3 : ∀ j, 64 ≤ j → impl_ProductSystem_3.f (g : Int) (h : Int) (fun z0_ z1_ => impl_ProductSystem_1.f j z0_ z1_ L') a p t u L' b p' t' u' = some m
  i4 : impl_ProductSystem_4.f (g : Int) (h : Int) a p t u L' b p' t' u' = some c
theorem index_up (x y v : Int) (h : slices_Index_2_int_2_int.f 64 L' x y = some v) (j : Nat) (hj : 64 ≤ j) : impl_ProductSystem_1.f j x y L' = some v := by
  have : ∀ d, slices_Index_2_int_2_int.f (64 + d) L' x y = some v := by
    intro d
    induction d with
    | zero => exact h
    | succ d ih => exact index_more L' x y (64 + d) v ih
  unfold impl_ProductSystem_1.f
  obtain ⟨d, rfl⟩ : ∃ d, j = 64 + d := ⟨j - 64, by omega⟩
  rw [this d]; rfl
theorem place (T : Two a b L') (o : OK a p t u) (o' : OK b p' t' u') (g h : Nat) (hg : g < a * b) (hh : h < a * b) : ∃ v m c, Place a b L' p t u p' t' u' g h v m c := by
  have gm : rdP L' g ∈ L' := rdP_mem L' g (by omega) (by rw [T.len]; omega)
  have hm : rdP L' h ∈ L' := rdP_mem L' h (by omega) (by rw [T.len]; omega)
  obtain ⟨g1, g2, g3, g4⟩ := T.inr _ gm
  obtain ⟨h1, h2, h3, h4⟩ := T.inr _ hm
  have rg : Rg a (rdP L' g).f0 := ⟨g1, g2⟩
  have rh : Rg a (rdP L' h).f0 := ⟨h1, h2⟩
  have sg : Rg b (rdP L' g).f1 := ⟨g3, g4⟩
  have sh : Rg b (rdP L' h).f1 := ⟨h3, h4⟩
  have A1 := add_eq o rg rh
  have A2 := add_eq o' sg sh
  have M1 := mul_eq o rg rh
  have M2 := mul_eq o' sg sh
  have L1 := le_eq o rg rh
  have L2 := le_eq o' sg sh
  obtain ⟨x, hx⟩ := Int.eq_ofNat_of_zero_le (A_in o rg rh).1
  obtain ⟨y, hy⟩ := Int.eq_ofNat_of_zero_le (A_in o' sg sh).1
  have bx := (A_in o rg rh).2
  have by' := (A_in o' sg sh).2
  obtain ⟨v, hv, _⟩ := T.num x y (by omega) (by omega)
  have iv := (T.idx x y (by omega) (by omega)).trans hv
  obtain ⟨x2, hx2⟩ := Int.eq_ofNat_of_zero_le (M_in o rg rh).1
  obtain ⟨y2, hy2⟩ := Int.eq_ofNat_of_zero_le (M_in o' sg sh).1
  have bx2 := (M_in o rg rh).2
  have by2 := (M_in o' sg sh).2
  obtain ⟨m, hm', _⟩ := T.num x2 y2 (by omega) (by omega)
  have im := (T.idx x2 y2 (by omega) (by omega)).trans hm'
  have lg : (g : Int) < (L'.length : Int) := by rw [T.len]; omega
  have lh : (h : Int) < (L'.length : Int) := by rw [T.len]; omega
  have g0 : 0 ≤ (g : Int) := by omega
  have h0 : 0 ≤ (h : Int) := by omega
  rw [hx] at A1; rw [hy] at A2; rw [hx2] at M1; rw [hy2] at M2
  refine ⟨v, m, _, ⟨T.first g hg, T.second g hg, T.first h hh, T.second h hh, ⟨_, _, A1, A2, hv⟩, ⟨_, _, M1, M2, hm'⟩, ⟨_, _, L1, L2, rfl⟩, fun j hj => ?_, fun j hj => ?_, ?_⟩⟩
  · unfold impl_ProductSystem_2.f
    rw [if_pos g0, if_pos lg, if_pos h0, if_pos lh, plus_is, A1, Option.bind_some, A2, Option.bind_some]
    show (impl_ProductSystem_1.f j (x : Int) (y : Int) L').bind _ = _
    rw [index_up _ _ v iv j hj]; rfl
  · unfold impl_ProductSystem_3.f
    rw [if_pos g0, if_pos lg, if_pos h0, if_pos lh, times_is, M1, Option.bind_some, M2, Option.bind_some]
    show (impl_ProductSystem_1.f j (x2 : Int) (y2 : Int) L').bind _ = _
    rw [index_up _ _ m im j hj]; rfl
  · unfold impl_ProductSystem_4.f
    rw [if_pos g0, if_pos lg, if_pos h0, if_pos lh, below_is, L1, Option.bind_some, L2]
    cases L (↑a) u (rdP L' ↑g).f0 (rdP L' ↑h).f0 <;> simp
theorem prodLoops (T : Two a b L') (o : OK a p t u) (o' : OK b p' t' u') (h16 : a * b ≤ 16) : ∀ (q g : Nat), g + q = a * b → ∀ (l1 l2 : List Int) (l3 : List Bool), l1.length + q * 16 ≤ 100000 → l2.length + q * 16 ≤ 100000 → l3.length + q * 16 ≤ 100000 →
    ∃ (r2 r3 : List Int) (r4 : List Bool), (r2.length ≤ 100000 ∧ r3.length ≤ 100000 ∧ r4.length ≤ 100000) ∧ Ev (fun k => spec_ProductSystem.l0 k b (g : Int) a p t u b p' t' u' ((a * b : Nat) : Int) l1 l2 l3) (((a * b : Nat) : Int), r2, r3, r4, true) ∧
      Ev2 (fun k j => impl_tabled.l0 k ((a * b : Nat) : Int) (fun z0_ z1_ => impl_ProductSystem_2.f z0_ z1_ (fun z0_ z1_ => impl_ProductSystem_1.f j z0_ z1_ L') a p t u L' b p' t' u') (fun z0_ z1_ => impl_ProductSystem_3.f z0_ z1_ (fun z0_ z1_ => impl_ProductSystem_1.f j z0_ z1_ L') a p t u L' b p' t' u') (fun z0_ z1_ => impl_ProductSystem_4.f z0_ z1_ a p t u L' b p' t' u') (g : Int) ((a * b : Nat) : Int) l1 l2 l3) (((a * b : Nat) : Int), r2, r3, r4) := by
  intro q
  induction q with
  | zero =>
    intro g hg l1 l2 l3 b1 b2 b3
    refine ⟨l1, l2, l3, ⟨by omega, by omega, by omega⟩, Ev.step (f := fun _ => some (((a * b : Nat) : Int), l1, l2, l3, true)) (fun k => ?_) (Ev.now _), ev2_step (h := fun _ _ => some (((a * b : Nat) : Int), l1, l2, l3)) (fun k j hj => ?_) (ev2_now _)⟩
    · simp only [spec_ProductSystem.l0]; rw [if_neg (by omega)]
    · simp only [impl_tabled.l0]; rw [if_neg (by omega)]
  | succ q ih =>
    intro g hg
    have inner : ∀ (s h : Nat), h + s = a * b → ∀ (l1 l2 : List Int) (l3 : List Bool), l1.length + (q * 16 + s) ≤ 100000 → l2.length + (q * 16 + s) ≤ 100000 → l3.length + (q * 16 + s) ≤ 100000 →
        ∃ (r2 r3 : List Int) (r4 : List Bool), (r2.length ≤ 100000 ∧ r3.length ≤ 100000 ∧ r4.length ≤ 100000) ∧ Ev (fun k => spec_ProductSystem.l1 k b (g : Int) (h : Int) a p t u b p' t' u' ((a * b : Nat) : Int) l1 l2 l3) (((a * b : Nat) : Int), r2, r3, r4, true) ∧
          Ev2 (fun k j => impl_tabled.l1 k ((a * b : Nat) : Int) (fun z0_ z1_ => impl_ProductSystem_2.f z0_ z1_ (fun z0_ z1_ => impl_ProductSystem_1.f j z0_ z1_ L') a p t u L' b p' t' u') (fun z0_ z1_ => impl_ProductSystem_3.f z0_ z1_ (fun z0_ z1_ => impl_ProductSystem_1.f j z0_ z1_ L') a p t u L' b p' t' u') (fun z0_ z1_ => impl_ProductSystem_4.f z0_ z1_ a p t u L' b p' t' u') (g : Int) (h : Int) ((a * b : Nat) : Int) l1 l2 l3) (((a * b : Nat) : Int), r2, r3, r4) := by
      intro s
      induction s with
      | zero =>
        intro h hh l1 l2 l3 b1 b2 b3
        obtain ⟨r2, r3, r4, rb, r5, r6⟩ := ih (g + 1) (by omega) l1 l2 l3 (by omega) (by omega) (by omega)
        have up : wrap64 ((g : Int) + 1) = ((g + 1 : Nat) : Int) := by rw [w64 (by omega) (by omega)]; omega
        refine ⟨r2, r3, r4, rb, Ev.step (fun k => ?_) r5, ev2_step (fun k j hj => ?_) r6⟩
        · simp only [spec_ProductSystem.l1]; rw [if_neg (by omega), up]
        · simp only [impl_tabled.l1]; rw [if_neg (by omega), up]
      | succ s ihs =>
        intro h hh l1 l2 l3 b1 b2 b3
        obtain ⟨v, m, c, P⟩ := place T o o' g h (by omega) (by omega)
        obtain ⟨r2, r3, r4, rb, r5, r6⟩ := ihs (h + 1) (by omega) (l1 ++ [v]) (l2 ++ [m]) (l3 ++ [c]) (by simp; omega) (by simp; omega) (by simp; omega)
        have up : wrap64 ((h : Int) + 1) = ((h + 1 : Nat) : Int) := by rw [w64 (by omega) (by omega)]; omega
        have c1 : l1.length < 17592186044416 := by omega
        have c2 : l2.length < 17592186044416 := by omega
        have c3 : l3.length < 140737488355328 := by omega
        refine ⟨r2, r3, r4, rb, Ev.step (fun k => ?_) r5, ev2_step (fun k j hj => ?_) r6⟩
        · obtain ⟨x, y, x1, y1, z1⟩ := P.add
          obtain ⟨x2, y2, x3, y3, z2⟩ := P.mul
          obtain ⟨x4, y4, x5, y5, z3⟩ := P.le
          simp only [spec_ProductSystem.l1]
          rw [if_pos (by omega)]
          simp only [P.f1, P.f2, P.f3, P.f4, x1, y1, z1, x3, y3, z2, x5, y5, Option.bind_some, if_pos c1, if_pos c2, if_pos c3, up]
          subst z3
          cases x4 <;> simp
        · simp only [impl_tabled.l1]
          rw [if_pos (by omega), P.i2 j hj, P.i3 j hj, P.i4]
          simp only [Option.bind_some, if_pos c1, if_pos c2, if_pos c3, up]
    intro l1 l2 l3 b1 b2 b3
    obtain ⟨r2, r3, r4, rb, r5, r6⟩ := inner (a * b) 0 (by omega) l1 l2 l3 (by omega) (by omega) (by omega)
    refine ⟨r2, r3, r4, rb, Ev.step (fun k => ?_) r5, ev2_step (fun k j hj => ?_) r6⟩
    · simp only [spec_ProductSystem.l0]; rw [if_pos (by omega)]; rfl
    · simp only [impl_tabled.l0]; rw [if_pos (by omega)]; rfl
end
theorem prodBoth (n : Int) (p t : List Int) (b : List Bool) (n' : Int) (p' t' : List Int) (b' : List Bool) : ∃ (r1 : Int) (r2 r3 : List Int) (r4 : List Bool) (r5 : Bool), (r2.length ≤ 1048576 ∧ r3.length ≤ 1048576 ∧ r4.length ≤ 1048576) ∧ Ev (fun k => spec_ProductSystem.f k n p t b n' p' t' b') (r1, r2, r3, r4, r5) ∧ Ev (fun k => impl_ProductSystem.f k n p t b n' p' t' b') (r1, r2, r3, r4, r5) := by
  by_cases c : prodV n p t b n' p' t' b' = true
  · obtain ⟨o, o', w, x, y, rfl, rfl, h16, e, L', T⟩ := prod_ok c
    obtain ⟨r2, r3, r4, rb, r5, r6⟩ := prodLoops T o o' h16 (x * y) 0 (by omega) [] [] [] (by simp; omega) (by simp; omega) (by simp; omega)
    refine ⟨((x * y : Nat) : Int), r2, r3, r4, true, ⟨by omega, by omega, by omega⟩, ?_, ?_⟩
    · unfold spec_ProductSystem.f
      refine Ev.bind specProd ?_
      have w' : wrap64 ((x * y : Nat) : Int) = ((x * y : Nat) : Int) := by rw [← e]; exact w
      simp only [c, if_true, e, w']
      exact r5
    · unfold impl_ProductSystem.f
      refine Ev.bind implProd ?_
      simp only [c, if_true]
      refine Ev.bind (T.ev p t p' t' b b') ?_
      rw [T.len]
      have r7 := ev2_diag r6
      exact Ev.bind r7 (Ev.now _)
  · rw [Bool.not_eq_true] at c
    refine ⟨0, [], [], [], false, ⟨by simp, by simp, by simp⟩, ?_, ?_⟩
    · unfold spec_ProductSystem.f
      refine Ev.bind specProd ?_
      simp only [c, Bool.false_eq_true, if_false]
      exact Ev.now _
    · unfold impl_ProductSystem.f
      refine Ev.bind implProd ?_
      simp only [c, Bool.false_eq_true, if_false]
      exact Ev.now _
end Go.Proofs.Ytipfkicndjddgaa.Pure
end

section
namespace Go.Proofs.Ytipfkicndjddgaa.P
open Go.RowKit Go.Proofs.YtipfkicndjddgaaW.PrintWords Go.Proofs.YtipfkicndjddgaaW.PrintLast Go.Proofs.YtipfkicndjddgaaW.PrintMore
set_option linter.unusedVariables false
set_option linter.unusedSimpArgs false
/-- Something in memory, within blocks lo to hi. -/
structure Ob where
  lo : Nat
  hi : Nat
  P : World → Prop
  le : lo ≤ hi
  mv : ∀ W W' : World, P W → (∀ k, lo ≤ k → k < hi → W'.heap[k]? = W.heap[k]?) → P W'
/-- The newest first: each lies above those that were made ahead of it; what stood at w stands. -/
def All (w : World) : List Ob → World → Prop
  | [], W => Below w.heap.size w W
  | o :: l, W => (o.P W ∧ o.hi ≤ W.heap.size ∧ w.heap.size ≤ o.lo ∧ ∀ o' ∈ l, o'.hi ≤ o.lo ∨ o.hi ≤ o'.lo) ∧ All w l W
theorem All.base {w W : World} : ∀ {l : List Ob}, All w l W → Below w.heap.size w W
  | [], h => h
  | _ :: _, h => h.2.base
theorem All.top {w W : World} : ∀ {l : List Ob}, All w l W → ∀ o ∈ l, o.hi ≤ W.heap.size
  | [], _, _, h => by cases h
  | o :: l, h, o', ho => by
    rcases List.mem_cons.mp ho with rfl | ho
    · exact h.1.2.1
    · exact h.2.top o' ho
theorem All.below {w W W' : World} : ∀ {l : List Ob}, All w l W → Below W.heap.size W W' → All w l W'
  | [], h, hb => below_step h hb
  | o :: l, h, hb => ⟨⟨o.mv _ _ h.1.1 fun k _ hk => hb.block k (Nat.lt_of_lt_of_le hk h.1.2.1), Nat.le_trans h.1.2.1 hb.size, h.1.2.2⟩, h.2.below hb⟩
theorem All.drewN {w W : World} {l : List Ob} (h : All w l W) (n : Nat) : All w l (W.drewN n) := h.below (pw_below_drewN (Below.refl _ _) n)
theorem All.drew {w W : World} {l : List Ob} (h : All w l W) : All w l W.drew := h.below (below_drew1 (Below.refl _ _))
theorem All.push {w W0 W : World} {l : List Ob} (h : All w l W0) (hb : Below W0.heap.size W0 W) (o : Ob) (hP : o.P W) (hlo : W0.heap.size ≤ o.lo) (hhi : o.hi ≤ W.heap.size) : All w (o :: l) W :=
  ⟨⟨hP, hhi, Nat.le_trans h.base.size hlo, fun o' ho => Or.inl (Nat.le_trans (h.top o' ho) hlo)⟩, h.below hb⟩
/-- One of them is written: the others stand. -/
theorem All.mark {w W W' : World} {S : Nat → Prop} {o o' : Ob} {l2 : List Ob} (hk : Kept W W' S) (hb : Below w.heap.size w W → Below w.heap.size w W') (hS : ∀ k, S k → o.lo ≤ k ∧ k < o.hi) (e1 : o'.lo = o.lo) (e2 : o'.hi = o.hi) (hP : o'.P W') :
    ∀ {l1 : List Ob}, All w (l1 ++ o :: l2) W → All w (l1 ++ o' :: l2) W'
  | [], h => by
    refine ⟨⟨hP, by rw [e2]; exact Nat.le_trans h.1.2.1 hk.1, by rw [e1]; exact h.1.2.2.1, fun x hx => by rw [e1, e2]; exact h.1.2.2.2 x hx⟩, ?_⟩
    have older : ∀ x ∈ l2, x.hi ≤ o.lo ∨ o.hi ≤ x.lo := h.1.2.2.2
    have h2 := h.2
    clear h
    have go : ∀ l : List Ob, (∀ x ∈ l, x.hi ≤ o.lo ∨ o.hi ≤ x.lo) → All w l W → All w l W' := by
      intro l
      induction l with
      | nil => intro _ h; exact hb h
      | cons x l ih =>
        intro hl h
        refine ⟨⟨x.mv _ _ h.1.1 fun k hk1 hk2 => hk.2 k (Nat.lt_of_lt_of_le hk2 h.1.2.1) fun hs => ?_, Nat.le_trans h.1.2.1 hk.1, h.1.2.2⟩, ih (fun y hy => hl y (List.mem_cons_of_mem _ hy)) h.2⟩
        have := hl x List.mem_cons_self
        have := hS k hs
        omega
    exact go l2 older h2
  | x :: l1, h => by
    have hx : o.hi ≤ x.lo ∨ x.hi ≤ o.lo := h.1.2.2.2 o (List.mem_append_right _ List.mem_cons_self)
    refine ⟨⟨x.mv _ _ h.1.1 fun k hk1 hk2 => hk.2 k (Nat.lt_of_lt_of_le hk2 h.1.2.1) fun hs => ?_, Nat.le_trans h.1.2.1 hk.1, h.1.2.2.1, fun y hy => ?_⟩, All.mark hk hb hS e1 e2 hP h.2⟩
    · have := hS k hs
      omega
    · rcases List.mem_append.mp hy with hy | hy
      · exact h.1.2.2.2 y (List.mem_append_left _ hy)
      · rcases List.mem_cons.mp hy with rfl | hy
        · rw [e1, e2]; exact hx
        · exact h.1.2.2.2 y (List.mem_append_right _ (List.mem_cons_of_mem _ hy))
/-- A variable in memory. -/
def Ob.box (g : Nat) (cs : Array Value) (t : TypeId) : Ob := ⟨g, g + 1, fun W => W.heap[g]? = some (.cells cs t (0, 0)), Nat.le_succ g, fun W W' h hm => (hm g (Nat.le_refl g) (Nat.lt_succ_self g)).trans h⟩
theorem All.box {w W W1 : World} {l : List Ob} (h : All w l W) {g : Nat} {cs : Array Value} {t : TypeId} (hg : g = W.heap.size) (hbox : W1.heap[g]? = some (.cells cs t (0, 0))) (hb : Below W.heap.size W W1) : All w (Ob.box g cs t :: l) W1 :=
  h.push hb (Ob.box g cs t) hbox (by rw [hg]; exact Nat.le_refl _) (blk_lt hbox)
theorem All.set {w W : World} {l1 l2 : List Ob} {g : Nat} {cs : Array Value} {t : TypeId} (h : All w (l1 ++ Ob.box g cs t :: l2) W) (hw : w.heap.size ≤ g) (hg : W.heap[g]? = some (.cells cs t (0, 0))) (j : Nat) (u : Value) (cs' : Array Value) (e : cs.setIfInBounds j u = cs') : All w (l1 ++ Ob.box g cs' t :: l2) (W.setCell ⟨g, j, none⟩ u) :=
  All.mark (S := fun k => k = g) (o := Ob.box g cs t) (o' := Ob.box g cs' t) ⟨by simp [World.setCell], fun k hk hn => Below.heap_setCell W _ u k hn⟩ (fun b => below_set b hw) (fun k hk => by subst hk; exact ⟨Nat.le_refl _, Nat.lt_succ_self _⟩) rfl rfl (blk_put hg j u e) h
theorem All.at_ {w W : World} {o : Ob} {l2 : List Ob} : ∀ {l1 : List Ob}, All w (l1 ++ o :: l2) W → o.P W ∧ o.hi ≤ W.heap.size ∧ w.heap.size ≤ o.lo
  | [], h => ⟨h.1.1, h.1.2.1, h.1.2.2.1⟩
  | _ :: _, h => All.at_ h.2
theorem All.set4 {w W : World} {l1 l2 : List Ob} {g : Nat} {v0 v1 v2 v3 : Value} {t : TypeId} (h : All w (l1 ++ Ob.box g #[v0, v1, v2, v3] t :: l2) W) (u0 u1 u2 u3 : Value) :
    All w (l1 ++ Ob.box g #[u0, u1, u2, u3] t :: l2) ((((W.setCell ⟨g, 0, none⟩ u0).setCell ⟨g, 1, none⟩ u1).setCell ⟨g, 2, none⟩ u2).setCell ⟨g, 3, none⟩ u3) := by
  have hw : w.heap.size ≤ g := h.at_.2.2
  have g0 : W.heap[g]? = some (.cells #[v0, v1, v2, v3] t (0, 0)) := h.at_.1
  have g1 := blk_put (cs' := #[u0, v1, v2, v3]) g0 0 u0 rfl
  have g2 := blk_put (cs' := #[u0, u1, v2, v3]) g1 1 u1 rfl
  have g3 := blk_put (cs' := #[u0, u1, u2, v3]) g2 2 u2 rfl
  exact All.set (All.set (All.set (All.set h hw g0 0 u0 _ rfl) hw g1 1 u1 _ rfl) hw g2 2 u2 _ rfl) hw g3 3 u3 _ rfl
theorem All.swap {w W : World} {a b : Ob} {l : List Ob} (h : All w (a :: b :: l) W) : All w (b :: a :: l) W :=
  ⟨⟨h.2.1.1, h.2.1.2.1, h.2.1.2.2.1, fun o ho => by
    rcases List.mem_cons.mp ho with rfl | ho
    · exact (h.1.2.2.2 b List.mem_cons_self).symm
    · exact h.2.1.2.2.2 o ho⟩, ⟨h.1.1, h.1.2.1, h.1.2.2.1, fun o ho => h.1.2.2.2 o (List.mem_cons_of_mem _ ho)⟩, h.2.2⟩
theorem All.drop2 {w W : World} {a b : Ob} {l : List Ob} (h : All w (a :: b :: l) W) : All w (a :: l) W := ⟨⟨h.1.1, h.1.2.1, h.1.2.2.1, fun o ho => h.1.2.2.2 o (List.mem_cons_of_mem _ ho)⟩, h.2.2⟩
theorem All.drop3 {w W : World} {a b c : Ob} {l : List Ob} (h : All w (a :: b :: c :: l) W) : All w (a :: b :: l) W := ⟨⟨h.1.1, h.1.2.1, h.1.2.2.1, fun o ho => h.1.2.2.2 o (by rcases List.mem_cons.mp ho with rfl | ho; exact List.mem_cons_self; exact List.mem_cons_of_mem _ (List.mem_cons_of_mem _ ho))⟩, h.2.drop2⟩
theorem gen_any {P : Program} {md : Region.Mode} {ops : Array Oper} {Q : Exit → Act → World → Prop} {S : World → Prop} {ds : List Nat} {fuel : Nat} {l : Array Bool} {a : Act} {W : World} (R : World → Prop) (hR : R W) (h : ∀ w', R w' → wpAnyLast P md ops Q S ds fuel l a w') : wpAnyLast P md ops Q S ds fuel l a W := h W hR
theorem gen_wp {P : Program} {c : Code} {Q : Exit → Act → World → Prop} {a : Act} {W : World} (R : World → Prop) (hR : R W) (h : ∀ w', R w' → Code.wp P c Q a w') : Code.wp P c Q a W := h W hR
/-- Where a system's rows lie, and their values. -/
structure Sx where
  lo : Nat
  hi : Nat
  n1 : Nat
  n2 : Nat
  n3 : Nat
  c1 : Nat
  c2 : Nat
  c3 : Nat
  A1 : Option Addr
  A2 : Option Addr
  A3 : Option Addr
  le : lo ≤ hi
def sysP (B : Nat) (x : Sx) (l1 l2 : List Int) (l3 : List Bool) (W : World) : Prop :=
  (Kd.int .i64).R 3 W B (fun k => (x.lo ≤ k ∧ k < x.hi) ∧ some k ≠ (Value.slice x.A2 x.n2 x.c2).ownBlock) (.slice x.A1 x.n1 x.c1) l1 ∧ (Kd.int .i64).R 3 W B (fun k => (x.lo ≤ k ∧ k < x.hi) ∧ some k ≠ (Value.slice x.A1 x.n1 x.c1).ownBlock) (.slice x.A2 x.n2 x.c2) l2 ∧ Kd.bool.R 4 W B (fun k => x.lo ≤ k ∧ k < x.hi) (.slice x.A3 x.n3 x.c3) l3
theorem sysP_move {B : Nat} {x : Sx} {l1 l2 : List Int} {l3 : List Bool} {W W' : World} (h : sysP B x l1 l2 l3 W) (hm : ∀ k, x.lo ≤ k → k < x.hi → W'.heap[k]? = W.heap[k]?) : sysP B x l1 l2 l3 W' :=
  ⟨Kd.R_move h.1 (fun k hk => hm k hk.1.1 hk.1.2), Kd.R_move h.2.1 (fun k hk => hm k hk.1.1 hk.1.2), Kd.R_move h.2.2 (fun k hk => hm k hk.1 hk.2)⟩
def Ob.sys (B : Nat) (x : Sx) (l1 l2 : List Int) (l3 : List Bool) : Ob := ⟨x.lo, x.hi, sysP B x l1 l2 l3, x.le, fun W W' h hm => sysP_move h hm⟩
theorem sys_new {W W' : World} {B : Nat} (hB : B ≤ W.heap.size) (hs : W.heap.size ≤ W'.heap.size) {v1 v2 v3 : Value} {l1 l2 : List Int} {l3 : List Bool} (h1 : Kd.R (Kd.int .i64) 3 W' W.heap.size (fun k_ => some k_ ≠ (v2 : Value).ownBlock) v1 l1) (h2 : Kd.R (Kd.int .i64) 3 W' W.heap.size (fun k_ => some k_ ≠ (v1 : Value).ownBlock) v2 l2) (h3 : Kd.R Kd.bool 4 W' W.heap.size (fun _ => True) v3 l3) :
    ∃ x : Sx, v1 = .slice x.A1 x.n1 x.c1 ∧ v2 = .slice x.A2 x.n2 x.c2 ∧ v3 = .slice x.A3 x.n3 x.c3 ∧ sysP B x l1 l2 l3 W' ∧ W.heap.size ≤ x.lo ∧ x.hi ≤ W'.heap.size := by
  obtain ⟨A1, c1, rfl⟩ := Kd.R_slice h1
  obtain ⟨A2, c2, rfl⟩ := Kd.R_slice h2
  obtain ⟨A3, c3, rfl⟩ := Kd.R_slice h3
  exact ⟨⟨W.heap.size, W'.heap.size, l1.length, l2.length, l3.length, c1, c2, c3, A1, A2, A3, hs⟩, rfl, rfl, rfl, ⟨Kd.R_lower (Kd.R_mono (Kd.R_bound h1) fun k hk => ⟨⟨hk.2.1, hk.2.2.1⟩, hk.1⟩) hB, Kd.R_lower (Kd.R_mono (Kd.R_bound h2) fun k hk => ⟨⟨hk.2.1, hk.2.2.1⟩, hk.1⟩) hB, Kd.R_lower (Kd.R_mono (Kd.R_bound h3) fun k hk => ⟨hk.2.1, hk.2.2.1⟩) hB⟩, Nat.le_refl _, Nat.le_refl _⟩
theorem toS (k : Nat) {a0 : Int} {A1 A2 A3 : Option Addr} {c1 c2 c3 : Nat} {l1 l2 : List Int} {l3 : List Bool} {r1 : Int} {r2 r3 : List Int} {r4 : List Bool} {w : World} (h1 : Kd.C (Kd.int .i64) w A1 l1.length l1) (g1 : l1.length ≤ c1) (h2 : Kd.C (Kd.int .i64) w A2 l2.length l2) (g2 : l2.length ≤ c2) (h3 : Kd.C Kd.bool w A3 l3.length l3) (g3 : l3.length ≤ c3) (W : World) (hb : Below w.heap.size w W) (h : laws_toSystem.f k a0 l1 l2 l3 = some (r1, r2, r3, r4)) :
    Calls Try.prog 10 #[.agg #[.int .i64 a0, .slice A1 l1.length c1, .slice A2 l2.length c2, .slice A3 l3.length c3]] W fun e w' => ∃ x : Sx, e = .returned (.agg #[.int .i64 r1, .slice x.A1 x.n1 x.c1, .slice x.A2 x.n2 x.c2, .slice x.A3 x.n3 x.c3]) ∧ (sysP w.heap.size x r2 r3 r4 w' ∧ W.heap.size ≤ x.lo ∧ x.hi ≤ w'.heap.size) ∧ Below W.heap.size W w' := by
  refine (laws_toSystem.calls k a0 _ _ l1 _ _ l2 _ _ l3 r1 r2 r3 r4 W (Kd.C_below h1 hb) g1 (Kd.C_below h2 hb) g2 (Kd.C_below h3 hb) g3 h).mono ?_
  rintro e w' ⟨v1, v2, v3, rfl, o1, o2, o3, hb'⟩
  obtain ⟨x, rfl, rfl, rfl, hp⟩ := sys_new hb.size hb'.size o1 o2 o3
  exact ⟨x, rfl, hp, hb'⟩
theorem sys_reads {B : Nat} {x : Sx} {l1 l2 : List Int} {l3 : List Bool} {W : World} (h : sysP B x l1 l2 l3 W) : (x.n1 = l1.length ∧ x.n2 = l2.length ∧ x.n3 = l3.length) ∧ (Kd.C (Kd.int .i64) W x.A1 l1.length l1 ∧ l1.length ≤ x.c1) ∧ (Kd.C (Kd.int .i64) W x.A2 l2.length l2 ∧ l2.length ≤ x.c2) ∧ (Kd.C Kd.bool W x.A3 l3.length l3 ∧ l3.length ≤ x.c3) := by
  obtain ⟨a1, a2, a3⟩ := Kd.R_reads' h.1
  obtain ⟨b1, b2, b3⟩ := Kd.R_reads' h.2.1
  obtain ⟨d1, d2, d3⟩ := Kd.R_reads' h.2.2
  exact ⟨⟨a1, b1, d1⟩, ⟨a3, by omega⟩, ⟨b3, by omega⟩, ⟨d3, by omega⟩⟩
theorem eqS (k : Nat) {B : Nat} {x y : Sx} {a b : Int} {l1 l2 m1 m2 : List Int} {l3 m3 : List Bool} {r : Bool} {W : World} (hx : sysP B x l1 l2 l3 W) (hy : sysP B y m1 m2 m3 W) (h : laws_eqSystem.f k a l1 l2 l3 b m1 m2 m3 = some r) :
    Calls Try.prog 12 #[.agg #[.int .i64 a, .slice x.A1 x.n1 x.c1, .slice x.A2 x.n2 x.c2, .slice x.A3 x.n3 x.c3], .agg #[.int .i64 b, .slice y.A1 y.n1 y.c1, .slice y.A2 y.n2 y.c2, .slice y.A3 y.n3 y.c3]] W fun e w' => e = .returned (.bool r) ∧ Below W.heap.size W w' := by
  obtain ⟨⟨e1, e2, e3⟩, ⟨p1, q1⟩, ⟨p2, q2⟩, ⟨p3, q3⟩⟩ := sys_reads hx
  obtain ⟨⟨f1, f2, f3⟩, ⟨s1, t1⟩, ⟨s2, t2⟩, ⟨s3, t3⟩⟩ := sys_reads hy
  rw [e1, e2, e3, f1, f2, f3]
  exact laws_eqSystem.calls k a _ _ l1 _ _ l2 _ _ l3 b _ _ m1 _ _ m2 _ _ m3 r W p1 q1 p2 q2 p3 q3 s1 t1 s2 t2 s3 t3 h
theorem heldS (k : Nat) {B : Nat} {x : Sx} {a a1 : Int} {l1 l2 : List Int} {l3 : List Bool} {r : Int} {W : World} (hx : sysP B x l1 l2 l3 W) (h : laws_heldSystem.f k a l1 l2 l3 a1 = some r) :
    Calls Try.prog 14 #[.agg #[.int .i64 a, .slice x.A1 x.n1 x.c1, .slice x.A2 x.n2 x.c2, .slice x.A3 x.n3 x.c3], .int .i64 a1] W fun e w' => e = .returned (.int .i64 r) ∧ Below W.heap.size W w' := by
  obtain ⟨⟨e1, e2, e3⟩, ⟨p1, q1⟩, ⟨p2, q2⟩, ⟨p3, q3⟩⟩ := sys_reads hx
  rw [e1, e2, e3]
  exact laws_heldSystem.calls k a _ _ l1 _ _ l2 _ _ l3 a1 r W p1 q1 p2 q2 p3 q3 h
theorem markS (k : Nat) {w : World} {x : Sx} {a a1 : Int} {l1 l2 : List Int} {l3 : List Bool} {r1 : Int} {r2 r3 : List Int} {r4 : List Bool} {W : World} (hB : Below w.heap.size w W) (hx : sysP w.heap.size x l1 l2 l3 W) (h : laws_markSystem.f k a l1 l2 l3 a1 = some (r1, r2, r3, r4)) :
    Calls Try.prog 13 #[.agg #[.int .i64 a, .slice x.A1 x.n1 x.c1, .slice x.A2 x.n2 x.c2, .slice x.A3 x.n3 x.c3], .int .i64 a1] W fun e w' => e = .returned (.int .i64 r1) ∧ sysP w.heap.size x r2 r3 r4 w' ∧ Below w.heap.size w w' ∧ Kept W w' (fun k => x.lo ≤ k ∧ k < x.hi) := by
  have t1 := Kd.R_tight rfl hx.1
  have t2 := Kd.R_tight rfl hx.2.1
  have t3 := Kd.R_tight rfl hx.2.2
  have in1 := hx.1.1
  have in2 := hx.2.1.1
  have in3 := hx.2.2.1
  refine (laws_markSystem.calls k a _ _ l1 _ _ l2 _ _ l3 a1 r1 r2 r3 r4 w W hB t1 (fun k h1 h2 => (in1 k h1.symm).2 h2) t2 (fun k h1 h2 => (in1 k h2.symm).2 h1) t3 h).mono ?_
  rintro e w' ⟨rfl, o1, o2, o3, hb, hk⟩
  refine ⟨rfl, ⟨?_, ?_, ?_⟩, hb, hk.mono fun k hk => ?_⟩
  · exact Kd.R_mono (Kd.R_tight rfl o1) fun k hk => in1 k hk.symm
  · exact Kd.R_mono (Kd.R_tight rfl o2) fun k hk => in2 k hk.symm
  · exact Kd.R_mono (Kd.R_tight rfl o3) fun k hk => in3 k hk.symm
  · rcases hk with hk | hk | hk
    · exact (in1 k hk.symm).1
    · exact (in2 k hk.symm).1
    · exact in3 k hk.symm
theorem specPS (k : Nat) {w : World} {x y : Sx} {a b : Int} {l1 l2 m1 m2 : List Int} {l3 m3 : List Bool} {r1 : Int} {r2 r3 : List Int} {r4 : List Bool} {r5 : Bool} {W : World} (hB : Below w.heap.size w W) (hx : sysP w.heap.size x l1 l2 l3 W) (hy : sysP w.heap.size y m1 m2 m3 W) (h : spec_ProductSystem.f k a l1 l2 l3 b m1 m2 m3 = some (r1, r2, r3, r4, r5)) :
    Calls Try.prog 9 #[.agg #[.int .i64 a, .slice x.A1 x.n1 x.c1, .slice x.A2 x.n2 x.c2, .slice x.A3 x.n3 x.c3], .agg #[.int .i64 b, .slice y.A1 y.n1 y.c1, .slice y.A2 y.n2 y.c2, .slice y.A3 y.n3 y.c3]] W fun e w' => ∃ z : Sx, e = .returned (.tuple #[.agg #[.int .i64 r1, .slice z.A1 z.n1 z.c1, .slice z.A2 z.n2 z.c2, .slice z.A3 z.n3 z.c3], .bool r5]) ∧ (sysP w.heap.size z r2 r3 r4 w' ∧ W.heap.size ≤ z.lo ∧ z.hi ≤ w'.heap.size) ∧ Below W.heap.size W w' := by
  obtain ⟨⟨e1, e2, e3⟩, ⟨p1, q1⟩, ⟨p2, q2⟩, ⟨p3, q3⟩⟩ := sys_reads hx
  obtain ⟨⟨f1, f2, f3⟩, ⟨s1, t1⟩, ⟨s2, t2⟩, ⟨s3, t3⟩⟩ := sys_reads hy
  rw [e1, e2, e3, f1, f2, f3]
  refine (spec_ProductSystem.calls k a _ _ l1 _ _ l2 _ _ l3 b _ _ m1 _ _ m2 _ _ m3 r1 r2 r3 r4 r5 W p1 q1 p2 q2 p3 q3 s1 t1 s2 t2 s3 t3 h).mono ?_
  rintro e w' ⟨v1, v2, v3, rfl, o1, o2, o3, hb'⟩
  obtain ⟨z, rfl, rfl, rfl, hp⟩ := sys_new hB.size hb'.size o1 o2 o3
  exact ⟨z, rfl, hp, hb'⟩
theorem implPS (k : Nat) {w : World} {x y : Sx} {a b : Int} {l1 l2 m1 m2 : List Int} {l3 m3 : List Bool} {r1 : Int} {r2 r3 : List Int} {r4 : List Bool} {r5 : Bool} {W : World} (hB : Below w.heap.size w W) (hx : sysP w.heap.size x l1 l2 l3 W) (hy : sysP w.heap.size y m1 m2 m3 W) (h : impl_ProductSystem.f k a l1 l2 l3 b m1 m2 m3 = some (r1, r2, r3, r4, r5)) :
    Calls Try.prog 11 #[.agg #[.int .i64 a, .slice x.A1 x.n1 x.c1, .slice x.A2 x.n2 x.c2, .slice x.A3 x.n3 x.c3], .agg #[.int .i64 b, .slice y.A1 y.n1 y.c1, .slice y.A2 y.n2 y.c2, .slice y.A3 y.n3 y.c3]] W fun e w' => ∃ z : Sx, e = .returned (.tuple #[.agg #[.int .i64 r1, .slice z.A1 z.n1 z.c1, .slice z.A2 z.n2 z.c2, .slice z.A3 z.n3 z.c3], .bool r5]) ∧ (sysP w.heap.size z r2 r3 r4 w' ∧ W.heap.size ≤ z.lo ∧ z.hi ≤ w'.heap.size) ∧ Below W.heap.size W w' := by
  obtain ⟨⟨e1, e2, e3⟩, ⟨p1, q1⟩, ⟨p2, q2⟩, ⟨p3, q3⟩⟩ := sys_reads hx
  obtain ⟨⟨f1, f2, f3⟩, ⟨s1, t1⟩, ⟨s2, t2⟩, ⟨s3, t3⟩⟩ := sys_reads hy
  rw [e1, e2, e3, f1, f2, f3]
  refine (impl_ProductSystem.calls k a _ _ l1 _ _ l2 _ _ l3 b _ _ m1 _ _ m2 _ _ m3 r1 r2 r3 r4 r5 W p1 q1 p2 q2 p3 q3 s1 t1 s2 t2 s3 t3 h).mono ?_
  rintro e w' ⟨v1, v2, v3, rfl, o1, o2, o3, hb'⟩
  obtain ⟨z, rfl, rfl, rfl, hp⟩ := sys_new hB.size hb'.size o1 o2 o3
  exact ⟨z, rfl, hp, hb'⟩

end Go.Proofs.Ytipfkicndjddgaa.P
end
