/- Marks in systems; the product's tables: the program's and the reference's are one. -/
import Derived.Test.YtmcepfimcedocaaDoorM2
import Derived.Test.YtmcepfimcedocaaDoorPf20
import Derived.Test.YtmcepfimcedocaaDoorPf25
import Derived.Test.YtmcepfimcedocaaDoorM15
set_option linter.unusedSimpArgs false
set_option linter.unusedVariables false
namespace Go.Proofs.YtmcepfimcedocaaDoor.Pure
open Go.RowKit Go.Proofs.YtmcepfimcedocaaDoor.P Go.Proofs.YtmcepfimcedocaaDoorW.PrintWords Go.Proofs.YtmcepfimcedocaaDoorW.PrintLast
/-- Numbers from a on, n of them. -/
def marks (a : Int) : Nat → List Int
  | 0 => []
  | n + 1 => a :: marks (a + 1) n
theorem markS_loop (hi : Int) (hh : hi ≤ 4611686018427387904) : ∀ (m : Nat) (pre rest : List Int) (a : Int), rest.length = m → 0 ≤ a → a + m ≤ hi → (pre.length : Int) + m ≤ hi → Ev (fun k => laws_markIntS.l0 k (pre ++ rest) a (pre.length : Int)) (a + m, pre ++ marks a m)
  | 0, pre, rest, a, h, ha, hb, hc => by
    obtain rfl : rest = [] := List.length_eq_zero_iff.mp h
    refine Ev.step (f := fun _ => some (a + 0, pre ++ marks a 0)) (fun k => ?_) (Ev.now _)
    simp only [laws_markIntS.l0, marks, List.append_nil]
    rw [if_neg (by omega), Int.add_zero]
  | m + 1, pre, rest, a, h, ha, hb, hc => by
    obtain ⟨z, zs, rfl⟩ : ∃ z zs, rest = z :: zs := by cases rest with | nil => cases h | cons z zs => exact ⟨z, zs, rfl⟩
    have ih := markS_loop hi hh m (pre ++ [a]) zs (a + 1) (by simpa using h) (by omega) (by omega) (by simp; omega)
    have e1 : (pre ++ z :: zs).set pre.length a = (pre ++ [a]) ++ zs := by simp
    have e2 : a + ((m + 1 : Nat) : Int) = a + 1 + m := by omega
    have e3 : pre ++ marks a (m + 1) = (pre ++ [a]) ++ marks (a + 1) m := by simp [marks]
    rw [e2, e3]
    refine Ev.step (fun k => ?_) ih
    simp only [laws_markIntS.l0]
    rw [if_pos (by simp; omega), if_pos (by omega), w64 (x := a + 1) (by omega) (by omega), w64 (x := (pre.length : Int) + 1) (by omega) (by omega), Int.toNat_natCast, e1, show ((pre ++ [a]).length : Int) = (pre.length : Int) + 1 by simp]
theorem markIntS (l : List Int) (a : Int) (ha : 0 ≤ a) (hb : a + l.length ≤ 4611686018427387904) : Ev (fun k => laws_markIntS.f k l a) (a + l.length, marks a l.length) := by
  unfold laws_markIntS.f
  exact markS_loop _ (Int.le_refl _) l.length [] l a rfl ha hb (by simp; omega)
theorem heldS_loop (hi : Int) (hh : hi ≤ 4611686018427387904) : ∀ (m : Nat) (pre : List Int) (a : Int), 0 ≤ a → a + m ≤ hi → (pre.length : Int) + m ≤ hi → Ev (fun k => laws_heldIntS.l0 k (pre ++ marks a m) a (pre.length : Int)) (a + m)
  | 0, pre, a, ha, hb, hc => by
    refine Ev.step (f := fun _ => some (a + 0)) (fun k => ?_) (Ev.now _)
    simp only [laws_heldIntS.l0, marks, List.append_nil]
    rw [if_neg (by omega), Int.add_zero]
  | m + 1, pre, a, ha, hb, hc => by
    have ih := heldS_loop hi hh m (pre ++ [a]) (a + 1) (by omega) (by omega) (by simp; omega)
    have e2 : a + ((m + 1 : Nat) : Int) = a + 1 + m := by omega
    have e3 : pre ++ marks a (m + 1) = (pre ++ [a]) ++ marks (a + 1) m := by simp [marks]
    have e4 : rd (pre ++ marks a (m + 1)) (pre.length : Int) = a := by rw [rd_get (by simp [marks])]; simp [marks]
    rw [e2]
    refine Ev.step (fun k => ?_) ih
    simp only [laws_heldIntS.l0]
    rw [if_pos (by simp [marks]; omega), if_pos (by omega), e4, if_pos rfl, e3, w64 (x := a + 1) (by omega) (by omega), w64 (x := (pre.length : Int) + 1) (by omega) (by omega), show ((pre ++ [a]).length : Int) = (pre.length : Int) + 1 by simp]
theorem heldIntS (n : Nat) (a : Int) (ha : 0 ≤ a) (hb : a + (n : Int) ≤ 4611686018427387904) : Ev (fun k => laws_heldIntS.f k (marks a n) a) (a + n) := by
  unfold laws_heldIntS.f
  exact heldS_loop _ (Int.le_refl _) n [] a ha hb (by simp; omega)
def marksB (a : Int) : Nat → List Bool
  | 0 => []
  | n + 1 => ((Int.tmod a 3) == 0) :: marksB (a + 1) n
theorem markB_loop (hi : Int) (hh : hi ≤ 4611686018427387904) : ∀ (m : Nat) (pre rest : List Bool) (a : Int), rest.length = m → 0 ≤ a → a + m ≤ hi → (pre.length : Int) + m ≤ hi → Ev (fun k => laws_markBoolS.l0 k (pre ++ rest) a (pre.length : Int)) (a + m, pre ++ marksB a m)
  | 0, pre, rest, a, h, ha, hb, hc => by
    obtain rfl : rest = [] := List.length_eq_zero_iff.mp h
    refine Ev.step (f := fun _ => some (a + 0, pre ++ marksB a 0)) (fun k => ?_) (Ev.now _)
    simp only [laws_markBoolS.l0, marksB, List.append_nil]
    rw [if_neg (by omega), Int.add_zero]
  | m + 1, pre, rest, a, h, ha, hb, hc => by
    obtain ⟨z, zs, rfl⟩ : ∃ z zs, rest = z :: zs := by cases rest with | nil => cases h | cons z zs => exact ⟨z, zs, rfl⟩
    have ih := markB_loop hi hh m (pre ++ [((Int.tmod a 3) == 0)]) zs (a + 1) (by simpa using h) (by omega) (by omega) (by simp; omega)
    have e1 : (pre ++ z :: zs).set pre.length ((Int.tmod a 3) == 0) = (pre ++ [((Int.tmod a 3) == 0)]) ++ zs := by simp
    have e2 : a + ((m + 1 : Nat) : Int) = a + 1 + m := by omega
    have e3 : pre ++ marksB a (m + 1) = (pre ++ [((Int.tmod a 3) == 0)]) ++ marksB (a + 1) m := by simp [marksB]
    rw [e2, e3]
    refine Ev.step (fun k => ?_) ih
    simp only [laws_markBoolS.l0]
    rw [if_pos (by simp; omega), if_pos (by omega), w64 (x := a + 1) (by omega) (by omega), w64 (x := (pre.length : Int) + 1) (by omega) (by omega), Int.toNat_natCast, e1, show ((pre ++ [((Int.tmod a 3) == 0)]).length : Int) = (pre.length : Int) + 1 by simp]
theorem markBoolS (l : List Bool) (a : Int) (ha : 0 ≤ a) (hb : a + l.length ≤ 4611686018427387904) : Ev (fun k => laws_markBoolS.f k l a) (a + l.length, marksB a l.length) := by
  unfold laws_markBoolS.f
  exact markB_loop _ (Int.le_refl _) l.length [] l a rfl ha hb (by simp; omega)
theorem heldB_loop (hi : Int) (hh : hi ≤ 4611686018427387904) : ∀ (m : Nat) (pre : List Bool) (a : Int), 0 ≤ a → a + m ≤ hi → (pre.length : Int) + m ≤ hi → Ev (fun k => laws_heldBoolS.l0 k (pre ++ marksB a m) a (pre.length : Int)) (a + m)
  | 0, pre, a, ha, hb, hc => by
    refine Ev.step (f := fun _ => some (a + 0)) (fun k => ?_) (Ev.now _)
    simp only [laws_heldBoolS.l0, marksB, List.append_nil]
    rw [if_neg (by omega), Int.add_zero]
  | m + 1, pre, a, ha, hb, hc => by
    have ih := heldB_loop hi hh m (pre ++ [((Int.tmod a 3) == 0)]) (a + 1) (by omega) (by omega) (by simp; omega)
    have e2 : a + ((m + 1 : Nat) : Int) = a + 1 + m := by omega
    have e3 : pre ++ marksB a (m + 1) = (pre ++ [((Int.tmod a 3) == 0)]) ++ marksB (a + 1) m := by simp [marksB]
    have e4 : rdOf false (pre ++ marksB a (m + 1)) (pre.length : Int) = ((Int.tmod a 3) == 0) := by unfold rdOf; simp [marksB]
    rw [e2]
    refine Ev.step (fun k => ?_) ih
    simp only [laws_heldBoolS.l0]
    rw [if_pos (by simp [marksB]; omega), if_pos (by omega), e4, bne_self_eq_false, if_neg (by decide), e3, w64 (x := a + 1) (by omega) (by omega), w64 (x := (pre.length : Int) + 1) (by omega) (by omega), show ((pre ++ [((Int.tmod a 3) == 0)]).length : Int) = (pre.length : Int) + 1 by simp]
theorem heldBoolS (n : Nat) (a : Int) (ha : 0 ≤ a) (hb : a + (n : Int) ≤ 4611686018427387904) : Ev (fun k => laws_heldBoolS.f k (marksB a n) a) (a + n) := by
  unfold laws_heldBoolS.f
  exact heldB_loop _ (Int.le_refl _) n [] a ha hb (by simp; omega)
theorem markSys (n : Int) (p t : List Int) (b : List Bool) (a : Int) (h1 : p.length ≤ 1048576) (h2 : t.length ≤ 1048576) (h3 : b.length ≤ 1048576) (ha : 0 ≤ a) (hb : a ≤ 1000000000) :
    Ev (fun k => laws_markSystem.f k n p t b a) (a + p.length + t.length + b.length, marks a p.length, marks (a + p.length) t.length, marksB (a + p.length + t.length) b.length) := by
  unfold laws_markSystem.f
  refine Ev.bind (markIntS p a ha (by omega)) ?_
  refine Ev.bind (markIntS t (a + p.length) (by omega) (by omega)) ?_
  refine Ev.bind (markBoolS b (a + p.length + t.length) (by omega) (by omega)) ?_
  exact Ev.now _
theorem heldSys (n : Int) (x y z : Nat) (a : Int) (h1 : x ≤ 1048576) (h2 : y ≤ 1048576) (h3 : z ≤ 1048576) (ha : 0 ≤ a) (hb : a ≤ 1000000000) :
    Ev (fun k => laws_heldSystem.f k n (marks a x) (marks (a + x) y) (marksB (a + x + y) z) a) (a + x + y + z) := by
  unfold laws_heldSystem.f
  refine Ev.bind (heldIntS x a ha (by omega)) ?_
  simp only [if_neg (show ¬ a + (x : Int) < 0 by omega)]
  refine Ev.bind (heldIntS y (a + x) (by omega) (by omega)) ?_
  simp only [if_neg (show ¬ a + (x : Int) + (y : Int) < 0 by omega)]
  refine Ev.bind (heldBoolS z (a + x + y) (by omega) (by omega)) ?_
  simp only [if_neg (show ¬ a + (x : Int) + (y : Int) + (z : Int) < 0 by omega)]
  exact Ev.now _
/-- Two counts of rounds. -/
def Ev2 {α : Type} (g : Nat → Nat → Option α) (r : α) : Prop := ∃ K, ∀ k, K ≤ k → ∀ j, K ≤ j → g k j = some r
theorem ev2_now {α : Type} (r : α) : Ev2 (fun _ _ => some r) r := ⟨0, fun _ _ _ _ => rfl⟩
theorem ev2_step {α : Type} {g h : Nat → Nat → Option α} {r : α} (H : ∀ k j, 64 ≤ j → g (k + 1) j = h k j) (e : Ev2 h r) : Ev2 g r := by
  obtain ⟨K, e⟩ := e
  refine ⟨K + 65, fun k hk j hj => ?_⟩
  obtain ⟨k, rfl⟩ : ∃ q, k = q + 1 := ⟨k - 1, by omega⟩
  rw [H k j (by omega)]
  exact e k (by omega) j (by omega)
theorem ev2_diag {α : Type} {g : Nat → Nat → Option α} {r : α} (h : Ev2 g r) : Ev (fun k => g k k) r := by
  obtain ⟨K, h⟩ := h
  exact ⟨K, fun k hk => h k hk k hk⟩
section
variable {a b : Nat} {L' : List Pr} {p t p' t' : List Int} {u u' : List Bool}
/-- One place of the tables. -/
structure Place (a b : Nat) (L' : List Pr) (p t : List Int) (u : List Bool) (p' t' : List Int) (u' : List Bool) (g h : Nat) (v m : Int) (c : Bool) : Prop where
  f1 : spec_l1First.f b (g : Int) = some (rdP L' g).f0
  f2 : spec_l1Second.f b (g : Int) = some (rdP L' g).f1
  f3 : spec_l1First.f b (h : Int) = some (rdP L' h).f0
  f4 : spec_l1Second.f b (h : Int) = some (rdP L' h).f1
  add : ∃ x y, spec_l1Add.f a p t u (rdP L' g).f0 (rdP L' h).f0 = some x ∧ spec_l1Add.f b p' t' u' (rdP L' g).f1 (rdP L' h).f1 = some y ∧ spec_l1Pair.f b x y = some v
  mul : ∃ x y, spec_l1Mul.f a p t u (rdP L' g).f0 (rdP L' h).f0 = some x ∧ spec_l1Mul.f b p' t' u' (rdP L' g).f1 (rdP L' h).f1 = some y ∧ spec_l1Pair.f b x y = some m
  le : ∃ x y, spec_l1Le.f a p t u (rdP L' g).f0 (rdP L' h).f0 = some x ∧ spec_l1Le.f b p' t' u' (rdP L' g).f1 (rdP L' h).f1 = some y ∧ c = (x && y)
  i2 : ∀ j, 64 ≤ j → impl_ProductSystem_2.f (g : Int) (h : Int) (fun z0_ z1_ => impl_ProductSystem_1.f j z0_ z1_ L') a p t u L' b p' t' u' = some v
  i3 : ∀ j, 64 ≤ j → impl_ProductSystem_3.f (g : Int) (h : Int) (fun z0_ z1_ => impl_ProductSystem_1.f j z0_ z1_ L') a p t u L' b p' t' u' = some m
  i4 : impl_ProductSystem_4.f (g : Int) (h : Int) a p t u L' b p' t' u' = some c
theorem index_up (x y v : Int) (h : slices_Index_2_int_2_int.f 64 L' x y = some v) (j : Nat) (hj : 64 ≤ j) : impl_ProductSystem_1.f j x y L' = some v := by
  have : ∀ d, slices_Index_2_int_2_int.f (64 + d) L' x y = some v := by
    intro d
    induction d with
    | zero => exact h
    | succ d ih => exact index_more L' x y (64 + d) v ih
  unfold impl_ProductSystem_1.f
  obtain ⟨d, rfl⟩ : ∃ d, j = 64 + d := ⟨j - 64, by omega⟩
  rw [this d]; rfl
theorem place (T : Two a b L') (o : OK a p t u) (o' : OK b p' t' u') (g h : Nat) (hg : g < a * b) (hh : h < a * b) : ∃ v m c, Place a b L' p t u p' t' u' g h v m c := by
  have gm : rdP L' g ∈ L' := rdP_mem L' g (by omega) (by rw [T.len]; omega)
  have hm : rdP L' h ∈ L' := rdP_mem L' h (by omega) (by rw [T.len]; omega)
  obtain ⟨g1, g2, g3, g4⟩ := T.inr _ gm
  obtain ⟨h1, h2, h3, h4⟩ := T.inr _ hm
  have rg : Rg a (rdP L' g).f0 := ⟨g1, g2⟩
  have rh : Rg a (rdP L' h).f0 := ⟨h1, h2⟩
  have sg : Rg b (rdP L' g).f1 := ⟨g3, g4⟩
  have sh : Rg b (rdP L' h).f1 := ⟨h3, h4⟩
  have A1 := add_eq o rg rh
  have A2 := add_eq o' sg sh
  have M1 := mul_eq o rg rh
  have M2 := mul_eq o' sg sh
  have L1 := le_eq o rg rh
  have L2 := le_eq o' sg sh
  obtain ⟨x, hx⟩ := Int.eq_ofNat_of_zero_le (A_in o rg rh).1
  obtain ⟨y, hy⟩ := Int.eq_ofNat_of_zero_le (A_in o' sg sh).1
  have bx := (A_in o rg rh).2
  have by' := (A_in o' sg sh).2
  obtain ⟨v, hv, _⟩ := T.num x y (by omega) (by omega)
  have iv := (T.idx x y (by omega) (by omega)).trans hv
  obtain ⟨x2, hx2⟩ := Int.eq_ofNat_of_zero_le (M_in o rg rh).1
  obtain ⟨y2, hy2⟩ := Int.eq_ofNat_of_zero_le (M_in o' sg sh).1
  have bx2 := (M_in o rg rh).2
  have by2 := (M_in o' sg sh).2
  obtain ⟨m, hm', _⟩ := T.num x2 y2 (by omega) (by omega)
  have im := (T.idx x2 y2 (by omega) (by omega)).trans hm'
  have lg : (g : Int) < (L'.length : Int) := by rw [T.len]; omega
  have lh : (h : Int) < (L'.length : Int) := by rw [T.len]; omega
  have g0 : 0 ≤ (g : Int) := by omega
  have h0 : 0 ≤ (h : Int) := by omega
  rw [hx] at A1; rw [hy] at A2; rw [hx2] at M1; rw [hy2] at M2
  refine ⟨v, m, _, ⟨T.first g hg, T.second g hg, T.first h hh, T.second h hh, ⟨_, _, A1, A2, hv⟩, ⟨_, _, M1, M2, hm'⟩, ⟨_, _, L1, L2, rfl⟩, fun j hj => ?_, fun j hj => ?_, ?_⟩⟩
  · unfold impl_ProductSystem_2.f
    rw [if_pos g0, if_pos lg, if_pos h0, if_pos lh, plus_is, A1, Option.bind_some, A2, Option.bind_some]
    show (impl_ProductSystem_1.f j (x : Int) (y : Int) L').bind _ = _
    rw [index_up _ _ v iv j hj]; rfl
  · unfold impl_ProductSystem_3.f
    rw [if_pos g0, if_pos lg, if_pos h0, if_pos lh, times_is, M1, Option.bind_some, M2, Option.bind_some]
    show (impl_ProductSystem_1.f j (x2 : Int) (y2 : Int) L').bind _ = _
    rw [index_up _ _ m im j hj]; rfl
  · unfold impl_ProductSystem_4.f
    rw [if_pos g0, if_pos lg, if_pos h0, if_pos lh, below_is, L1, Option.bind_some, L2]
    cases L (↑a) u (rdP L' ↑g).f0 (rdP L' ↑h).f0 <;> simp
theorem prodLoops (T : Two a b L') (o : OK a p t u) (o' : OK b p' t' u') (h16 : a * b ≤ 16) : ∀ (q g : Nat), g + q = a * b → ∀ (l1 l2 : List Int) (l3 : List Bool), l1.length + q * 16 ≤ 100000 → l2.length + q * 16 ≤ 100000 → l3.length + q * 16 ≤ 100000 →
    ∃ (r2 r3 : List Int) (r4 : List Bool), (r2.length ≤ 100000 ∧ r3.length ≤ 100000 ∧ r4.length ≤ 100000) ∧ Ev (fun k => spec_ProductSystem.l0 k b (g : Int) a p t u b p' t' u' ((a * b : Nat) : Int) l1 l2 l3) (((a * b : Nat) : Int), r2, r3, r4, true) ∧
      Ev2 (fun k j => impl_tabled.l0 k ((a * b : Nat) : Int) (fun z0_ z1_ => impl_ProductSystem_2.f z0_ z1_ (fun z0_ z1_ => impl_ProductSystem_1.f j z0_ z1_ L') a p t u L' b p' t' u') (fun z0_ z1_ => impl_ProductSystem_3.f z0_ z1_ (fun z0_ z1_ => impl_ProductSystem_1.f j z0_ z1_ L') a p t u L' b p' t' u') (fun z0_ z1_ => impl_ProductSystem_4.f z0_ z1_ a p t u L' b p' t' u') (g : Int) ((a * b : Nat) : Int) l1 l2 l3) (((a * b : Nat) : Int), r2, r3, r4) := by
  intro q
  induction q with
  | zero =>
    intro g hg l1 l2 l3 b1 b2 b3
    refine ⟨l1, l2, l3, ⟨by omega, by omega, by omega⟩, Ev.step (f := fun _ => some (((a * b : Nat) : Int), l1, l2, l3, true)) (fun k => ?_) (Ev.now _), ev2_step (h := fun _ _ => some (((a * b : Nat) : Int), l1, l2, l3)) (fun k j hj => ?_) (ev2_now _)⟩
    · simp only [spec_ProductSystem.l0]; rw [if_neg (by omega)]
    · simp only [impl_tabled.l0]; rw [if_neg (by omega)]
  | succ q ih =>
    intro g hg
    have inner : ∀ (s h : Nat), h + s = a * b → ∀ (l1 l2 : List Int) (l3 : List Bool), l1.length + (q * 16 + s) ≤ 100000 → l2.length + (q * 16 + s) ≤ 100000 → l3.length + (q * 16 + s) ≤ 100000 →
        ∃ (r2 r3 : List Int) (r4 : List Bool), (r2.length ≤ 100000 ∧ r3.length ≤ 100000 ∧ r4.length ≤ 100000) ∧ Ev (fun k => spec_ProductSystem.l1 k b (g : Int) (h : Int) a p t u b p' t' u' ((a * b : Nat) : Int) l1 l2 l3) (((a * b : Nat) : Int), r2, r3, r4, true) ∧
          Ev2 (fun k j => impl_tabled.l1 k ((a * b : Nat) : Int) (fun z0_ z1_ => impl_ProductSystem_2.f z0_ z1_ (fun z0_ z1_ => impl_ProductSystem_1.f j z0_ z1_ L') a p t u L' b p' t' u') (fun z0_ z1_ => impl_ProductSystem_3.f z0_ z1_ (fun z0_ z1_ => impl_ProductSystem_1.f j z0_ z1_ L') a p t u L' b p' t' u') (fun z0_ z1_ => impl_ProductSystem_4.f z0_ z1_ a p t u L' b p' t' u') (g : Int) (h : Int) ((a * b : Nat) : Int) l1 l2 l3) (((a * b : Nat) : Int), r2, r3, r4) := by
      intro s
      induction s with
      | zero =>
        intro h hh l1 l2 l3 b1 b2 b3
        obtain ⟨r2, r3, r4, rb, r5, r6⟩ := ih (g + 1) (by omega) l1 l2 l3 (by omega) (by omega) (by omega)
        have up : wrap64 ((g : Int) + 1) = ((g + 1 : Nat) : Int) := by rw [w64 (by omega) (by omega)]; omega
        refine ⟨r2, r3, r4, rb, Ev.step (fun k => ?_) r5, ev2_step (fun k j hj => ?_) r6⟩
        · simp only [spec_ProductSystem.l1]; rw [if_neg (by omega), up]
        · simp only [impl_tabled.l1]; rw [if_neg (by omega), up]
      | succ s ihs =>
        intro h hh l1 l2 l3 b1 b2 b3
        obtain ⟨v, m, c, P⟩ := place T o o' g h (by omega) (by omega)
        obtain ⟨r2, r3, r4, rb, r5, r6⟩ := ihs (h + 1) (by omega) (l1 ++ [v]) (l2 ++ [m]) (l3 ++ [c]) (by simp; omega) (by simp; omega) (by simp; omega)
        have up : wrap64 ((h : Int) + 1) = ((h + 1 : Nat) : Int) := by rw [w64 (by omega) (by omega)]; omega
        have c1 : l1.length < 17592186044416 := by omega
        have c2 : l2.length < 17592186044416 := by omega
        have c3 : l3.length < 140737488355328 := by omega
        refine ⟨r2, r3, r4, rb, Ev.step (fun k => ?_) r5, ev2_step (fun k j hj => ?_) r6⟩
        · obtain ⟨x, y, x1, y1, z1⟩ := P.add
          obtain ⟨x2, y2, x3, y3, z2⟩ := P.mul
          obtain ⟨x4, y4, x5, y5, z3⟩ := P.le
          simp only [spec_ProductSystem.l1]
          rw [if_pos (by omega)]
          simp only [P.f1, P.f2, P.f3, P.f4, x1, y1, z1, x3, y3, z2, x5, y5, Option.bind_some, if_pos c1, if_pos c2, if_pos c3, up]
          subst z3
          cases x4 <;> simp
        · simp only [impl_tabled.l1]
          rw [if_pos (by omega), P.i2 j hj, P.i3 j hj, P.i4]
          simp only [Option.bind_some, if_pos c1, if_pos c2, if_pos c3, up]
    intro l1 l2 l3 b1 b2 b3
    obtain ⟨r2, r3, r4, rb, r5, r6⟩ := inner (a * b) 0 (by omega) l1 l2 l3 (by omega) (by omega) (by omega)
    refine ⟨r2, r3, r4, rb, Ev.step (fun k => ?_) r5, ev2_step (fun k j hj => ?_) r6⟩
    · simp only [spec_ProductSystem.l0]; rw [if_pos (by omega)]; rfl
    · simp only [impl_tabled.l0]; rw [if_pos (by omega)]; rfl
end
theorem prodBoth (n : Int) (p t : List Int) (b : List Bool) (n' : Int) (p' t' : List Int) (b' : List Bool) : ∃ (r1 : Int) (r2 r3 : List Int) (r4 : List Bool) (r5 : Bool), (r2.length ≤ 1048576 ∧ r3.length ≤ 1048576 ∧ r4.length ≤ 1048576) ∧ Ev (fun k => spec_ProductSystem.f k n p t b n' p' t' b') (r1, r2, r3, r4, r5) ∧ Ev (fun k => impl_ProductSystem.f k n p t b n' p' t' b') (r1, r2, r3, r4, r5) := by
  by_cases c : prodV n p t b n' p' t' b' = true
  · obtain ⟨o, o', w, x, y, rfl, rfl, h16, e, L', T⟩ := prod_ok c
    obtain ⟨r2, r3, r4, rb, r5, r6⟩ := prodLoops T o o' h16 (x * y) 0 (by omega) [] [] [] (by simp; omega) (by simp; omega) (by simp; omega)
    refine ⟨((x * y : Nat) : Int), r2, r3, r4, true, ⟨by omega, by omega, by omega⟩, ?_, ?_⟩
    · unfold spec_ProductSystem.f
      refine Ev.bind specProd ?_
      have w' : wrap64 ((x * y : Nat) : Int) = ((x * y : Nat) : Int) := by rw [← e]; exact w
      simp only [c, if_true, e, w']
      exact r5
    · unfold impl_ProductSystem.f
      refine Ev.bind implProd ?_
      simp only [c, if_true]
      refine Ev.bind (T.ev p t p' t' b b') ?_
      rw [T.len]
      have r7 := ev2_diag r6
      exact Ev.bind r7 (Ev.now _)
  · rw [Bool.not_eq_true] at c
    refine ⟨0, [], [], [], false, ⟨by simp, by simp, by simp⟩, ?_, ?_⟩
    · unfold spec_ProductSystem.f
      refine Ev.bind specProd ?_
      simp only [c, Bool.false_eq_true, if_false]
      exact Ev.now _
    · unfold impl_ProductSystem.f
      refine Ev.bind implProd ?_
      simp only [c, Bool.false_eq_true, if_false]
      exact Ev.now _
end Go.Proofs.YtmcepfimcedocaaDoor.Pure
