-- Several texts in one (wip/tools/merge.py).
import Derived.Test.YtmcepfimcedocaaDoorPf20
import Derived.Test.YtmcepfimcedocaaDoorPf25
import Derived.Test.YtmcepfimcedocaaDoorM18
import Derived.Test.YtmcepfimcedocaaDoorM17
import Derived.Test.YtmcepfimcedocaaDoorM16
section
/- Marks in systems; the product's tables: the program's and the reference's are one. -/
set_option linter.unusedSimpArgs false
set_option linter.unusedVariables false
namespace Go.Proofs.YtmcepfimcedocaaDoor.Pure
open Go.RowKit Go.Proofs.YtmcepfimcedocaaDoor.P Go.Proofs.YtmcepfimcedocaaDoorW.PrintWords Go.Proofs.YtmcepfimcedocaaDoorW.PrintLast
/-- Two counts of rounds. -/
def Ev2 {α : Type} (g : Nat → Nat → Option α) (r : α) : Prop := ∃ K, ∀ k, K ≤ k → ∀ j, K ≤ j → g k j = some r
theorem ev2_now {α : Type} (r : α) : Ev2 (fun _ _ => some r) r := ⟨0, fun _ _ _ _ => rfl⟩
theorem ev2_step {α : Type} {g h : Nat → Nat → Option α} {r : α} (H : ∀ k j, 64 ≤ j → g (k + 1) j = h k j) (e : Ev2 h r) : Ev2 g r := by
  obtain ⟨K, e⟩ := e
  refine ⟨K + 65, fun k hk j hj => ?_⟩
  obtain ⟨k, rfl⟩ : ∃ q, k = q + 1 := ⟨k - 1, by omega⟩
  rw [H k j (by omega)]
  exact e k (by omega) j (by omega)
theorem ev2_diag {α : Type} {g : Nat → Nat → Option α} {r : α} (h : Ev2 g r) : Ev (fun k => g k k) r := by
  obtain ⟨K, h⟩ := h
  exact ⟨K, fun k hk => h k hk k hk⟩
section
variable {a b : Nat} {L' : List Pr} {p t p' t' : List Int} {u u' : List Bool}
/-- One place of the tables. -/
structure Place (a b : Nat) (L' : List Pr) (p t : List Int) (u : List Bool) (p' t' : List Int) (u' : List Bool) (g h : Nat) (v m : Int) (c : Bool) : Prop where
  f1 : spec_l1First.f b (g : Int) = some (rdP L' g).f0
  f2 : spec_l1Second.f b (g : Int) = some (rdP L' g).f1
  f3 : spec_l1First.f b (h : Int) = some (rdP L' h).f0
  f4 : spec_l1Second.f b (h : Int) = some (rdP L' h).f1
  add : ∃ x y, spec_l1Add.f a p t u (rdP L' g).f0 (rdP L' h).f0 = some x ∧ spec_l1Add.f b p' t' u' (rdP L' g).f1 (rdP L' h).f1 = some y ∧ spec_l1Pair.f b x y = some v
  mul : ∃ x y, spec_l1Mul.f a p t u (rdP L' g).f0 (rdP L' h).f0 = some x ∧ spec_l1Mul.f b p' t' u' (rdP L' g).f1 (rdP L' h).f1 = some y ∧ spec_l1Pair.f b x y = some m
  le : ∃ x y, spec_l1Le.f a p t u (rdP L' g).f0 (rdP L' h).f0 = some x ∧ spec_l1Le.f b p' t' u' (rdP L' g).f1 (rdP L' h).f1 = some y ∧ c = (x && y)
  i2 : ∀ j, 64 ≤ j → impl_ProductSystem_2.f (g : Int) (h : Int) (fun z0_ z1_ => impl_ProductSystem_1.f j z0_ z1_ L') a p t u L' b p' t' u' = some v
  i3 : ∀ j, 64 ≤ j → impl_ProductSystem_3.f (g : Int) (h : Int) (fun z0_ z1_ => impl_ProductSystem_1.f j z0_ z1_ L') a p t u L' b p' t' u' = some m
  i4 : impl_ProductSystem_4.f (g : Int) (h : Int) a p t u L' b p' t' u' = some c
theorem index_up (x y v : Int) (h : slices_Index_2_int_2_int.f 64 L' x y = some v) (j : Nat) (hj : 64 ≤ j) : impl_ProductSystem_1.f j x y L' = some v := by
  have : ∀ d, slices_Index_2_int_2_int.f (64 + d) L' x y = some v := by
    intro d
    induction d with
    | zero => exact h
    | succ d ih => exact index_more L' x y (64 + d) v ih
  unfold impl_ProductSystem_1.f
  obtain ⟨d, rfl⟩ : ∃ d, j = 64 + d := ⟨j - 64, by omega⟩
  rw [this d]; rfl
theorem place (T : Two a b L') (o : OK a p t u) (o' : OK b p' t' u') (g h : Nat) (hg : g < a * b) (hh : h < a * b) : ∃ v m c, Place a b L' p t u p' t' u' g h v m c := by
  have gm : rdP L' g ∈ L' := rdP_mem L' g (by omega) (by rw [T.len]; omega)
  have hm : rdP L' h ∈ L' := rdP_mem L' h (by omega) (by rw [T.len]; omega)
  obtain ⟨g1, g2, g3, g4⟩ := T.inr _ gm
  obtain ⟨h1, h2, h3, h4⟩ := T.inr _ hm
  have rg : Rg a (rdP L' g).f0 := ⟨g1, g2⟩
  have rh : Rg a (rdP L' h).f0 := ⟨h1, h2⟩
  have sg : Rg b (rdP L' g).f1 := ⟨g3, g4⟩
  have sh : Rg b (rdP L' h).f1 := ⟨h3, h4⟩
  have A1 := add_eq o rg rh
  have A2 := add_eq o' sg sh
  have M1 := mul_eq o rg rh
  have M2 := mul_eq o' sg sh
  have L1 := le_eq o rg rh
  have L2 := le_eq o' sg sh
  obtain ⟨x, hx⟩ := Int.eq_ofNat_of_zero_le (A_in o rg rh).1
  obtain ⟨y, hy⟩ := Int.eq_ofNat_of_zero_le (A_in o' sg sh).1
  have bx := (A_in o rg rh).2
  have by' := (A_in o' sg sh).2
  obtain ⟨v, hv, _⟩ := T.num x y (by omega) (by omega)
  have iv := (T.idx x y (by omega) (by omega)).trans hv
  obtain ⟨x2, hx2⟩ := Int.eq_ofNat_of_zero_le (M_in o rg rh).1
  obtain ⟨y2, hy2⟩ := Int.eq_ofNat_of_zero_le (M_in o' sg sh).1
  have bx2 := (M_in o rg rh).2
  have by2 := (M_in o' sg sh).2
  obtain ⟨m, hm', _⟩ := T.num x2 y2 (by omega) (by omega)
  have im := (T.idx x2 y2 (by omega) (by omega)).trans hm'
  have lg : (g : Int) < (L'.length : Int) := by rw [T.len]; omega
  have lh : (h : Int) < (L'.length : Int) := by rw [T.len]; omega
  have g0 : 0 ≤ (g : Int) := by omega
  have h0 : 0 ≤ (h : Int) := by omega
  rw [hx] at A1; rw [hy] at A2; rw [hx2] at M1; rw [hy2] at M2
  refine ⟨v, m, _, ⟨T.first g hg, T.second g hg, T.first h hh, T.second h hh, ⟨_, _, A1, A2, hv⟩, ⟨_, _, M1, M2, hm'⟩, ⟨_, _, L1, L2, rfl⟩, fun j hj => ?_, fun j hj => ?_, ?_⟩⟩
  · unfold impl_ProductSystem_2.f
    rw [if_pos g0, if_pos lg, if_pos h0, if_pos lh, plus_is, A1, Option.bind_some, A2, Option.bind_some]
    show (impl_ProductSystem_1.f j (x : Int) (y : Int) L').bind _ = _
    rw [index_up _ _ v iv j hj]; rfl
  · unfold impl_ProductSystem_3.f
    rw [if_pos g0, if_pos lg, if_pos h0, if_pos lh, times_is, M1, Option.bind_some, M2, Option.bind_some]
    show (impl_ProductSystem_1.f j (x2 : Int) (y2 : Int) L').bind _ = _
    rw [index_up _ _ m im j hj]; rfl
  · unfold impl_ProductSystem_4.f
    rw [if_pos g0, if_pos lg, if_pos h0, if_pos lh, below_is, L1, Option.bind_some, L2]
    cases L (↑a) u (rdP L' ↑g).f0 (rdP L' ↑h).f0 <;> simp
theorem prodLoops (T : Two a b L') (o : OK a p t u) (o' : OK b p' t' u') (h16 : a * b ≤ 16) : ∀ (q g : Nat), g + q = a * b → ∀ (l1 l2 : List Int) (l3 : List Bool), l1.length + q * 16 ≤ 100000 → l2.length + q * 16 ≤ 100000 → l3.length + q * 16 ≤ 100000 →
    ∃ (r2 r3 : List Int) (r4 : List Bool), (r2.length ≤ 100000 ∧ r3.length ≤ 100000 ∧ r4.length ≤ 100000) ∧ Ev (fun k => spec_ProductSystem.l0 k b (g : Int) a p t u b p' t' u' ((a * b : Nat) : Int) l1 l2 l3) (((a * b : Nat) : Int), r2, r3, r4, true) ∧
      Ev2 (fun k j => impl_tabled.l0 k ((a * b : Nat) : Int) (fun z0_ z1_ => impl_ProductSystem_2.f z0_ z1_ (fun z0_ z1_ => impl_ProductSystem_1.f j z0_ z1_ L') a p t u L' b p' t' u') (fun z0_ z1_ => impl_ProductSystem_3.f z0_ z1_ (fun z0_ z1_ => impl_ProductSystem_1.f j z0_ z1_ L') a p t u L' b p' t' u') (fun z0_ z1_ => impl_ProductSystem_4.f z0_ z1_ a p t u L' b p' t' u') (g : Int) ((a * b : Nat) : Int) l1 l2 l3) (((a * b : Nat) : Int), r2, r3, r4) := by
  intro q
  induction q with
  | zero =>
    intro g hg l1 l2 l3 b1 b2 b3
    refine ⟨l1, l2, l3, ⟨by omega, by omega, by omega⟩, Ev.step (f := fun _ => some (((a * b : Nat) : Int), l1, l2, l3, true)) (fun k => ?_) (Ev.now _), ev2_step (h := fun _ _ => some (((a * b : Nat) : Int), l1, l2, l3)) (fun k j hj => ?_) (ev2_now _)⟩
    · simp only [spec_ProductSystem.l0]; rw [if_neg (by omega)]
    · simp only [impl_tabled.l0]; rw [if_neg (by omega)]
  | succ q ih =>
    intro g hg
    have inner : ∀ (s h : Nat), h + s = a * b → ∀ (l1 l2 : List Int) (l3 : List Bool), l1.length + (q * 16 + s) ≤ 100000 → l2.length + (q * 16 + s) ≤ 100000 → l3.length + (q * 16 + s) ≤ 100000 →
        ∃ (r2 r3 : List Int) (r4 : List Bool), (r2.length ≤ 100000 ∧ r3.length ≤ 100000 ∧ r4.length ≤ 100000) ∧ Ev (fun k => spec_ProductSystem.l1 k b (g : Int) (h : Int) a p t u b p' t' u' ((a * b : Nat) : Int) l1 l2 l3) (((a * b : Nat) : Int), r2, r3, r4, true) ∧
          Ev2 (fun k j => impl_tabled.l1 k ((a * b : Nat) : Int) (fun z0_ z1_ => impl_ProductSystem_2.f z0_ z1_ (fun z0_ z1_ => impl_ProductSystem_1.f j z0_ z1_ L') a p t u L' b p' t' u') (fun z0_ z1_ => impl_ProductSystem_3.f z0_ z1_ (fun z0_ z1_ => impl_ProductSystem_1.f j z0_ z1_ L') a p t u L' b p' t' u') (fun z0_ z1_ => impl_ProductSystem_4.f z0_ z1_ a p t u L' b p' t' u') (g : Int) (h : Int) ((a * b : Nat) : Int) l1 l2 l3) (((a * b : Nat) : Int), r2, r3, r4) := by
      intro s
      induction s with
      | zero =>
        intro h hh l1 l2 l3 b1 b2 b3
        obtain ⟨r2, r3, r4, rb, r5, r6⟩ := ih (g + 1) (by omega) l1 l2 l3 (by omega) (by omega) (by omega)
        have up : wrap64 ((g : Int) + 1) = ((g + 1 : Nat) : Int) := by rw [w64 (by omega) (by omega)]; omega
        refine ⟨r2, r3, r4, rb, Ev.step (fun k => ?_) r5, ev2_step (fun k j hj => ?_) r6⟩
        · simp only [spec_ProductSystem.l1]; rw [if_neg (by omega), up]
        · simp only [impl_tabled.l1]; rw [if_neg (by omega), up]
      | succ s ihs =>
        intro h hh l1 l2 l3 b1 b2 b3
        obtain ⟨v, m, c, P⟩ := place T o o' g h (by omega) (by omega)
        obtain ⟨r2, r3, r4, rb, r5, r6⟩ := ihs (h + 1) (by omega) (l1 ++ [v]) (l2 ++ [m]) (l3 ++ [c]) (by simp; omega) (by simp; omega) (by simp; omega)
        have up : wrap64 ((h : Int) + 1) = ((h + 1 : Nat) : Int) := by rw [w64 (by omega) (by omega)]; omega
        have c1 : l1.length < 17592186044416 := by omega
        have c2 : l2.length < 17592186044416 := by omega
        have c3 : l3.length < 140737488355328 := by omega
        refine ⟨r2, r3, r4, rb, Ev.step (fun k => ?_) r5, ev2_step (fun k j hj => ?_) r6⟩
        · obtain ⟨x, y, x1, y1, z1⟩ := P.add
          obtain ⟨x2, y2, x3, y3, z2⟩ := P.mul
          obtain ⟨x4, y4, x5, y5, z3⟩ := P.le
          simp only [spec_ProductSystem.l1]
          rw [if_pos (by omega)]
          simp only [P.f1, P.f2, P.f3, P.f4, x1, y1, z1, x3, y3, z2, x5, y5, Option.bind_some, if_pos c1, if_pos c2, if_pos c3, up]
          subst z3
          cases x4 <;> simp
        · simp only [impl_tabled.l1]
          rw [if_pos (by omega), P.i2 j hj, P.i3 j hj, P.i4]
          simp only [Option.bind_some, if_pos c1, if_pos c2, if_pos c3, up]
    intro l1 l2 l3 b1 b2 b3
    obtain ⟨r2, r3, r4, rb, r5, r6⟩ := inner (a * b) 0 (by omega) l1 l2 l3 (by omega) (by omega) (by omega)
    refine ⟨r2, r3, r4, rb, Ev.step (fun k => ?_) r5, ev2_step (fun k j hj => ?_) r6⟩
    · simp only [spec_ProductSystem.l0]; rw [if_pos (by omega)]; rfl
    · simp only [impl_tabled.l0]; rw [if_pos (by omega)]; rfl
end
theorem prodBoth (n : Int) (p t : List Int) (b : List Bool) (n' : Int) (p' t' : List Int) (b' : List Bool) : ∃ (r1 : Int) (r2 r3 : List Int) (r4 : List Bool) (r5 : Bool), (r2.length ≤ 1048576 ∧ r3.length ≤ 1048576 ∧ r4.length ≤ 1048576) ∧ Ev (fun k => spec_ProductSystem.f k n p t b n' p' t' b') (r1, r2, r3, r4, r5) ∧ Ev (fun k => impl_ProductSystem.f k n p t b n' p' t' b') (r1, r2, r3, r4, r5) := by
  by_cases c : prodV n p t b n' p' t' b' = true
  · obtain ⟨o, o', w, x, y, rfl, rfl, h16, e, L', T⟩ := prod_ok c
    obtain ⟨r2, r3, r4, rb, r5, r6⟩ := prodLoops T o o' h16 (x * y) 0 (by omega) [] [] [] (by simp; omega) (by simp; omega) (by simp; omega)
    refine ⟨((x * y : Nat) : Int), r2, r3, r4, true, ⟨by omega, by omega, by omega⟩, ?_, ?_⟩
    · unfold spec_ProductSystem.f
      refine Ev.bind specProd ?_
      have w' : wrap64 ((x * y : Nat) : Int) = ((x * y : Nat) : Int) := by rw [← e]; exact w
      simp only [c, if_true, e, w']
      exact r5
    · unfold impl_ProductSystem.f
      refine Ev.bind implProd ?_
      simp only [c, if_true]
      refine Ev.bind (T.ev p t p' t' b b') ?_
      rw [T.len]
      have r7 := ev2_diag r6
      exact Ev.bind r7 (Ev.now _)
  · rw [Bool.not_eq_true] at c
    refine ⟨0, [], [], [], false, ⟨by simp, by simp, by simp⟩, ?_, ?_⟩
    · unfold spec_ProductSystem.f
      refine Ev.bind specProd ?_
      simp only [c, Bool.false_eq_true, if_false]
      exact Ev.now _
    · unfold impl_ProductSystem.f
      refine Ev.bind implProd ?_
      simp only [c, Bool.false_eq_true, if_false]
      exact Ev.now _
end Go.Proofs.YtmcepfimcedocaaDoor.Pure
end

section
/- The product of two systems is a system. -/
set_option linter.unusedSimpArgs false
set_option linter.unusedVariables false
namespace Go.Proofs.YtmcepfimcedocaaDoor.Pure
open Go.RowKit Go.Proofs.YtmcepfimcedocaaDoor.P Go.Proofs.YtmcepfimcedocaaDoorW.PrintWords Go.Proofs.YtmcepfimcedocaaDoorW.PrintLast
def fst (b : Nat) (g : Int) : Int := (spec_l1First.f b g).getD 0
def snd (b : Nat) (g : Int) : Int := (spec_l1Second.f b g).getD 0
def par (b : Nat) (x y : Int) : Int := (spec_l1Pair.f b x y).getD 0
def goodS (a b : Nat) : Bool :=
  ((List.range (a * b)).all fun g => decide (spec_l1First.f b (g : Int) = some (fst b g)) && decide (spec_l1Second.f b (g : Int) = some (snd b g)) && decide (0 ≤ fst b g ∧ fst b g < a ∧ 0 ≤ snd b g ∧ snd b g < b) && decide (par b (fst b g) (snd b g) = g)) &&
  ((List.range a).all fun x => (List.range b).all fun y => decide (spec_l1Pair.f b (x : Int) (y : Int) = some (par b x y)) && decide (0 ≤ par b x y ∧ par b x y < (a : Int) * (b : Int)) && decide (fst b (par b x y) = x) && decide (snd b (par b x y) = y)) &&
  decide (par b 0 0 = 0) && decide (par b 1 1 = 1)
theorem goodS_all : ∀ p ∈ sizes, goodS p.1 p.2 = true := by decide +kernel
structure Pairs (a b : Nat) : Prop where
  f1 : ∀ g, Rg ((a * b : Nat) : Int) g → spec_l1First.f b g = some (fst b g)
  f2 : ∀ g, Rg ((a * b : Nat) : Int) g → spec_l1Second.f b g = some (snd b g)
  pr : ∀ x y, Rg a x → Rg b y → spec_l1Pair.f b x y = some (par b x y)
  bij : Bij a b ((a * b : Nat) : Int) (fst b) (snd b) (par b)
theorem pairs_of {a b : Nat} (h1 : 2 ≤ a) (h2 : 2 ≤ b) (h3 : a * b ≤ 16) : Pairs a b := by
  have := goodS_all _ (in_sizes h1 h2 h3)
  unfold goodS at this
  simp only [Bool.and_eq_true, decide_eq_true_eq, List.all_eq_true, List.mem_range] at this
  obtain ⟨⟨⟨A1, A2⟩, A3⟩, A4⟩ := this
  have nat : ∀ (n : Nat) (g : Int), Rg n g → ∃ q : Nat, g = q ∧ q < n := fun n g hg => by
    obtain ⟨q, rfl⟩ := Int.eq_ofNat_of_zero_le hg.1
    exact ⟨q, rfl, by have := hg.2; omega⟩
  have lm : ((a * b : Nat) : Int) = (a : Int) * (b : Int) := by push_cast; rfl
  have big : 2 * 2 ≤ a * b := Nat.mul_le_mul h1 h2
  refine ⟨fun g hg => ?_, fun g hg => ?_, fun x y hx hy => ?_, ⟨by omega, fun g hg => ?_, fun g hg => ?_, fun g hg => ?_, fun x y hx hy => ?_, fun x y hx hy => ?_, fun x y hx hy => ?_, A3, A4⟩⟩
  · obtain ⟨q, rfl, hq⟩ := nat _ g hg; exact (A1 q hq).1.1.1
  · obtain ⟨q, rfl, hq⟩ := nat _ g hg; exact (A1 q hq).1.1.2
  · obtain ⟨q, rfl, hq⟩ := nat _ x hx
    obtain ⟨r, rfl, hr⟩ := nat _ y hy
    exact (A2 q hq r hr).1.1.1
  · obtain ⟨q, rfl, hq⟩ := nat _ g hg; have := (A1 q hq).1.2; exact ⟨this.1, this.2.1⟩
  · obtain ⟨q, rfl, hq⟩ := nat _ g hg; have := (A1 q hq).1.2; exact ⟨this.2.2.1, this.2.2.2⟩
  · obtain ⟨q, rfl, hq⟩ := nat _ g hg; exact (A1 q hq).2
  · obtain ⟨q, rfl, hq⟩ := nat _ x hx
    obtain ⟨r, rfl, hr⟩ := nat _ y hy
    rw [lm]
    exact (A2 q hq r hr).1.1.2
  · obtain ⟨q, rfl, hq⟩ := nat _ x hx
    obtain ⟨r, rfl, hr⟩ := nat _ y hy
    exact (A2 q hq r hr).1.2
  · obtain ⟨q, rfl, hq⟩ := nat _ x hx
    obtain ⟨r, rfl, hr⟩ := nat _ y hy
    exact (A2 q hq r hr).2
/-- The product's tables, by what they tell. -/
theorem prod_tabs {a b : Nat} {p t p' t' : List Int} {u u' : List Bool} (B : Pairs a b) (o : OK a p t u) (o' : OK b p' t' u') (h16 : a * b ≤ 16) :
    Ev (fun k => spec_ProductSystem.l0 k b 0 a p t u b p' t' u' ((a * b : Nat) : Int) [] [] []) (((a * b : Nat) : Int), tab (a * b) (two (fst b) (snd b) (par b) (A a p) (A b p')), tab (a * b) (two (fst b) (snd b) (par b) (A a t) (A b t')), tab (a * b) (both (fst b) (snd b) (L a u) (L b u')), true) := by
  refine tabLoop (F0 := fun k g l1 l2 l3 => spec_ProductSystem.l0 k b g a p t u b p' t' u' ((a * b : Nat) : Int) l1 l2 l3) (F1 := fun k g h l1 l2 l3 => spec_ProductSystem.l1 k b g h a p t u b p' t' u' ((a * b : Nat) : Int) l1 l2 l3) (fin := fun l1 l2 l3 => (((a * b : Nat) : Int), l1, l2, l3, true)) (a * b) h16 _ _ _ ?_ ?_ ?_ ?_
  · intro g h l1 l2 l3 r hg hh b1 b2 b3 e
    have rg : Rg ((a * b : Nat) : Int) (g : Int) := ⟨by omega, by omega⟩
    have rh : Rg ((a * b : Nat) : Int) (h : Int) := ⟨by omega, by omega⟩
    have g1 := B.bij.i1 _ rg; have g2 := B.bij.i2 _ rg
    have h1 := B.bij.i1 _ rh; have h2 := B.bij.i2 _ rh
    have up : wrap64 ((h : Int) + 1) = ((h + 1 : Nat) : Int) := by rw [w64 (by omega) (by omega)]; omega
    have c1 : l1.length < 17592186044416 := by omega
    have c2 : l2.length < 17592186044416 := by omega
    have c3 : l3.length < 140737488355328 := by omega
    refine Ev.step (fun k => ?_) e
    simp only [spec_ProductSystem.l1]
    rw [if_pos (by omega)]
    simp only [B.f1 _ rg, B.f2 _ rg, B.f1 _ rh, B.f2 _ rh, add_eq o g1 h1, add_eq o' g2 h2, mul_eq o g1 h1, mul_eq o' g2 h2, le_eq o g1 h1, le_eq o' g2 h2, B.pr _ _ (A_in o g1 h1) (A_in o' g2 h2), B.pr _ _ (M_in o g1 h1) (M_in o' g2 h2), Option.bind_some, if_pos c1, if_pos c2, if_pos c3, up]
    unfold two both
    cases L (a : Int) u (fst b (g : Int)) (fst b (h : Int)) <;> simp
  · intro g l1 l2 l3 r hg e
    have up : wrap64 ((g : Int) + 1) = ((g + 1 : Nat) : Int) := by rw [w64 (by omega) (by omega)]; omega
    refine Ev.step (fun k => ?_) e
    simp only [spec_ProductSystem.l1]; rw [if_neg (by omega), up]
  · intro g l1 l2 l3 r hg e
    refine Ev.step (fun k => ?_) e
    simp only [spec_ProductSystem.l0]; rw [if_pos (by omega)]
  · intro l1 l2 l3
    refine Ev.step (f := fun _ => some (((a * b : Nat) : Int), l1, l2, l3, true)) (fun k => ?_) (Ev.now _)
    simp only [spec_ProductSystem.l0]; rw [if_neg (by omega)]
/-- What the product is: a system, or none. -/
structure Prod5 (n : Int) (p t : List Int) (b : List Bool) (n' : Int) (p' t' : List Int) (b' : List Bool) (r : Int × List Int × List Int × List Bool × Bool) : Prop where
  spec : Ev (fun k => spec_ProductSystem.f k n p t b n' p' t' b') r
  impl : Ev (fun k => impl_ProductSystem.f k n p t b n' p' t' b') r
  sys : r.2.2.2.2 = true → sysV r.1 r.2.1 r.2.2.1 r.2.2.2.1 = true
  non : r.2.2.2.2 = false → r.1 = 0
  len : r.2.1.length ≤ 1048576 ∧ r.2.2.1.length ≤ 1048576 ∧ r.2.2.2.1.length ≤ 1048576
theorem ev_one {α : Type} {f : Nat → Option α} {x y : α} (h1 : Ev f x) (h2 : Ev f y) : x = y := by
  obtain ⟨K, h1⟩ := h1
  obtain ⟨J, h2⟩ := h2
  exact Option.some.inj ((h1 (K + J) (by omega)).symm.trans (h2 (K + J) (by omega)))
theorem prod5 (n : Int) (p t : List Int) (b : List Bool) (n' : Int) (p' t' : List Int) (b' : List Bool) : ∃ r, Prod5 n p t b n' p' t' b' r := by
  obtain ⟨r1, r2, r3, r4, r5, hl, s1, s2⟩ := prodBoth n p t b n' p' t' b'
  by_cases c : prodV n p t b n' p' t' b' = true
  · obtain ⟨o, o', w, x, y, rfl, rfl, h16, e, L', T⟩ := prod_ok c
    have B : Pairs x y := pairs_of (by have := o.lo; omega) (by have := o'.lo; omega) h16
    have q : Ev (fun k => spec_ProductSystem.f k x p t b y p' t' b') (((x * y : Nat) : Int), tab (x * y) (two (fst y) (snd y) (par y) (A x p) (A y p')), tab (x * y) (two (fst y) (snd y) (par y) (A x t) (A y t')), tab (x * y) (both (fst y) (snd y) (L x b) (L y b')), true) := by
      unfold spec_ProductSystem.f
      refine Ev.bind specProd ?_
      have w' : wrap64 ((x * y : Nat) : Int) = ((x * y : Nat) : Int) := by rw [← e]; exact w
      simp only [c, if_true, e, w']
      exact prod_tabs B o o' h16
    have qe := ev_one q s1
    refine ⟨_, q, ?_, fun _ => ?_, fun h => Bool.noConfusion h, by rw [qe]; exact hl⟩
    · rw [qe]; exact s2
    · have c' := c
      unfold prodV at c'
      rw [Bool.and_eq_true, Bool.and_eq_true] at c'
      exact sys_tab h16 (Lw.prod B.bij (Lw.of_sys c'.1) (Lw.of_sys c'.2.1))
  · rw [Bool.not_eq_true] at c
    have q : Ev (fun k => spec_ProductSystem.f k n p t b n' p' t' b') (0, [], [], [], false) := by
      unfold spec_ProductSystem.f
      refine Ev.bind specProd ?_
      simp only [c, Bool.false_eq_true, if_false]
      exact Ev.now _
    refine ⟨_, q, ?_, fun h => absurd h (by decide), fun _ => rfl, by simp⟩
    rw [ev_one q s1]; exact s2
end Go.Proofs.YtmcepfimcedocaaDoor.Pure
end
