-- Several texts in one (wip/tools/merge.py).
import Derived.Test.YtipfkicndjddgaaK8
import Derived.Test.YtipfkicndjddgaaM11
import Derived.Test.YtipfkicndjddgaaM10
section
/- Terms that were shifted. -/
set_option linter.unusedSimpArgs false
set_option linter.unusedVariables false
namespace Go.Proofs.Ytipfkicndjddgaa.Pure
open Go.RowKit Go.Proofs.Ytipfkicndjddgaa.P Go.Proofs.YtipfkicndjddgaaW.PrintWords Go.Proofs.YtipfkicndjddgaaW.PrintLast
abbrev FX (x : S40) (d : Int) : Prop := Fine (fun N => inV N (-1) 15) writtenV x d
theorem fx_out {x : S40} {d : Int} (h : FX x d) : nodeV (fun N => inV N (-1) 15) writtenV x d = true ∧ ∀ (q : Nat) (h : q < x.f3.length), FX (x.f3[q]) (wrap64 (d + addsV x.f0 q)) := by
  cases h with
  | mk _ _ h1 h2 => exact ⟨h1, h2⟩
theorem fx_var {x : S40} {d : Int} (h : FX x d) (h0 : x.f0 = 0) (d0 : 1 ≤ d) (d1 : d ≤ 9223372036854) : x.f2 = [] ∧ x.f3 = [] ∧ 0 ≤ x.f1 ∧ x.f1 ≤ d - 1 := by
  have h1 := (fx_out h).1
  unfold nodeV gradeV typeOf at h1
  rw [if_pos h0, h0] at h1
  simp only [Bool.and_eq_true, decide_eq_true_eq] at h1
  obtain ⟨a, b, c⟩ := h1
  rw [inV_iff, w64 (by omega) (by omega)] at b
  have e3 : x.f3.length = 0 := by
    have : manyV 0 = 0 := by decide
    omega
  have e2 : x.f2.length = 0 := by
    rw [if_neg (by decide)] at c
    simp only [decide_eq_true_eq] at c
    omega
  exact ⟨List.length_eq_zero_iff.mp e2, List.length_eq_zero_iff.mp e3, b.1, b.2⟩
theorem fx_big {N d : Int} (hN : d ≤ N) (d0 : 1 ≤ d) (d1 : d ≤ 9223372036854) : ¬ FX ⟨0, N, [], []⟩ d := fun h => by
  have := (fx_var h rfl d0 d1).2.2.2
  simp at this
  omega
theorem fx_kid {x : S40} {d : Int} {q : Nat} (h : q < x.f3.length) (hn : ¬ FX (x.f3[q]) (wrap64 (d + addsV x.f0 q))) : ¬ FX x d := fun hx => hn ((fx_out hx).2 q h)
theorem cloneE (l : List Int) (h : l.length ≤ 4194304) : slices_Clone_int_int.f l = some l := by
  unfold slices_Clone_int_int.f
  rw [if_pos (by simp only [List.length_nil]; omega)]
  simp
theorem l1CopyE (l : List Int) (h : l.length ≤ 4194304) : spec_l1Copy.f l = some l := by
  unfold spec_l1Copy.f
  simp only [Option.bind_some]
  rw [if_pos (by simp only [List.length_nil]; omega)]
  simp
theorem copyLeaf (N : Int) : Ev (fun k => impl_copyTerm.f k 0 N [] []) (0, N, [], []) := by
  refine Ev.step (f := fun k => (impl_copyTerm.l0 k [] [] 0).bind fun r => some (0, N, [], r)) (fun k => by simp only [impl_copyTerm.f]; rw [cloneE _ (by simp)]; rfl) ?_
  refine Ev.bind (a := []) (Ev.step (f := fun _ => some []) (fun k => by simp [impl_copyTerm.l0]) (Ev.now _)) ?_
  exact Ev.now _
theorem specAddsE (op i : Int) : Ev (fun k => spec_l2Adds.f k op i) (addsV op i) := ⟨1, fun k hk => by obtain ⟨k, rfl⟩ : ∃ q, k = q + 1 := ⟨k - 1, by omega⟩; exact specAdds k op i⟩
theorem implAddsE (op i : Int) : Ev2 (fun k _ => impl_adds.f k op i) (addsV op i) := ⟨2, fun k hk j hj => by obtain ⟨k, rfl⟩ : ∃ q, k = q + 2 := ⟨k - 2, by omega⟩; exact implAdds k op i⟩
theorem small_i {i n s w t : Nat} {D : Int} (h : i < n) (h1 : n ≤ s) (h2 : w = t + s) (hD : 0 ≤ D) (h3 : D + 2 * (w : Int) ≤ 4194304) : i < 2199023255552 := by omega
theorem shiftB {c from_ p q : Int} (h0 : 0 ≤ from_) (hc : c = if from_ < 8 then from_ else 8) (hp0 : 0 ≤ p) (hp : p ≤ 8) (hpq : p = q ∨ (p = 8 ∧ 8 ≤ q)) (hq : q ≤ 1048576) (x : S40) :
    ∀ D : Int, 0 ≤ D → D + 2 * (weight x : Int) ≤ 4194304 → FX x (8 + D) → ∃ y z : S40, Ev (fun k => spec_l2Shift.f k x.f0 x.f1 x.f2 x.f3 p (c + D)) (y.f0, y.f1, y.f2, y.f3) ∧ Ev2 (fun k j => impl_renamed.f k x.f0 x.f1 x.f2 x.f3 D (fun z0 z1 z2 z3 z4 => impl_shifted_1.f j z0 z1 z2 z3 z4 from_ q)) (z.f0, z.f1, z.f2, z.f3) ∧ weight y = weight x ∧ weight z = weight x ∧ (y = z ∨ ¬ FX y (8 + D) ∧ ¬ FX z (8 + D)) := by
  refine indI (P := fun x => ∀ D : Int, 0 ≤ D → D + 2 * (weight x : Int) ≤ 4194304 → FX x (8 + D) → ∃ y z : S40, Ev (fun k => spec_l2Shift.f k x.f0 x.f1 x.f2 x.f3 p (c + D)) (y.f0, y.f1, y.f2, y.f3) ∧ Ev2 (fun k j => impl_renamed.f k x.f0 x.f1 x.f2 x.f3 D (fun z0 z1 z2 z3 z4 => impl_shifted_1.f j z0 z1 z2 z3 z4 from_ q)) (z.f0, z.f1, z.f2, z.f3) ∧ weight y = weight x ∧ weight z = weight x ∧ (y = z ∨ ¬ FX y (8 + D) ∧ ¬ FX z (8 + D))) ?_ (SizeOf.sizeOf x + 1) x (by omega)
  clear x
  intro x ih D hD hB hF
  have hcb : 0 ≤ c ∧ c ≤ 8 := by rw [hc]; split <;> omega
  have hq0 : 0 ≤ q := by omega
  have hwe := weight_eq x
  have hsl := sum_len x.f3
  by_cases hv : x.f0 = 0
  · obtain ⟨e2, e3, n0, n1⟩ := fx_var hF hv (by omega) (by omega)
    have w0 : weight x = 0 := by rw [hwe, e2, e3]; rfl
    have wl : ∀ N : Int, weight ⟨0, N, [], []⟩ = 0 := fun N => by rw [weight_eq]; rfl
    generalize x.f1 = N at n0 n1
    rw [e2, e3, hv]
    have sp : ∀ M : Int, (if (0 : Int) = 0 ∧ N ≥ c + D then wrap64 (N + p) else N) = M → Ev (fun k => spec_l2Shift.f k 0 N [] [] p (c + D)) (0, M, [], []) := fun M hM => by
      refine Ev.step (f := fun k => (spec_l2Shift.l0 k 0 [] p (c + D) [] 0).bind fun r => some (0, M, [], r)) (fun k => by rw [← hM]; simp only [spec_l2Shift.f]; rw [l1CopyE _ (by simp)]; simp) ?_
      refine Ev.bind (a := []) (Ev.step (f := fun _ => some []) (fun k => by simp [spec_l2Shift.l0]) (Ev.now _)) ?_
      exact Ev.now _
    have im : ∀ M : Int, (if wrap64 (N - D) ≥ from_ then wrap64 (N + q) else N) = M → Ev2 (fun k j => impl_renamed.f k 0 N [] [] D (fun z0 z1 z2 z3 z4 => impl_shifted_1.f j z0 z1 z2 z3 z4 from_ q)) (0, M, [], []) := fun M hM => by
      refine ev2_step (h := fun _ j => impl_copyTerm.f j 0 M [] []) (fun k j => ?_) (ev2_right (copyLeaf M))
      simp only [impl_renamed.f, if_true, impl_shifted_1.f]
      rw [← hM]
      split <;> rfl
    rw [w64 (x := N + p) (by omega) (by omega)] at sp
    rw [w64 (x := N - D) (by omega) (by omega), w64 (x := N + q) (by omega) (by omega)] at im
    by_cases s : N - D ≥ from_
    · have ec : c = from_ := by rw [hc, if_pos (by omega)]
      refine ⟨⟨0, N + p, [], []⟩, ⟨0, N + q, [], []⟩, sp _ (if_pos ⟨rfl, by omega⟩), im _ (if_pos s), by rw [wl, w0], by rw [wl, w0], ?_⟩
      rcases hpq with rfl | ⟨rfl, h8⟩
      · exact Or.inl rfl
      · exact Or.inr ⟨fx_big (by omega) (by omega) (by omega), fx_big (by omega) (by omega) (by omega)⟩
    · refine ⟨⟨0, N, [], []⟩, ⟨0, N, [], []⟩, sp _ (if_neg fun h => ?_), im _ (if_neg s), by rw [wl, w0], by rw [wl, w0], Or.inl rfl⟩
      have := h.2
      rw [hc] at this
      split at this <;> omega
  have hk := (fx_out hF).2
  have lp : ∀ (m i : Nat) (ay az : List S40), i + m = x.f3.length → ay.length = i → az.length = i → ∃ ys zs : List S40, ys.length = m ∧ zs.length = m ∧ Ev (fun k => spec_l2Shift.l0 k x.f0 x.f3 p (c + D) ay (i : Int)) (ay ++ ys) ∧ Ev2 (fun k j => impl_renamed.l0 k (fun z0 z1 z2 z3 z4 => impl_shifted_1.f j z0 z1 z2 z3 z4 from_ q) D x.f0 x.f3 az (i : Int)) (az ++ zs) ∧ (ys.map fun y => 1 + weight y).sum = ((x.f3.drop i).map fun y => 1 + weight y).sum ∧ (zs.map fun y => 1 + weight y).sum = ((x.f3.drop i).map fun y => 1 + weight y).sum ∧ (ys = zs ∨ ∃ (r : Nat) (h1 : r < ys.length) (h2 : r < zs.length), ¬ FX ys[r] (wrap64 (8 + D + addsV x.f0 ((i + r : Nat) : Int))) ∧ ¬ FX zs[r] (wrap64 (8 + D + addsV x.f0 ((i + r : Nat) : Int)))) := by
    intro m
    induction m with
    | zero =>
      intro i ay az hi hy hz
      refine ⟨[], [], rfl, rfl, Ev.step (f := fun _ => some ay) (fun k => ?_) (by simpa using Ev.now ay), ev2_step (h := fun _ _ => some az) (fun k j => ?_) (by simpa using ev2_now az), ?_, ?_, Or.inl rfl⟩
      · simp only [spec_l2Shift.l0]; rw [if_neg (by omega)]
      · simp only [impl_renamed.l0]; rw [if_neg (by omega)]
      · rw [List.drop_eq_nil_of_le (by omega)]
      · rw [List.drop_eq_nil_of_le (by omega)]
    | succ m ihm =>
      intro i ay az hi hy hz
      have hmem : x.f3[i] ∈ x.f3 := List.getElem_mem _
      have hsg := sum_ge hmem
      have ad := adds_le x.f0 (i : Int)
      have up : wrap64 ((i : Int) + 1) = ((i + 1 : Nat) : Int) := by rw [w64 (by omega) (by omega)]; omega
      have i1 : (i : Int) < (x.f3.length : Int) := by omega
      have i0 : 0 ≤ (i : Int) := Int.natCast_nonneg i
      have il : i < x.f3.length := hi ▸ Nat.lt_add_of_pos_right (Nat.succ_pos m)
      have ib : i < 2199023255552 := small_i il hsl hwe hD hB
      have iy : ay.length < 2199023255552 := hy ▸ ib
      have iz : az.length < 2199023255552 := hz ▸ ib
      have hfi := hk i (by omega)
      rw [w64 (by omega) (by omega), Int.add_assoc] at hfi
      obtain ⟨y, z, y1, z1, y2, z2, yz⟩ := ih _ hmem (D + addsV x.f0 i) (by omega) (by omega) hfi
      obtain ⟨ys, zs, l1, l2, s1, s2, w1, w2, hh⟩ := ihm (i + 1) (ay ++ [y]) (az ++ [z]) (by omega) (by simp [hy]) (by simp [hz])
      have ey : (⟨y.f0, y.f1, y.f2, y.f3⟩ : S40) = y := by cases y; rfl
      have ez : (⟨z.f0, z.f1, z.f2, z.f3⟩ : S40) = z := by cases z; rfl
      refine ⟨y :: ys, z :: zs, by simp [l1], by simp [l2], ?_, ?_, ?_, ?_, ?_⟩
      · refine Ev.step (f := fun k => (spec_l2Adds.f k x.f0 i).bind fun dd => (spec_l2Shift.f k x.f3[i].f0 x.f3[i].f1 x.f3[i].f2 x.f3[i].f3 p (wrap64 (c + D + dd))).bind fun b => spec_l2Shift.l0 k x.f0 x.f3 p (c + D) (ay ++ [⟨b.1, b.2.1, b.2.2.1, b.2.2.2⟩]) ((i + 1 : Nat) : Int)) (fun k => ?_) (Ev.bind (specAddsE x.f0 i) ?_)
        · simp only [spec_l2Shift.l0, rdI_get (show i < x.f3.length by omega)]
          rw [if_pos i1, if_pos i0, if_pos iy, up]
        · rw [w64 (by omega) (by omega), Int.add_assoc]
          refine Ev.bind y1 ?_
          dsimp only
          rw [ey]
          rw [show ay ++ y :: ys = (ay ++ [y]) ++ ys by simp]
          exact s1
      · refine ev2_step (h := fun k j => (impl_adds.f k x.f0 i).bind fun dd => (impl_renamed.f k x.f3[i].f0 x.f3[i].f1 x.f3[i].f2 x.f3[i].f3 (wrap64 (D + dd)) (fun z0 z1 z2 z3 z4 => impl_shifted_1.f j z0 z1 z2 z3 z4 from_ q)).bind fun b => impl_renamed.l0 k (fun z0 z1 z2 z3 z4 => impl_shifted_1.f j z0 z1 z2 z3 z4 from_ q) D x.f0 x.f3 (az ++ [⟨b.1, b.2.1, b.2.2.1, b.2.2.2⟩]) ((i + 1 : Nat) : Int)) (fun k j => ?_) (ev2_bind (implAddsE x.f0 i) ?_)
        · simp only [impl_renamed.l0, rdI_get (show i < x.f3.length by omega)]
          rw [if_pos i1, if_pos i0, if_pos iz, up]
        · rw [w64 (by omega) (by omega)]
          refine ev2_bind z1 ?_
          dsimp only
          rw [ez]
          rw [show az ++ z :: zs = (az ++ [z]) ++ zs by simp]
          exact s2
      · rw [List.drop_eq_getElem_cons (by omega)]; simp only [List.map_cons, List.sum_cons, w1, y2]
      · rw [List.drop_eq_getElem_cons (by omega)]; simp only [List.map_cons, List.sum_cons, w2, z2]
      · rcases yz with rfl | ⟨f1, f2⟩
        · rcases hh with rfl | ⟨r, r1, r2, f1, f2⟩
          · exact Or.inl rfl
          · refine Or.inr ⟨r + 1, by simp; omega, by simp; omega, ?_⟩
            rw [show i + (r + 1) = i + 1 + r by omega]
            exact ⟨f1, f2⟩
        · refine Or.inr ⟨0, by simp, by simp, ?_⟩
          rw [Nat.add_zero, w64 (by omega) (by omega), Int.add_assoc]
          exact ⟨f1, f2⟩
  obtain ⟨ys, zs, l1, l2, s1, s2, w1, w2, hh⟩ := lp x.f3.length 0 [] [] (by omega) rfl rfl
  rw [List.drop_zero] at w1 w2
  refine ⟨⟨x.f0, x.f1, x.f2, ys⟩, ⟨x.f0, x.f1, x.f2, zs⟩, ?_, ?_, by rw [weight_eq, hwe]; simp only [w1], by rw [weight_eq, hwe]; simp only [w2], ?_⟩
  · refine Ev.step (f := fun k => (spec_l2Shift.l0 k x.f0 x.f3 p (c + D) [] 0).bind fun r => some (x.f0, x.f1, x.f2, r)) (fun k => ?_) (Ev.bind (by simpa using s1) (Ev.now _))
    simp only [spec_l2Shift.f]
    rw [l1CopyE _ (by omega), Option.bind_some, if_neg (fun h => hv h.1)]
  · refine ev2_step (h := fun k j => (impl_renamed.l0 k (fun z0 z1 z2 z3 z4 => impl_shifted_1.f j z0 z1 z2 z3 z4 from_ q) D x.f0 x.f3 [] 0).bind fun r => some (x.f0, x.f1, x.f2, r)) (fun k j => ?_) (ev2_bind (by simpa using s2) (ev2_now _))
    simp only [impl_renamed.f]
    rw [if_neg hv, cloneE _ (by omega), Option.bind_some]
  · rcases hh with rfl | ⟨r, r1, r2, f1, f2⟩
    · exact Or.inl rfl
    · rw [Nat.zero_add] at f1 f2
      exact Or.inr ⟨fx_kid (x := ⟨x.f0, x.f1, x.f2, ys⟩) r1 f1, fx_kid (x := ⟨x.f0, x.f1, x.f2, zs⟩) r2 f2⟩
theorem writtenFx (x : S40) (hs : Small x) : ∃ v : Bool, (v = true → FX x 8) ∧ Ev (fun k => spec_IsWritten.f k x.f0 x.f1 x.f2 x.f3) v ∧ Ev (fun k => impl_IsWritten.f k x.f0 x.f1 x.f2 x.f3) v := by
  obtain ⟨v, hv0, hv1, hv2, hv3⟩ := writtenBoth x hs
  refine ⟨v, hv0, hv1, ?_⟩
  unfold impl_IsWritten.f
  refine Ev.bind hv2 ?_
  cases v
  · simpa using Ev.now false
  · simp only [if_true, decide_eq_true (show (nodes x : Int) ≤ 400 by have := hv3 rfl; omega)]
    exact Ev.now _
theorem weight_zero : weight ⟨0, 0, [], []⟩ = 0 := by rw [weight_eq]; rfl
end Go.Proofs.Ytipfkicndjddgaa.Pure
end

section
namespace Go.Proofs.Ytipfkicndjddgaa.P
open Go.RowKit Go.Proofs.YtipfkicndjddgaaW.PrintWords Go.Proofs.YtipfkicndjddgaaW.PrintLast Go.Proofs.YtipfkicndjddgaaW.PrintMore
attribute [local go_sem] max2_int min2_int max_two min_two max_three min_three max_four min_four
set_option linter.unusedVariables false
set_option linter.unusedSimpArgs false
theorem specW (k : Nat) {w W : World} {x0 : Tx} {p01 p02 : Int} {p03 : List Int} {p04 : List S40} {a1 : Int} {a2 : Int} {r1 r2 : Int} {r3 : List Int} {r4 : List S40} {r5 : Bool} (hB : Below w.heap.size w W) (h0 : termP w.heap.size x0 p03 p04 W) (h : spec_ShiftTerm.f k p01 p02 p03 p04 a1 a2 = some (r1, r2, r3, r4, r5)) :
    Calls Try.prog 25 #[.agg #[.int .i64 p01, .int .i64 p02, .slice x0.A2 x0.n2 x0.c2, .slice x0.A3 x0.n3 x0.c3], .int .i64 a1, .int .i64 a2] W fun e w' => ∃ z : Tx, e = .returned (.tuple #[.agg #[.int .i64 r1, .int .i64 r2, .slice z.A2 z.n2 z.c2, .slice z.A3 z.n3 z.c3], .bool r5]) ∧ (termP w.heap.size z r3 r4 w' ∧ W.heap.size ≤ z.lo ∧ z.hi ≤ w'.heap.size) ∧ Below W.heap.size W w' := by
  obtain ⟨⟨e02, e03⟩, ⟨u02, q02⟩, ⟨u03, q03⟩⟩ := term_reads h0
  rw [e02, e03]
  refine (spec_ShiftTerm.calls k _ _ _ _ p03 _ _ p04 _ _ r1 r2 r3 r4 r5 W u02 q02 u03 q03 h).mono ?_
  rintro e w' ⟨v2, v3, f, rfl, hm, hb'⟩
  obtain ⟨z, rfl, rfl, hp⟩ := term_new hB.size hb'.size hm
  exact ⟨z, rfl, hp, hb'⟩
theorem implW (k : Nat) {w W : World} {x0 : Tx} {p01 p02 : Int} {p03 : List Int} {p04 : List S40} {a1 : Int} {a2 : Int} {r1 r2 : Int} {r3 : List Int} {r4 : List S40} {r5 : Bool} (hB : Below w.heap.size w W) (h0 : termP w.heap.size x0 p03 p04 W) (h : impl_ShiftTerm.f k p01 p02 p03 p04 a1 a2 = some (r1, r2, r3, r4, r5)) :
    Calls Try.prog 26 #[.agg #[.int .i64 p01, .int .i64 p02, .slice x0.A2 x0.n2 x0.c2, .slice x0.A3 x0.n3 x0.c3], .int .i64 a1, .int .i64 a2] W fun e w' => ∃ z : Tx, e = .returned (.tuple #[.agg #[.int .i64 r1, .int .i64 r2, .slice z.A2 z.n2 z.c2, .slice z.A3 z.n3 z.c3], .bool r5]) ∧ (termP w.heap.size z r3 r4 w' ∧ W.heap.size ≤ z.lo ∧ z.hi ≤ w'.heap.size) ∧ Below W.heap.size W w' := by
  obtain ⟨⟨e02, e03⟩, ⟨u02, q02⟩, ⟨u03, q03⟩⟩ := term_reads h0
  rw [e02, e03]
  refine (impl_ShiftTerm.calls k _ _ _ _ p03 _ _ p04 _ _ r1 r2 r3 r4 r5 W u02 q02 u03 q03 h).mono ?_
  rintro e w' ⟨v2, v3, f, rfl, hm, hb'⟩
  obtain ⟨z, rfl, rfl, hp⟩ := term_new hB.size hb'.size hm
  exact ⟨z, rfl, hp, hb'⟩
def laws_FnExactShiftTerm.f (k : Nat) (a0_0 : Int) (a0_1 : Int) (l0_2 : List Int) (l0_3 : List (S36)) (a1 : Int) (a2 : Int) : Option (Bool) :=
  (laws_szTerm.f k a0_0 a0_1 l0_2 l0_3 1048576).bind fun z0 => if z0 < 0 then some true else 
  (laws_toTerm.f k a0_0 a0_1 l0_2 l0_3).bind fun p0 => 
  (spec_ShiftTerm.f k p0.1 p0.2.1 p0.2.2.1 p0.2.2.2 a1 a2).bind fun s => (impl_ShiftTerm.f k p0.1 p0.2.1 p0.2.2.1 p0.2.2.2 a1 a2).bind fun g => (laws_eqTerm.f k g.1 g.2.1 g.2.2.1 g.2.2.2.1 s.1 s.2.1 s.2.2.1 s.2.2.2.1).bind fun e => 
  (laws_eqTerm.f k p0.1 p0.2.1 p0.2.2.1 p0.2.2.2 p0.1 p0.2.1 p0.2.2.1 p0.2.2.2).bind fun e0 => 
  (laws_markTerm.f k p0.2.2.1 p0.2.2.2 1).bind fun m0 => 
  (laws_markTerm.f k g.2.2.1 g.2.2.2.1 1).bind fun u => (laws_heldTerm.f k g.1 g.2.1 u.2.1 u.2.2 1).bind fun h => some (e && (e0 && ((decide (g.2.2.2.2 = s.2.2.2.2) && (decide (¬ m0.1 < 0) && (decide (¬ h < 0) && decide (h = u.1)))))))

set_option maxHeartbeats 8000000 in
set_option maxRecDepth 100000 in
theorem laws_FnExactShiftTerm.calls (k : Nat) (a0_0 : Int) (a0_1 : Int) (A0_2 : Option Addr) (c0_2 : Nat) (l0_2 : List Int) (A0_3 : Option Addr) (c0_3 : Nat) (l0_3 : List (S36)) (a1 : Int) (a2 : Int) (r : Bool) (w : World) (hr0_2 : Kd.C (Kd.int .i64) w A0_2 l0_2.length l0_2) (hc0_2 : l0_2.length ≤ c0_2) (hr0_3 : Kd.C k36 w A0_3 l0_3.length l0_3) (hc0_3 : l0_3.length ≤ c0_3) (h : laws_FnExactShiftTerm.f k a0_0 a0_1 l0_2 l0_3 a1 a2 = some r) (hr_ : r = true) :
    Calls Try.prog 5 #[.agg #[.int .i64 a0_0, .int .i64 a0_1, .slice A0_2 l0_2.length c0_2, .slice A0_3 l0_3.length c0_3], .int .i64 a1, .int .i64 a2] w fun e w' => e = .returned (.bool r) ∧ Below w.heap.size w w' := by
 have HR0_2 := Aside0.mk hr0_2
 have HC0_2 := Aside0.mk hc0_2
 clear hr0_2 hc0_2
 have HR0_3 := Aside0.mk hr0_3
 have HC0_3 := Aside0.mk hc0_3
 clear hr0_3 hc0_3
 have HA := Aside0.mk (show All w [] w from Below.refl w.heap.size w)
 unfold laws_FnExactShiftTerm.f at h
 have H := Aside0.mk h
 clear h
 go_enter Try.func5, Try.ntmps5
 go_upto_region 2 with (first | ((with_reducible refine gate_dst (N := 3) rfl ?_); (try (refine gate_guard (by rfl) ?_; dsimp only)); refine box_event ?hg (N := 3) ?hd (cs := #[.int .i64 a0_0, .int .i64 a0_1, .slice A0_2 l0_2.length c0_2, .slice A0_3 l0_3.length c0_3]) (t := 36) ?hr ?_; (case hd => rfl); (case hg => rfl); (case hr => first | (go_simp; done) | (go_simp; rfl)); intro ga0 hg w11 hbox hb; have n_ := Aside0.mk (All.box (by first | exact HA.out | exact All.drewN HA.out _ | exact All.drew HA.out) hg hbox hb); clear HA; have HA := n_; clear n_ hg hbox hb))
 have h := H.out
 clear H
 obtain ⟨z0, Z0, h⟩ := Option.bind_eq_some_iff.mp h
 replace Z0 := Aside0.mk Z0
 have H := Aside0.mk h
 clear h
 obtain ⟨ca0, ca1, ca2, ca3⟩ := bc4_ HA.out.1.1
 go_upto_if 22 with (first | ((with_reducible refine gate_callee (f := 15) rfl ?_); refine goesL_ (some 20) rfl rfl Try.func15 (by kernel_rfl) rfl #[.agg #[.int .i64 a0_0, .int .i64 a0_1, .slice A0_2 l0_2.length c0_2, .slice A0_3 l0_3.length c0_3], .int .i64 1048576] rfl la_ ?_; (refine (laws_szTerm.calls k _ _ _ _ l0_2 _ _ l0_3 1048576 z0 _ (Kd.C_below HR0_2.out (by first | exact All.base HA.out | exact pw_below_drewN (All.base HA.out) _ | exact below_drew1 (All.base HA.out))) HC0_2.out (Kd.C_below HR0_3.out (by first | exact All.base HA.out | exact pw_below_drewN (All.base HA.out) _ | exact below_drew1 (All.base HA.out))) HC0_3.out Z0.out).mono ?_); rintro e w12 ⟨rfl, hb⟩; refine ⟨_, rfl, ?_⟩; have n_ := Aside0.mk (All.below (by first | exact HA.out | exact All.drewN HA.out _ | exact All.drew HA.out) hb); clear HA; have HA := n_; clear n_ hb))
 clear ca0 ca1 ca2 ca3
 have h := H.out
 clear H
 by_cases d0 : z0 < 0
 · rw [if_pos d0] at h
   have d0b : decide (z0 < 0) = true := decide_eq_true d0
   (first | rw [d0b] | (simp only [i64_w, i32_w]; rw [d0b]) | skip)
   obtain rfl := Option.some.inj h
   go_wp2
   go_ret
   exact ⟨rfl, (by first | exact All.base HA.out | exact pw_below_drewN (All.base HA.out) _ | exact below_drew1 (All.base HA.out))⟩
 rw [if_neg d0] at h
 have d0b : decide (z0 < 0) = false := decide_eq_false d0
 (first | rw [d0b] | (simp only [i64_w, i32_w]; rw [d0b]) | skip)
 clear d0
 have H := Aside0.mk h
 clear h
 have h := H.out
 clear H
 obtain ⟨⟨p01, p02, p03, p04⟩, A0p, h⟩ := Option.bind_eq_some_iff.mp h
 obtain ⟨⟨s1, s2, s3, s4, s5⟩, As, h⟩ := Option.bind_eq_some_iff.mp h
 obtain ⟨⟨g1, g2, g3, g4, g5⟩, Ag, h⟩ := Option.bind_eq_some_iff.mp h
 obtain ⟨e, Ae, h⟩ := Option.bind_eq_some_iff.mp h
 obtain ⟨e0, E0, h⟩ := Option.bind_eq_some_iff.mp h
 obtain ⟨⟨m01, m03, m04⟩, M0, h⟩ := Option.bind_eq_some_iff.mp h
 obtain ⟨⟨u1, u3, u4⟩, Au, h⟩ := Option.bind_eq_some_iff.mp h
 obtain ⟨hh, Ah, h⟩ := Option.bind_eq_some_iff.mp h
 obtain rfl := hr_
 replace h := Option.some.inj h
 simp only [Bool.and_eq_true, decide_eq_true_eq] at h
 obtain ⟨rfl, rfl, cg, cn, ch, cu⟩ := h
 try dsimp only at cg cn ch cu
 subst cg cu
 replace A0p := Aside0.mk A0p
 replace As := Aside0.mk As
 replace Ag := Aside0.mk Ag
 replace Ae := Aside0.mk Ae
 replace E0 := Aside0.mk E0
 replace M0 := Aside0.mk M0
 replace Au := Aside0.mk Au
 replace Ah := Aside0.mk Ah
 have cnb : decide (m01 < 0) = false := decide_eq_false cn
 have chb : decide (hh < 0) = false := decide_eq_false ch
 have cgb : (g5 != g5) = false := bne_self_eq_false g5
 have chh : (hh != hh) = false := bne_self_eq_false hh
 clear cn ch
 try dsimp only at A0p As Ag Ae E0 M0 Au Ah
 go_upto_region 5 with (fail)
 obtain ⟨ci00, ci01, ci02, ci03⟩ := bc4_ HA.out.1.1
 go_upto_region 6 with (first | ((with_reducible refine gate_callee (f := 18) rfl ?_); refine goesL_ (some 25) rfl rfl Try.func18 (by kernel_rfl) rfl #[.agg #[.int .i64 a0_0, .int .i64 a0_1, .slice A0_2 l0_2.length c0_2, .slice A0_3 l0_3.length c0_3]] rfl la_ ?_; (refine (toT k HR0_2.out HC0_2.out HR0_3.out HC0_3.out _ (by first | exact All.base HA.out | exact pw_below_drewN (All.base HA.out) _ | exact below_drew1 (All.base HA.out)) A0p.out).mono ?_); rintro e w13 ⟨xa0, rfl, hp, hb⟩; refine ⟨_, rfl, ?_⟩; have n_ := Aside0.mk (All.push (by first | exact HA.out | exact All.drewN HA.out _ | exact All.drew HA.out) hb (Ob.term w.heap.size xa0 p03 p04) hp.1 hp.2.1 hp.2.2); clear HA; have HA := n_; clear n_ hp hb) | ((with_reducible refine gate_callee (f := 25) rfl ?_); refine goesL_ (some 28) rfl rfl Try.func25 (by kernel_rfl) rfl #[.agg #[.int .i64 p01, .int .i64 p02, .slice xa0.A2 xa0.n2 xa0.c2, .slice xa0.A3 xa0.n3 xa0.c3], .int .i64 a1, .int .i64 a2] rfl la_ ?_; (refine (specW k (by first | exact All.base HA.out | exact pw_below_drewN (All.base HA.out) _ | exact below_drew1 (All.base HA.out)) (termP_move HA.out.1.1 (fun _ _ _ => rfl)) As.out).mono ?_); rintro e w14 ⟨xw, rfl, hp, hb⟩; refine ⟨_, rfl, ?_⟩; have n_ := Aside0.mk (All.push (by first | exact HA.out | exact All.drewN HA.out _ | exact All.drew HA.out) hb (Ob.term w.heap.size xw s3 s4) hp.1 hp.2.1 hp.2.2); clear HA; have HA := n_; clear n_ hp hb) | ((with_reducible refine gate_dst (N := 8) rfl ?_); (try (refine gate_guard (by rfl) ?_; dsimp only)); refine box_event ?hg (N := 8) ?hd (cs := #[.int .i64 0, .int .i64 0, .slice none 0 0, .slice none 0 0]) (t := 40) ?hr ?_; (case hd => rfl); (case hg => rfl); (case hr => first | (go_simp; done) | (go_simp; rfl)); intro gw hg w15 hbox hb; have n_ := Aside0.mk (All.box (by first | exact HA.out | exact All.drewN HA.out _ | exact All.drew HA.out) hg hbox hb); clear HA; have HA := n_; clear n_ hg hbox hb; obtain ⟨cz0, cz1, cz2, cz3, cz4, cz5, cz6, cz7⟩ := bf4_ HA.out.1.1))
 refine gen_wp (All w _) (All.set4 (l1 := []) HA.out (.int .i64 s1) (.int .i64 s2) (.slice xw.A2 xw.n2 xw.c2) (.slice xw.A3 xw.n3 xw.c3)) ?_
 clear HA
 intro w16 hA
 have HA := Aside0.mk hA
 clear hA
 clear ci00 ci01 ci02 ci03 cz0 cz1 cz2 cz3 cz4 cz5 cz6 cz7
 obtain ⟨ci0, ci1, ci2, ci3⟩ := bc4_ HA.out.2.2.2.1.1
 go_upto_region 7 with (first | ((with_reducible refine gate_callee (f := 18) rfl ?_); refine goesL_ (some 32) rfl rfl Try.func18 (by kernel_rfl) rfl #[.agg #[.int .i64 a0_0, .int .i64 a0_1, .slice A0_2 l0_2.length c0_2, .slice A0_3 l0_3.length c0_3]] rfl la_ ?_; (refine (toT k HR0_2.out HC0_2.out HR0_3.out HC0_3.out _ (by first | exact All.base HA.out | exact pw_below_drewN (All.base HA.out) _ | exact below_drew1 (All.base HA.out)) A0p.out).mono ?_); rintro e w17 ⟨x0, rfl, hp, hb⟩; refine ⟨_, rfl, ?_⟩; have n_ := Aside0.mk (All.push (by first | exact HA.out | exact All.drewN HA.out _ | exact All.drew HA.out) hb (Ob.term w.heap.size x0 p03 p04) hp.1 hp.2.1 hp.2.2); clear HA; have HA := n_; clear n_ hp hb) | ((with_reducible refine gate_dst (N := 10) rfl ?_); (try (refine gate_guard (by rfl) ?_; dsimp only)); refine box_event ?hg (N := 10) ?hd (cs := #[.int .i64 0, .int .i64 0, .slice none 0 0, .slice none 0 0]) (t := 40) ?hr ?_; (case hd => rfl); (case hg => rfl); (case hr => first | (go_simp; done) | (go_simp; rfl)); intro gx0 hg w18 hbox hb; have n_ := Aside0.mk (All.box (by first | exact HA.out | exact All.drewN HA.out _ | exact All.drew HA.out) hg hbox hb); clear HA; have HA := n_; clear n_ hg hbox hb; obtain ⟨cz0, cz1, cz2, cz3, cz4, cz5, cz6, cz7⟩ := bf4_ HA.out.1.1))
 refine gen_wp (All w _) (All.set4 (l1 := []) HA.out (.int .i64 p01) (.int .i64 p02) (.slice x0.A2 x0.n2 x0.c2) (.slice x0.A3 x0.n3 x0.c3)) ?_
 clear HA
 intro w19 hA
 have HA := Aside0.mk hA
 clear hA
 clear ci0 ci1 ci2 ci3 cz0 cz1 cz2 cz3 cz4 cz5 cz6 cz7
 obtain ⟨ci00, ci01, ci02, ci03⟩ := bc4_ HA.out.1.1
 go_upto_region 8 with (first | ((with_reducible refine gate_callee (f := 26) rfl ?_); refine goesL_ (some 37) rfl rfl Try.func26 (by kernel_rfl) rfl #[.agg #[.int .i64 p01, .int .i64 p02, .slice x0.A2 x0.n2 x0.c2, .slice x0.A3 x0.n3 x0.c3], .int .i64 a1, .int .i64 a2] rfl la_ ?_; (refine (implW k (by first | exact All.base HA.out | exact pw_below_drewN (All.base HA.out) _ | exact below_drew1 (All.base HA.out)) (termP_move HA.out.2.1.1 (fun _ _ _ => rfl)) Ag.out).mono ?_); rintro e w20 ⟨xg, rfl, hp, hb⟩; refine ⟨_, rfl, ?_⟩; have n_ := Aside0.mk (All.push (by first | exact HA.out | exact All.drewN HA.out _ | exact All.drew HA.out) hb (Ob.term w.heap.size xg g3 g4) hp.1 hp.2.1 hp.2.2); clear HA; have HA := n_; clear n_ hp hb) | ((with_reducible refine gate_dst (N := 11) rfl ?_); (try (refine gate_guard (by rfl) ?_; dsimp only)); refine box_event ?hg (N := 11) ?hd (cs := #[.int .i64 0, .int .i64 0, .slice none 0 0, .slice none 0 0]) (t := 40) ?hr ?_; (case hd => rfl); (case hg => rfl); (case hr => first | (go_simp; done) | (go_simp; rfl)); intro gg hg w21 hbox hb; have n_ := Aside0.mk (All.box (by first | exact HA.out | exact All.drewN HA.out _ | exact All.drew HA.out) hg hbox hb); clear HA; have HA := n_; clear n_ hg hbox hb; obtain ⟨cz0, cz1, cz2, cz3, cz4, cz5, cz6, cz7⟩ := bf4_ HA.out.1.1))
 refine gen_wp (All w _) (All.set4 (l1 := []) HA.out (.int .i64 g1) (.int .i64 g2) (.slice xg.A2 xg.n2 xg.c2) (.slice xg.A3 xg.n3 xg.c3)) ?_
 clear HA
 intro w22 hA
 have HA := Aside0.mk hA
 clear hA
 clear ci00 ci01 ci02 ci03 cz0 cz1 cz2 cz3 cz4 cz5 cz6 cz7
 obtain ⟨ci0, ci1, ci2, ci3⟩ := bc4_ HA.out.1.1
 obtain ⟨cj0, cj1, cj2, cj3⟩ := bc4_ HA.out.2.2.2.2.1.1
 go_upto_region 10 with (first | ((with_reducible refine gate_callee (f := 20) rfl ?_); refine goesL_ (some 42) rfl rfl Try.func20 (by kernel_rfl) rfl #[.agg #[.int .i64 g1, .int .i64 g2, .slice xg.A2 xg.n2 xg.c2, .slice xg.A3 xg.n3 xg.c3], .agg #[.int .i64 s1, .int .i64 s2, .slice xw.A2 xw.n2 xw.c2, .slice xw.A3 xw.n3 xw.c3]] rfl la_ ?_; (refine (eqT k (termP_move HA.out.2.1.1 (fun _ _ _ => rfl)) (termP_move HA.out.2.2.2.2.2.1.1 (fun _ _ _ => rfl)) Ae.out).mono ?_); rintro e w23 ⟨rfl, hb⟩; refine ⟨_, rfl, ?_⟩; have n_ := Aside0.mk (All.below (by first | exact HA.out | exact All.drewN HA.out _ | exact All.drew HA.out) hb); clear HA; have HA := n_; clear n_ hb))
 clear ci0 ci1 ci2 ci3 cj0 cj1 cj2 cj3
 replace HA := Aside0.mk (All.drew HA.out)
 refine start_ (n := 5) (S := (fun w' => w'.heap[gx0]? = some (.cells #[.int .i64 p01, .int .i64 p02, .slice x0.A2 x0.n2 x0.c2, .slice x0.A3 x0.n3 x0.c3] 40 (0, 0)) ∧ w'.heap[ga0]? = some (.cells #[.int .i64 a0_0, .int .i64 a0_1, .slice A0_2 l0_2.length c0_2, .slice A0_3 l0_3.length c0_3] 36 (0, 0)))) (ds := []) #[false, false, false, false, false] (by kernel_rfl) rfl rfl ⟨HA.out.2.2.1.1, HA.out.2.2.2.2.2.2.2.1.1⟩ (fun hHeld => ?_)
 generalize w23.drew = w24 at HA hHeld ⊢
 refine take_ (i := 0) (N := some 49) (v := ?_) (a' := ?_) #[true, false, false, false, false] rfl rfl (by kernel_rfl) (fun _ _ _ h => h) (Or.inl ⟨by rfl, ?_⟩) hHeld ?_ ?_
 rotate_left
 · rintro w' ⟨s0, s1⟩
   obtain ⟨q0, q1, q2, q3⟩ := bc4_ s0
   go_simp
   with_reducible rfl
 rotate_left
 · simp only [Act.put, List.setIfInBounds_toArray, List.set_cons_zero, List.set_cons_succ, i64_w, i32_w]
   rfl
 refine take_ (i := 1) (N := some 50) (v := ?_) (a' := ?_) #[true, true, false, false, false] rfl rfl (by kernel_rfl) (fun _ _ _ h => h) (Or.inl ⟨by rfl, ?_⟩) hHeld ?_ ?_
 rotate_left
 · rintro w' ⟨s0, s1⟩
   obtain ⟨q0, q1, q2, q3⟩ := bc4_ s1
   go_simp
   with_reducible rfl
 rotate_left
 · simp only [Act.put, List.setIfInBounds_toArray, List.set_cons_zero, List.set_cons_succ, i64_w, i32_w]
   rfl
 refine one_ (i := 2) (N := some 51) #[true, true, true, false, false] rfl rfl (by kernel_rfl) (by decide) (fun K hK => ?_)
 refine goes_ Try.func18 (by kernel_rfl) rfl #[.agg #[.int .i64 a0_0, .int .i64 a0_1, .slice A0_2 l0_2.length c0_2, .slice A0_3 l0_3.length c0_3]] (by rfl) rfl rfl la_ ?_
 refine (toT k HR0_2.out HC0_2.out HR0_3.out HC0_3.out _ (by first | exact All.base HA.out | exact pw_below_drewN (All.base HA.out) _ | exact below_drew1 (All.base HA.out)) A0p.out).mono ?_
 rintro e w25 ⟨xt, rfl, hp, hb⟩
 refine ⟨_, rfl, ?_⟩
 have n_ := Aside0.mk (All.push (by first | exact HA.out | exact All.drewN HA.out _ | exact All.drew HA.out) hb (Ob.term w.heap.size xt p03 p04) hp.1 hp.2.1 hp.2.2)
 clear HA
 have HA := n_
 clear n_ hp hb
 refine hK.out _ _ ⟨HA.out.2.2.2.1.1, HA.out.2.2.2.2.2.2.2.2.1.1⟩ (fun hHeld => ?_)
 clear hK K
 refine norm_ (a' := ?_) ?_ ?_
 rotate_left
 · show Act.put _ (some 51) _ = _
   simp only [Act.put, List.setIfInBounds_toArray, List.set_cons_zero, List.set_cons_succ, i64_w, i32_w]
   rfl
 refine one_ (i := 3) (N := some 52) #[true, true, true, true, false] rfl rfl (by kernel_rfl) (by decide) (fun K hK => ?_)
 refine goes_ Try.func20 (by kernel_rfl) rfl #[.agg #[.int .i64 p01, .int .i64 p02, .slice x0.A2 x0.n2 x0.c2, .slice x0.A3 x0.n3 x0.c3], .agg #[.int .i64 p01, .int .i64 p02, .slice xt.A2 xt.n2 xt.c2, .slice xt.A3 xt.n3 xt.c3]] (by rfl) rfl rfl la_ ?_
 refine (eqT k (termP_move HA.out.2.2.2.2.1.1 (fun _ _ _ => rfl)) (termP_move HA.out.1.1 (fun _ _ _ => rfl)) E0.out).mono ?_
 rintro e w26 ⟨rfl, hb⟩
 refine ⟨_, rfl, ?_⟩
 have n_ := Aside0.mk (All.below (by first | exact HA.out | exact All.drewN HA.out _ | exact All.drew HA.out) hb)
 clear HA
 have HA := n_
 clear n_ hb
 refine hK.out _ _ ⟨HA.out.2.2.2.1.1, HA.out.2.2.2.2.2.2.2.2.1.1⟩ (fun hHeld => ?_)
 clear hK K
 refine norm_ (a' := ?_) ?_ ?_
 rotate_left
 · show Act.put _ (some 52) _ = _
   simp only [Act.put, List.setIfInBounds_toArray, List.set_cons_zero, List.set_cons_succ, i64_w, i32_w]
   rfl
 refine pure_ (i := 4) (N := some 53) (v := ?_) (a' := ?_) #[true, true, true, true, true] rfl rfl (by kernel_rfl) (fun _ _ _ h => h) (Or.inl ⟨by rfl, ?_⟩) ?_ ?_
 rotate_left
 · intro w'
   go_simp
   with_reducible rfl
 rotate_left
 · simp only [Act.put, List.setIfInBounds_toArray, List.set_cons_zero, List.set_cons_succ, i64_w, i32_w]
   rfl
 refine done_ (by kernel_rfl) ?_
 have n_ := Aside0.mk (HA.out.2)
 clear HA hHeld
 have HA := n_
 clear n_
 go_upto_region 12 with (fail)
 go_upto_region 13 with (fail)
 obtain ⟨ci0, ci1, ci2, ci3⟩ := bc4_ HA.out.2.2.1.1
 go_upto_region 14 with (first | ((with_reducible refine gate_callee (f := 23) rfl ?_); refine goesL_ (some 56) rfl rfl Try.func23 (by kernel_rfl) rfl #[.agg #[.int .i64 p01, .int .i64 p02, .slice x0.A2 x0.n2 x0.c2, .slice x0.A3 x0.n3 x0.c3], .int .i64 1] rfl la_ ?_; (refine (markT k (by first | exact All.base HA.out | exact pw_below_drewN (All.base HA.out) _ | exact below_drew1 (All.base HA.out)) (termP_move HA.out.2.2.2.1.1 (fun _ _ _ => rfl)) M0.out).mono ?_); rintro e w27 ⟨rfl, hp, hb, hk⟩; refine ⟨_, rfl, ?_⟩; have n_ := Aside0.mk (All.mark (l1 := [_, _, _]) (o := Ob.term w.heap.size x0 p03 p04) (o' := Ob.term w.heap.size x0 m03 m04) hk (fun _ => hb) (fun _ h => h) rfl rfl hp (by first | exact HA.out | exact All.drewN HA.out _ | exact All.drew HA.out)); clear HA; have HA := n_; clear n_ hp hb hk))
 clear ci0 ci1 ci2 ci3
 obtain ⟨ci0, ci1, ci2, ci3⟩ := bc4_ HA.out.1.1
 obtain ⟨cj0, cj1, cj2, cj3⟩ := bc4_ HA.out.2.2.2.2.1.1
 go_upto_region 16 with (first | (go_at_call 20; (refine (eqT k (termP_move HA.out.2.1.1 (fun _ _ _ => rfl)) (termP_move HA.out.2.2.2.2.2.1.1 (fun _ _ _ => rfl)) Ae.out).mono ?_); rintro e w28 ⟨rfl, hb⟩; have n_ := Aside0.mk (All.below (by first | exact HA.out | exact All.drewN HA.out _ | exact All.drew HA.out) hb); clear HA; have HA := n_; clear n_ hb) | ((with_reducible refine gate_callee (f := 20) rfl ?_); refine goesL_ (some 62) rfl rfl Try.func20 (by kernel_rfl) rfl #[.agg #[.int .i64 g1, .int .i64 g2, .slice xg.A2 xg.n2 xg.c2, .slice xg.A3 xg.n3 xg.c3], .agg #[.int .i64 s1, .int .i64 s2, .slice xw.A2 xw.n2 xw.c2, .slice xw.A3 xw.n3 xw.c3]] rfl la_ ?_; (refine (eqT k (termP_move HA.out.2.1.1 (fun _ _ _ => rfl)) (termP_move HA.out.2.2.2.2.2.1.1 (fun _ _ _ => rfl)) Ae.out).mono ?_); rintro e w29 ⟨rfl, hb⟩; refine ⟨_, rfl, ?_⟩; have n_ := Aside0.mk (All.below (by first | exact HA.out | exact All.drewN HA.out _ | exact All.drew HA.out) hb); clear HA; have HA := n_; clear n_ hb))
 clear ci0 ci1 ci2 ci3 cj0 cj1 cj2 cj3
 go_upto_region 17 with (fail)
 obtain ⟨ci0, ci1, ci2, ci3⟩ := bc4_ HA.out.1.1
 go_upto_region 18 with (first | ((with_reducible refine gate_callee (f := 23) rfl ?_); refine goesL_ (some 72) rfl rfl Try.func23 (by kernel_rfl) rfl #[.agg #[.int .i64 g1, .int .i64 g2, .slice xg.A2 xg.n2 xg.c2, .slice xg.A3 xg.n3 xg.c3], .int .i64 1] rfl la_ ?_; (refine (markT k (by first | exact All.base HA.out | exact pw_below_drewN (All.base HA.out) _ | exact below_drew1 (All.base HA.out)) (termP_move HA.out.2.1.1 (fun _ _ _ => rfl)) Au.out).mono ?_); rintro e w30 ⟨rfl, hp, hb, hk⟩; refine ⟨_, rfl, ?_⟩; have n_ := Aside0.mk (All.mark (l1 := [_]) (o := Ob.term w.heap.size xg g3 g4) (o' := Ob.term w.heap.size xg u3 u4) hk (fun _ => hb) (fun _ h => h) rfl rfl hp (by first | exact HA.out | exact All.drewN HA.out _ | exact All.drew HA.out)); clear HA; have HA := n_; clear n_ hp hb hk))
 clear ci0 ci1 ci2 ci3
 go_upto_region 19 with (fail)
 obtain ⟨ci0, ci1, ci2, ci3⟩ := bc4_ HA.out.1.1
 go_upto_region 24 with (first | ((with_reducible refine gate_callee (f := 24) rfl ?_); refine goesL_ (some 75) rfl rfl Try.func24 (by kernel_rfl) rfl #[.agg #[.int .i64 g1, .int .i64 g2, .slice xg.A2 xg.n2 xg.c2, .slice xg.A3 xg.n3 xg.c3], .int .i64 1] rfl la_ ?_; (refine (heldT k (termP_move HA.out.2.1.1 (fun _ _ _ => rfl)) Ah.out).mono ?_); rintro e w31 ⟨rfl, hb⟩; refine ⟨_, rfl, ?_⟩; have n_ := Aside0.mk (All.below (by first | exact HA.out | exact All.drewN HA.out _ | exact All.drew HA.out) hb); clear HA; have HA := n_; clear n_ hb))
 clear ci0 ci1 ci2 ci3
 obtain ⟨ci00, ci01, ci02, ci03⟩ := bc4_ HA.out.2.2.2.2.2.2.2.1.1
 go_upto_region 25 with (first | ((with_reducible refine gate_callee (f := 18) rfl ?_); refine goesL_ (some 83) rfl rfl Try.func18 (by kernel_rfl) rfl #[.agg #[.int .i64 a0_0, .int .i64 a0_1, .slice A0_2 l0_2.length c0_2, .slice A0_3 l0_3.length c0_3]] rfl la_ ?_; (refine (toT k HR0_2.out HC0_2.out HR0_3.out HC0_3.out _ (by first | exact All.base HA.out | exact pw_below_drewN (All.base HA.out) _ | exact below_drew1 (All.base HA.out)) A0p.out).mono ?_); rintro e w32 ⟨xa0, rfl, hp, hb⟩; refine ⟨_, rfl, ?_⟩; have n_ := Aside0.mk (All.push (by first | exact HA.out | exact All.drewN HA.out _ | exact All.drew HA.out) hb (Ob.term w.heap.size xa0 p03 p04) hp.1 hp.2.1 hp.2.2); clear HA; have HA := n_; clear n_ hp hb) | ((with_reducible refine gate_callee (f := 26) rfl ?_); refine goesL_ (some 86) rfl rfl Try.func26 (by kernel_rfl) rfl #[.agg #[.int .i64 p01, .int .i64 p02, .slice xa0.A2 xa0.n2 xa0.c2, .slice xa0.A3 xa0.n3 xa0.c3], .int .i64 a1, .int .i64 a2] rfl la_ ?_; (refine (implW k (by first | exact All.base HA.out | exact pw_below_drewN (All.base HA.out) _ | exact below_drew1 (All.base HA.out)) (termP_move HA.out.1.1 (fun _ _ _ => rfl)) Ag.out).mono ?_); rintro e w33 ⟨xh, rfl, hp, hb⟩; refine ⟨_, rfl, ?_⟩; have n_ := Aside0.mk (All.push (by first | exact HA.out | exact All.drewN HA.out _ | exact All.drew HA.out) hb (Ob.term w.heap.size xh g3 g4) hp.1 hp.2.1 hp.2.2); clear HA; have HA := n_; clear n_ hp hb) | ((with_reducible refine gate_dst (N := 16) rfl ?_); (try (refine gate_guard (by rfl) ?_; dsimp only)); refine box_event ?hg (N := 16) ?hd (cs := #[.int .i64 0, .int .i64 0, .slice none 0 0, .slice none 0 0]) (t := 40) ?hr ?_; (case hd => rfl); (case hg => rfl); (case hr => first | (go_simp; done) | (go_simp; rfl)); intro gh hg w34 hbox hb; have n_ := Aside0.mk (All.box (by first | exact HA.out | exact All.drewN HA.out _ | exact All.drew HA.out) hg hbox hb); clear HA; have HA := n_; clear n_ hg hbox hb; obtain ⟨cz0, cz1, cz2, cz3, cz4, cz5, cz6, cz7⟩ := bf4_ HA.out.1.1))
 refine gen_wp (All w _) (All.set4 (l1 := []) HA.out (.int .i64 g1) (.int .i64 g2) (.slice xh.A2 xh.n2 xh.c2) (.slice xh.A3 xh.n3 xh.c3)) ?_
 clear HA
 intro w35 hA
 have HA := Aside0.mk hA
 clear hA
 clear ci00 ci01 ci02 ci03 cz0 cz1 cz2 cz3 cz4 cz5 cz6 cz7
 go_upto_region 25 with (fail)
 obtain ⟨ci0, ci1, ci2, ci3⟩ := bc4_ HA.out.1.1
 obtain ⟨cj0, cj1, cj2, cj3⟩ := bc4_ HA.out.2.2.2.2.2.2.2.1.1
 go_upto_region 28 with (first | ((with_reducible refine gate_callee (f := 20) rfl ?_); refine goesL_ (some 91) rfl rfl Try.func20 (by kernel_rfl) rfl #[.agg #[.int .i64 g1, .int .i64 g2, .slice xh.A2 xh.n2 xh.c2, .slice xh.A3 xh.n3 xh.c3], .agg #[.int .i64 s1, .int .i64 s2, .slice xw.A2 xw.n2 xw.c2, .slice xw.A3 xw.n3 xw.c3]] rfl la_ ?_; (refine (eqT k (termP_move HA.out.2.1.1 (fun _ _ _ => rfl)) (termP_move HA.out.2.2.2.2.2.2.2.2.1.1 (fun _ _ _ => rfl)) Ae.out).mono ?_); rintro e w36 ⟨rfl, hb⟩; refine ⟨_, rfl, ?_⟩; have n_ := Aside0.mk (All.below (by first | exact HA.out | exact All.drewN HA.out _ | exact All.drew HA.out) hb); clear HA; have HA := n_; clear n_ hb))
 clear ci0 ci1 ci2 ci3 cj0 cj1 cj2 cj3
 obtain ⟨ci0, ci1, ci2, ci3⟩ := bc4_ HA.out.2.2.2.1.1
 go_wp2_with (first | ((with_reducible refine gate_callee (f := 24) rfl ?_); refine goesL_ (some 100) rfl rfl Try.func24 (by kernel_rfl) rfl #[.agg #[.int .i64 g1, .int .i64 g2, .slice xg.A2 xg.n2 xg.c2, .slice xg.A3 xg.n3 xg.c3], .int .i64 1] rfl la_ ?_; (refine (heldT k (termP_move HA.out.2.2.2.2.1.1 (fun _ _ _ => rfl)) Ah.out).mono ?_); rintro e w37 ⟨rfl, hb⟩; refine ⟨_, rfl, ?_⟩; have n_ := Aside0.mk (All.below (by first | exact HA.out | exact All.drewN HA.out _ | exact All.drew HA.out) hb); clear HA; have HA := n_; clear n_ hb))
 go_ret
 exact ⟨rfl, (by first | exact All.base HA.out | exact pw_below_drewN (All.base HA.out) _ | exact below_drew1 (All.base HA.out))⟩
def laws_FnExactShiftTerm.Pure : Prop := ∀ (a0_0 : Int) (a0_1 : Int) (l0_2 : List Int) (l0_3 : List (S36)) (a1 : Int) (a2 : Int), (Lit.int .i64 a0_0).wf = true → (Lit.int .i64 a0_1).wf = true → ((∀ z ∈ l0_2, (Lit.int .i64 z).wf = true) ∧ l0_2.length ≤ maxLen) → ((∀ z ∈ l0_3, Wf36 z) ∧ l0_3.length ≤ maxLen) → (Lit.int .i64 a1).wf = true → (Lit.int .i64 a2).wf = true → ∃ k, laws_FnExactShiftTerm.f k a0_0 a0_1 l0_2 l0_3 a1 a2 = some true
end Go.Proofs.Ytipfkicndjddgaa.P
end
