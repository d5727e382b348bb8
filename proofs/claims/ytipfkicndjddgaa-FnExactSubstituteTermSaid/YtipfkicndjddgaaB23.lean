/- Terms that were shifted. -/
import Derived.Test.YtipfkicndjddgaaK8
import Derived.Test.YtipfkicndjddgaaM12
import Derived.Test.YtipfkicndjddgaaM11
set_option linter.unusedSimpArgs false
set_option linter.unusedVariables false
namespace Go.Proofs.Ytipfkicndjddgaa.Pure
open Go.RowKit Go.Proofs.Ytipfkicndjddgaa.P Go.Proofs.YtipfkicndjddgaaW.PrintWords Go.Proofs.YtipfkicndjddgaaW.PrintLast
abbrev FX (x : S40) (d : Int) : Prop := Fine (fun N => inV N (-1) 15) writtenV x d
theorem fx_out {x : S40} {d : Int} (h : FX x d) : nodeV (fun N => inV N (-1) 15) writtenV x d = true ∧ ∀ (q : Nat) (h : q < x.f3.length), FX (x.f3[q]) (wrap64 (d + addsV x.f0 q)) := by
  cases h with
  | mk _ _ h1 h2 => exact ⟨h1, h2⟩
theorem fx_var {x : S40} {d : Int} (h : FX x d) (h0 : x.f0 = 0) (d0 : 1 ≤ d) (d1 : d ≤ 9223372036854) : x.f2 = [] ∧ x.f3 = [] ∧ 0 ≤ x.f1 ∧ x.f1 ≤ d - 1 := by
  have h1 := (fx_out h).1
  unfold nodeV gradeV typeOf at h1
  rw [if_pos h0, h0] at h1
  simp only [Bool.and_eq_true, decide_eq_true_eq] at h1
  obtain ⟨a, b, c⟩ := h1
  rw [inV_iff, w64 (by omega) (by omega)] at b
  have e3 : x.f3.length = 0 := by
    have : manyV 0 = 0 := by decide
    omega
  have e2 : x.f2.length = 0 := by
    rw [if_neg (by decide)] at c
    simp only [decide_eq_true_eq] at c
    omega
  exact ⟨List.length_eq_zero_iff.mp e2, List.length_eq_zero_iff.mp e3, b.1, b.2⟩
theorem fx_big {N d : Int} (hN : d ≤ N) (d0 : 1 ≤ d) (d1 : d ≤ 9223372036854) : ¬ FX ⟨0, N, [], []⟩ d := fun h => by
  have := (fx_var h rfl d0 d1).2.2.2
  simp at this
  omega
theorem fx_kid {x : S40} {d : Int} {q : Nat} (h : q < x.f3.length) (hn : ¬ FX (x.f3[q]) (wrap64 (d + addsV x.f0 q))) : ¬ FX x d := fun hx => hn ((fx_out hx).2 q h)
theorem cloneE (l : List Int) (h : l.length ≤ 4194304) : slices_Clone_int_int.f l = some l := by
  unfold slices_Clone_int_int.f
  rw [if_pos (by simp only [List.length_nil]; omega)]
  simp
theorem l1CopyE (l : List Int) (h : l.length ≤ 4194304) : spec_l1Copy.f l = some l := by
  unfold spec_l1Copy.f
  simp only [Option.bind_some]
  rw [if_pos (by simp only [List.length_nil]; omega)]
  simp
theorem copyLeaf (N : Int) : Ev (fun k => impl_copyTerm.f k 0 N [] []) (0, N, [], []) := by
  refine Ev.step (f := fun k => (impl_copyTerm.l0 k [] [] 0).bind fun r => some (0, N, [], r)) (fun k => by simp only [impl_copyTerm.f]; rw [cloneE _ (by simp)]; rfl) ?_
  refine Ev.bind (a := []) (Ev.step (f := fun _ => some []) (fun k => by simp [impl_copyTerm.l0]) (Ev.now _)) ?_
  exact Ev.now _
theorem specAddsE (op i : Int) : Ev (fun k => spec_l2Adds.f k op i) (addsV op i) := ⟨1, fun k hk => by obtain ⟨k, rfl⟩ : ∃ q, k = q + 1 := ⟨k - 1, by omega⟩; exact specAdds k op i⟩
theorem implAddsE (op i : Int) : Ev2 (fun k _ => impl_adds.f k op i) (addsV op i) := ⟨2, fun k hk j hj => by obtain ⟨k, rfl⟩ : ∃ q, k = q + 2 := ⟨k - 2, by omega⟩; exact implAdds k op i⟩
theorem small_i {i n s w t : Nat} {D : Int} (h : i < n) (h1 : n ≤ s) (h2 : w = t + s) (hD : 0 ≤ D) (h3 : D + 2 * (w : Int) ≤ 4194304) : i < 2199023255552 := by omega
theorem shiftB {c from_ p q : Int} (h0 : 0 ≤ from_) (hc : c = if from_ < 8 then from_ else 8) (hp0 : 0 ≤ p) (hp : p ≤ 4194304) (hpq : p = q ∨ (p = 8 ∧ 8 ≤ q)) (hq : q ≤ 4194304) (x : S40) :
    ∀ D : Int, 0 ≤ D → D + 2 * (weight x : Int) ≤ 4194304 → FX x (8 + D) → ∃ y z : S40, Ev (fun k => spec_l2Shift.f k x.f0 x.f1 x.f2 x.f3 p (c + D)) (y.f0, y.f1, y.f2, y.f3) ∧ Ev2 (fun k j => impl_renamed.f k x.f0 x.f1 x.f2 x.f3 D (fun z0 z1 z2 z3 z4 => impl_shifted_1.f j z0 z1 z2 z3 z4 from_ q)) (z.f0, z.f1, z.f2, z.f3) ∧ weight y = weight x ∧ weight z = weight x ∧ (y = z ∨ ¬ FX y (8 + D) ∧ ¬ FX z (8 + D)) ∧ (p = q → y = z) ∧ nodes y = nodes x := by
  refine indI (P := fun x => ∀ D : Int, 0 ≤ D → D + 2 * (weight x : Int) ≤ 4194304 → FX x (8 + D) → ∃ y z : S40, Ev (fun k => spec_l2Shift.f k x.f0 x.f1 x.f2 x.f3 p (c + D)) (y.f0, y.f1, y.f2, y.f3) ∧ Ev2 (fun k j => impl_renamed.f k x.f0 x.f1 x.f2 x.f3 D (fun z0 z1 z2 z3 z4 => impl_shifted_1.f j z0 z1 z2 z3 z4 from_ q)) (z.f0, z.f1, z.f2, z.f3) ∧ weight y = weight x ∧ weight z = weight x ∧ (y = z ∨ ¬ FX y (8 + D) ∧ ¬ FX z (8 + D)) ∧ (p = q → y = z) ∧ nodes y = nodes x) ?_ (SizeOf.sizeOf x + 1) x (by omega)
  clear x
  intro x ih D hD hB hF
  have hcb : 0 ≤ c ∧ c ≤ 8 := by rw [hc]; split <;> omega
  have hq0 : 0 ≤ q := by omega
  have hwe := weight_eq x
  have hsl := sum_len x.f3
  by_cases hv : x.f0 = 0
  · obtain ⟨e2, e3, n0, n1⟩ := fx_var hF hv (by omega) (by omega)
    have w0 : weight x = 0 := by rw [hwe, e2, e3]; rfl
    have wl : ∀ N : Int, weight ⟨0, N, [], []⟩ = 0 := fun N => by rw [weight_eq]; rfl
    have nl : ∀ N : Int, nodes ⟨0, N, [], []⟩ = 1 := fun N => by rw [nodes_eq]; rfl
    have nx : nodes x = 1 := by rw [nodes_eq, e3]; rfl
    generalize x.f1 = N at n0 n1
    rw [e2, e3, hv]
    have sp : ∀ M : Int, (if (0 : Int) = 0 ∧ N ≥ c + D then wrap64 (N + p) else N) = M → Ev (fun k => spec_l2Shift.f k 0 N [] [] p (c + D)) (0, M, [], []) := fun M hM => by
      refine Ev.step (f := fun k => (spec_l2Shift.l0 k 0 [] p (c + D) [] 0).bind fun r => some (0, M, [], r)) (fun k => by rw [← hM]; simp only [spec_l2Shift.f]; rw [l1CopyE _ (by simp)]; simp) ?_
      refine Ev.bind (a := []) (Ev.step (f := fun _ => some []) (fun k => by simp [spec_l2Shift.l0]) (Ev.now _)) ?_
      exact Ev.now _
    have im : ∀ M : Int, (if wrap64 (N - D) ≥ from_ then wrap64 (N + q) else N) = M → Ev2 (fun k j => impl_renamed.f k 0 N [] [] D (fun z0 z1 z2 z3 z4 => impl_shifted_1.f j z0 z1 z2 z3 z4 from_ q)) (0, M, [], []) := fun M hM => by
      refine ev2_step (h := fun _ j => impl_copyTerm.f j 0 M [] []) (fun k j => ?_) (ev2_right (copyLeaf M))
      simp only [impl_renamed.f, if_true, impl_shifted_1.f]
      rw [← hM]
      split <;> rfl
    rw [w64 (x := N + p) (by omega) (by omega)] at sp
    rw [w64 (x := N - D) (by omega) (by omega), w64 (x := N + q) (by omega) (by omega)] at im
    by_cases s : N - D ≥ from_
    · have ec : c = from_ := by rw [hc, if_pos (by omega)]
      refine ⟨⟨0, N + p, [], []⟩, ⟨0, N + q, [], []⟩, sp _ (if_pos ⟨rfl, by omega⟩), im _ (if_pos s), by rw [wl, w0], by rw [wl, w0], ?_, fun e => by rw [e], by rw [nl, nx]⟩
      rcases hpq with rfl | ⟨rfl, h8⟩
      · exact Or.inl rfl
      · exact Or.inr ⟨fx_big (by omega) (by omega) (by omega), fx_big (by omega) (by omega) (by omega)⟩
    · refine ⟨⟨0, N, [], []⟩, ⟨0, N, [], []⟩, sp _ (if_neg fun h => ?_), im _ (if_neg s), by rw [wl, w0], by rw [wl, w0], Or.inl rfl, fun _ => rfl, by rw [nl, nx]⟩
      have := h.2
      rw [hc] at this
      split at this <;> omega
  have hk := (fx_out hF).2
  have lp : ∀ (m i : Nat) (ay az : List S40), i + m = x.f3.length → ay.length = i → az.length = i → ∃ ys zs : List S40, ys.length = m ∧ zs.length = m ∧ Ev (fun k => spec_l2Shift.l0 k x.f0 x.f3 p (c + D) ay (i : Int)) (ay ++ ys) ∧ Ev2 (fun k j => impl_renamed.l0 k (fun z0 z1 z2 z3 z4 => impl_shifted_1.f j z0 z1 z2 z3 z4 from_ q) D x.f0 x.f3 az (i : Int)) (az ++ zs) ∧ (ys.map fun y => 1 + weight y).sum = ((x.f3.drop i).map fun y => 1 + weight y).sum ∧ (zs.map fun y => 1 + weight y).sum = ((x.f3.drop i).map fun y => 1 + weight y).sum ∧ (ys = zs ∨ ∃ (r : Nat) (h1 : r < ys.length) (h2 : r < zs.length), ¬ FX ys[r] (wrap64 (8 + D + addsV x.f0 ((i + r : Nat) : Int))) ∧ ¬ FX zs[r] (wrap64 (8 + D + addsV x.f0 ((i + r : Nat) : Int)))) ∧ (p = q → ys = zs) ∧ (ys.map nodes).sum = ((x.f3.drop i).map nodes).sum := by
    intro m
    induction m with
    | zero =>
      intro i ay az hi hy hz
      refine ⟨[], [], rfl, rfl, Ev.step (f := fun _ => some ay) (fun k => ?_) (by simpa using Ev.now ay), ev2_step (h := fun _ _ => some az) (fun k j => ?_) (by simpa using ev2_now az), ?_, ?_, Or.inl rfl, fun _ => rfl, by rw [List.drop_eq_nil_of_le (by omega)]⟩
      · simp only [spec_l2Shift.l0]; rw [if_neg (by omega)]
      · simp only [impl_renamed.l0]; rw [if_neg (by omega)]
      · rw [List.drop_eq_nil_of_le (by omega)]
      · rw [List.drop_eq_nil_of_le (by omega)]
    | succ m ihm =>
      intro i ay az hi hy hz
      have hmem : x.f3[i] ∈ x.f3 := List.getElem_mem _
      have hsg := sum_ge hmem
      have ad := adds_le x.f0 (i : Int)
      have up : wrap64 ((i : Int) + 1) = ((i + 1 : Nat) : Int) := by rw [w64 (by omega) (by omega)]; omega
      have i1 : (i : Int) < (x.f3.length : Int) := by omega
      have i0 : 0 ≤ (i : Int) := Int.natCast_nonneg i
      have il : i < x.f3.length := hi ▸ Nat.lt_add_of_pos_right (Nat.succ_pos m)
      have ib : i < 2199023255552 := small_i il hsl hwe hD hB
      have iy : ay.length < 2199023255552 := hy ▸ ib
      have iz : az.length < 2199023255552 := hz ▸ ib
      have hfi := hk i (by omega)
      rw [w64 (by omega) (by omega), Int.add_assoc] at hfi
      obtain ⟨y, z, y1, z1, y2, z2, yz, pe, yn⟩ := ih _ hmem (D + addsV x.f0 i) (by omega) (by omega) hfi
      obtain ⟨ys, zs, l1, l2, s1, s2, w1, w2, hh, pes, ysn⟩ := ihm (i + 1) (ay ++ [y]) (az ++ [z]) (by omega) (by simp [hy]) (by simp [hz])
      have ey : (⟨y.f0, y.f1, y.f2, y.f3⟩ : S40) = y := by cases y; rfl
      have ez : (⟨z.f0, z.f1, z.f2, z.f3⟩ : S40) = z := by cases z; rfl
      refine ⟨y :: ys, z :: zs, by simp [l1], by simp [l2], ?_, ?_, ?_, ?_, ?_, fun e => by rw [pe e, pes e], by rw [List.drop_eq_getElem_cons (by exact il)]; simp only [List.map_cons, List.sum_cons, yn, ysn]⟩
      · refine Ev.step (f := fun k => (spec_l2Adds.f k x.f0 i).bind fun dd => (spec_l2Shift.f k x.f3[i].f0 x.f3[i].f1 x.f3[i].f2 x.f3[i].f3 p (wrap64 (c + D + dd))).bind fun b => spec_l2Shift.l0 k x.f0 x.f3 p (c + D) (ay ++ [⟨b.1, b.2.1, b.2.2.1, b.2.2.2⟩]) ((i + 1 : Nat) : Int)) (fun k => ?_) (Ev.bind (specAddsE x.f0 i) ?_)
        · simp only [spec_l2Shift.l0, rdI_get (show i < x.f3.length by omega)]
          rw [if_pos i1, if_pos i0, if_pos iy, up]
        · rw [w64 (by omega) (by omega), Int.add_assoc]
          refine Ev.bind y1 ?_
          dsimp only
          rw [ey]
          rw [show ay ++ y :: ys = (ay ++ [y]) ++ ys by simp]
          exact s1
      · refine ev2_step (h := fun k j => (impl_adds.f k x.f0 i).bind fun dd => (impl_renamed.f k x.f3[i].f0 x.f3[i].f1 x.f3[i].f2 x.f3[i].f3 (wrap64 (D + dd)) (fun z0 z1 z2 z3 z4 => impl_shifted_1.f j z0 z1 z2 z3 z4 from_ q)).bind fun b => impl_renamed.l0 k (fun z0 z1 z2 z3 z4 => impl_shifted_1.f j z0 z1 z2 z3 z4 from_ q) D x.f0 x.f3 (az ++ [⟨b.1, b.2.1, b.2.2.1, b.2.2.2⟩]) ((i + 1 : Nat) : Int)) (fun k j => ?_) (ev2_bind (implAddsE x.f0 i) ?_)
        · simp only [impl_renamed.l0, rdI_get (show i < x.f3.length by omega)]
          rw [if_pos i1, if_pos i0, if_pos iz, up]
        · rw [w64 (by omega) (by omega)]
          refine ev2_bind z1 ?_
          dsimp only
          rw [ez]
          rw [show az ++ z :: zs = (az ++ [z]) ++ zs by simp]
          exact s2
      · rw [List.drop_eq_getElem_cons (by omega)]; simp only [List.map_cons, List.sum_cons, w1, y2]
      · rw [List.drop_eq_getElem_cons (by omega)]; simp only [List.map_cons, List.sum_cons, w2, z2]
      · rcases yz with rfl | ⟨f1, f2⟩
        · rcases hh with rfl | ⟨r, r1, r2, f1, f2⟩
          · exact Or.inl rfl
          · refine Or.inr ⟨r + 1, by simp; omega, by simp; omega, ?_⟩
            rw [show i + (r + 1) = i + 1 + r by omega]
            exact ⟨f1, f2⟩
        · refine Or.inr ⟨0, by simp, by simp, ?_⟩
          rw [Nat.add_zero, w64 (by omega) (by omega), Int.add_assoc]
          exact ⟨f1, f2⟩
  obtain ⟨ys, zs, l1, l2, s1, s2, w1, w2, hh, pes, ysn⟩ := lp x.f3.length 0 [] [] (by omega) rfl rfl
  rw [List.drop_zero] at w1 w2 ysn
  refine ⟨⟨x.f0, x.f1, x.f2, ys⟩, ⟨x.f0, x.f1, x.f2, zs⟩, ?_, ?_, by rw [weight_eq, hwe]; simp only [w1], by rw [weight_eq, hwe]; simp only [w2], ?_, fun e => by rw [pes e], by rw [nodes_eq, nodes_eq x]; simp only [ysn]⟩
  · refine Ev.step (f := fun k => (spec_l2Shift.l0 k x.f0 x.f3 p (c + D) [] 0).bind fun r => some (x.f0, x.f1, x.f2, r)) (fun k => ?_) (Ev.bind (by simpa using s1) (Ev.now _))
    simp only [spec_l2Shift.f]
    rw [l1CopyE _ (by omega), Option.bind_some, if_neg (fun h => hv h.1)]
  · refine ev2_step (h := fun k j => (impl_renamed.l0 k (fun z0 z1 z2 z3 z4 => impl_shifted_1.f j z0 z1 z2 z3 z4 from_ q) D x.f0 x.f3 [] 0).bind fun r => some (x.f0, x.f1, x.f2, r)) (fun k j => ?_) (ev2_bind (by simpa using s2) (ev2_now _))
    simp only [impl_renamed.f]
    rw [if_neg hv, cloneE _ (by omega), Option.bind_some]
  · rcases hh with rfl | ⟨r, r1, r2, f1, f2⟩
    · exact Or.inl rfl
    · rw [Nat.zero_add] at f1 f2
      exact Or.inr ⟨fx_kid (x := ⟨x.f0, x.f1, x.f2, ys⟩) r1 f1, fx_kid (x := ⟨x.f0, x.f1, x.f2, zs⟩) r2 f2⟩
theorem writtenFx (x : S40) (hs : Small x) : ∃ v : Bool, (v = true → FX x 8) ∧ Ev (fun k => spec_IsWritten.f k x.f0 x.f1 x.f2 x.f3) v ∧ Ev (fun k => impl_IsWritten.f k x.f0 x.f1 x.f2 x.f3) v := by
  obtain ⟨v, hv0, hv1, hv2, hv3⟩ := writtenBoth x hs
  refine ⟨v, hv0, hv1, ?_⟩
  unfold impl_IsWritten.f
  refine Ev.bind hv2 ?_
  cases v
  · simpa using Ev.now false
  · simp only [if_true, decide_eq_true (show (nodes x : Int) ≤ 400 by have := hv3 rfl; omega)]
    exact Ev.now _
theorem weight_zero : weight ⟨0, 0, [], []⟩ = 0 := by rw [weight_eq]; rfl
end Go.Proofs.Ytipfkicndjddgaa.Pure
