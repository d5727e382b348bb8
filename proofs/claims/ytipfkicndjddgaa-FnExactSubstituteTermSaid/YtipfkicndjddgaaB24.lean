/- Terms put in place of a variable. -/
import Derived.Test.YtipfkicndjddgaaK9
import Derived.Test.YtipfkicndjddgaaK10
import Derived.Test.YtipfkicndjddgaaB23
set_option linter.unusedSimpArgs false
set_option linter.unusedVariables false
namespace Go.Proofs.Ytipfkicndjddgaa.Pure
open Go.RowKit Go.Proofs.Ytipfkicndjddgaa.P Go.Proofs.YtipfkicndjddgaaW.PrintWords Go.Proofs.YtipfkicndjddgaaW.PrintLast
theorem sum_fine (l : List S40) (h : ∀ y ∈ l, weight y + 1 ≤ 41 * nodes y) : (l.map fun y => 1 + weight y).sum ≤ 41 * (l.map nodes).sum := by
  induction l with
  | nil => simp
  | cons z zs ih =>
    have h1 := h z (List.mem_cons_self)
    have h2 := ih fun y hy => h y (List.mem_cons_of_mem _ hy)
    simp only [List.map_cons, List.sum_cons]
    omega
theorem fine_weight (x : S40) : ∀ d : Int, FX x d → weight x + 1 ≤ 41 * nodes x := by
  refine indI (P := fun x => ∀ d : Int, FX x d → weight x + 1 ≤ 41 * nodes x) ?_ (SizeOf.sizeOf x + 1) x (by omega)
  clear x
  intro x ih d h
  obtain ⟨h1, h2⟩ := fx_out h
  have t40 : x.f2.length ≤ 40 := by
    unfold nodeV typeOf at h1
    simp only [Bool.and_eq_true] at h1
    have h3 := h1.2.2
    by_cases c : typedV x.f0 = true
    · rw [if_pos c] at h3
      unfold writtenV at h3
      simp only [Bool.and_eq_true] at h3
      have := (inV_iff _ _ _).mp h3.1
      omega
    · rw [if_neg c] at h3
      simp only [decide_eq_true_eq] at h3
      omega
  have hk : ∀ y ∈ x.f3, weight y + 1 ≤ 41 * nodes y := fun y hy => by
    obtain ⟨q, hq, rfl⟩ := List.mem_iff_getElem.mp hy
    exact ih _ hy _ (h2 q hq)
  have hs := sum_fine x.f3 hk
  rw [weight_eq, nodes_eq]
  omega
theorem sum_nodes (l : List S40) (h : ∀ y ∈ l, nodes y ≤ 1 + weight y) : (l.map nodes).sum ≤ (l.map fun y => 1 + weight y).sum := by
  induction l with
  | nil => simp
  | cons z zs ih =>
    have h1 := h z (List.mem_cons_self)
    have h2 := ih fun y hy => h y (List.mem_cons_of_mem _ hy)
    simp only [List.map_cons, List.sum_cons]
    omega
theorem nodes_weight (x : S40) : nodes x ≤ 1 + weight x := by
  refine indI (P := fun x => nodes x ≤ 1 + weight x) ?_ (SizeOf.sizeOf x + 1) x (by omega)
  clear x
  intro x ih
  have hs := sum_nodes x.f3 ih
  rw [weight_eq, nodes_eq]
  omega
theorem put_mul (a b U : Int) : (a + b) * U = a * U + b * U := Int.add_mul a b U
theorem put_sum {s1 s2 d1 d2 n1 n2 U : Int} (h1 : s1 = d1 + n1 * U) (h2 : s2 = d2 + n2 * U) : s1 + s2 = d1 + d2 + (n1 + n2) * U := by
  rw [put_mul, h1, h2]; omega
theorem put_ad {D a : Int} {wk s w t : Nat} (h0 : 0 ≤ D) (a0 : 0 ≤ a) (a2 : a ≤ 2) (hk : 1 + wk ≤ s) (hw : w = t + s) (h : D + 2 * (w : Int) ≤ 2097152) : 0 ≤ D + a ∧ D + a + 2 * (wk : Int) ≤ 2097152 ∧ D + a ≤ 2097152 := by omega
theorem put_small {w t s n : Nat} {D : Int} (hD : 0 ≤ D) (hw : w = t + s) (hs : n ≤ s) (h : D + 2 * (w : Int) ≤ 2097152) : t ≤ 1048576 ∧ s ≤ 1048576 ∧ n ≤ 1048576 ∧ D ≤ 2097152 := by omega
theorem putB {i0 i : Int} {u : S40} (hi0 : 0 ≤ i0) (hi : i = if i0 < 8 then i0 else 8) (hu : FX u 8) (hwu : weight u ≤ 1048576) (x : S40) :
    ∀ D : Int, 0 ≤ D → D + 2 * (weight x : Int) ≤ 2097152 → FX x (8 + D) → ∃ (y : S40) (n : Nat), Ev (fun k => spec_l2Put.f k x.f0 x.f1 x.f2 x.f3 i u.f0 u.f1 u.f2 u.f3 D) (y.f0, y.f1, y.f2, y.f3) ∧ Ev2 (fun k j => impl_renamed.f k x.f0 x.f1 x.f2 x.f3 D (fun z0 z1 z2 z3 z4 => impl_substituted_1.f j z0 z1 z2 z3 z4 i0 u.f0 u.f1 u.f2 u.f3)) (y.f0, y.f1, y.f2, y.f3) ∧ Ev (fun k => spec_l2Uses.f k x.f0 x.f1 x.f2 x.f3 (i + D)) (n : Int) ∧ (nodes y : Int) = nodes x + n * ((nodes u : Int) - 1) ∧ n ≤ nodes x ∧ Small y := by
  refine indI (P := fun x => ∀ D : Int, 0 ≤ D → D + 2 * (weight x : Int) ≤ 2097152 → FX x (8 + D) → ∃ (y : S40) (n : Nat), Ev (fun k => spec_l2Put.f k x.f0 x.f1 x.f2 x.f3 i u.f0 u.f1 u.f2 u.f3 D) (y.f0, y.f1, y.f2, y.f3) ∧ Ev2 (fun k j => impl_renamed.f k x.f0 x.f1 x.f2 x.f3 D (fun z0 z1 z2 z3 z4 => impl_substituted_1.f j z0 z1 z2 z3 z4 i0 u.f0 u.f1 u.f2 u.f3)) (y.f0, y.f1, y.f2, y.f3) ∧ Ev (fun k => spec_l2Uses.f k x.f0 x.f1 x.f2 x.f3 (i + D)) (n : Int) ∧ (nodes y : Int) = nodes x + n * ((nodes u : Int) - 1) ∧ n ≤ nodes x ∧ Small y) ?_ (SizeOf.sizeOf x + 1) x (by omega)
  clear x
  intro x ih D hD hB hF
  have hib : 0 ≤ i ∧ i ≤ 8 := by rw [hi]; split <;> omega
  have hwe := weight_eq x
  have hsl := sum_len x.f3
  have hsn := sum_nodes x.f3 fun y _ => nodes_weight y
  obtain ⟨b2, bs, b3, bD⟩ := put_small hD hwe hsl hB
  by_cases hv : x.f0 = 0
  · obtain ⟨e2, e3, n0, n1⟩ := fx_var hF hv (by omega) (by omega)
    have nl : ∀ N : Int, nodes ⟨0, N, [], []⟩ = 1 := fun N => by rw [nodes_eq]; rfl
    have nx : nodes x = 1 := by rw [nodes_eq, e3]; rfl
    have sl : ∀ N : Int, Small ⟨0, N, [], []⟩ := fun N => small_of (by simp) (by simp) (fun y h => by cases h)
    rw [nx]
    generalize x.f1 = N at n0 n1
    rw [e2, e3, hv]
    clear ih hF hwe hsl hsn hB
    by_cases cN : N = i + D
    · have i8 : i = i0 := by
        by_cases h : i0 < 8
        · rw [hi, if_pos h]
        · rw [if_neg h] at hi
          omega
      obtain ⟨y, z, y1, z1, y2, z2, _, pe, yn⟩ := shiftB (c := 0) (from_ := 0) (p := D) (q := D) (Int.le_refl 0) (by decide) hD (by omega) (Or.inl rfl) (by omega) u 0 (Int.le_refl 0) (by omega) (by simpa using hu)
      obtain rfl := pe rfl
      rw [Int.add_zero] at y1
      refine ⟨y, 1, ?_, ?_, ?_, ?_, Nat.le_refl 1, small_weight y (by omega)⟩
      · refine Ev.step (fun k => ?_) y1
        simp only [spec_l2Put.f]
        rw [l1CopyE _ (by simp), Option.bind_some, w64 (x := i + D) (by omega) (by omega), if_pos ⟨trivial, cN⟩]
      · refine ev2_step (h := fun _ j => impl_shifted.f j u.f0 u.f1 u.f2 u.f3 D 0) (fun k j => ?_) (ev2_right ?_)
        · simp only [impl_renamed.f, if_true, impl_substituted_1.f]
          rw [w64 (x := N - D) (by omega) (by omega), if_pos (by omega)]
        · unfold impl_shifted.f
          exact ev2_diag z1
      · refine Ev.step (f := fun _ => some 1) (fun k => ?_) (Ev.now _)
        simp only [spec_l2Uses.f, if_true]
        rw [if_pos cN]
      · rw [yn]; simp
        omega
    · have im : ∀ M : Int, (if N > i + D then wrap64 (N - 1) else N) = M → Ev2 (fun k j => impl_renamed.f k 0 N [] [] D (fun z0 z1 z2 z3 z4 => impl_substituted_1.f j z0 z1 z2 z3 z4 i0 u.f0 u.f1 u.f2 u.f3)) (0, M, [], []) := fun M hM => by
        refine ev2_step (h := fun _ j => impl_copyTerm.f j 0 M [] []) (fun k j => ?_) (ev2_right (copyLeaf M))
        have h1 : ¬ N - D = i0 := fun h => cN (by rw [hi, if_pos (by omega)]; omega)
        simp only [impl_renamed.f, if_true, impl_substituted_1.f]
        rw [w64 (x := N - D) (by omega) (by omega), if_neg h1, ← hM]
        by_cases c2 : N > i + D
        · rw [if_pos c2, if_pos (by rw [hi] at c2; split at c2 <;> omega)]
        · rw [if_neg c2, if_neg (by rw [hi] at c2; split at c2 <;> omega)]
      refine ⟨⟨0, if N > i + D then wrap64 (N - 1) else N, [], []⟩, 0, ?_, im _ rfl, ?_, ?_, by omega, sl _⟩
      · refine Ev.step (f := fun k => (spec_l2Put.l0 k 0 [] i u.f0 u.f1 u.f2 u.f3 D [] 0).bind fun r => some (0, if N > i + D then wrap64 (N - 1) else N, [], r)) (fun k => ?_) (Ev.bind (a := []) (Ev.step (f := fun _ => some []) (fun k => by simp [spec_l2Put.l0]) (Ev.now _)) (Ev.now _))
        simp only [spec_l2Put.f]
        rw [l1CopyE _ (by simp), Option.bind_some, w64 (x := i + D) (by omega) (by omega), if_neg (fun h => cN h.2)]
        simp
      · refine Ev.step (f := fun _ => some 0) (fun k => ?_) (Ev.now _)
        simp only [spec_l2Uses.f, if_true]
        rw [if_neg cN]
      · rw [nl]; simp
  have hk := (fx_out hF).2
  have lp : ∀ (m j : Nat) (acc : List S40) (s : Int), j + m = x.f3.length → acc.length = j → 0 ≤ s → s + (((x.f3.drop j).map nodes).sum : Int) ≤ 4194304 → ∃ (ys : List S40) (n : Nat), ys.length = m ∧ Ev (fun k => spec_l2Put.l0 k x.f0 x.f3 i u.f0 u.f1 u.f2 u.f3 D acc (j : Int)) (acc ++ ys) ∧ Ev2 (fun k q => impl_renamed.l0 k (fun z0 z1 z2 z3 z4 => impl_substituted_1.f q z0 z1 z2 z3 z4 i0 u.f0 u.f1 u.f2 u.f3) D x.f0 x.f3 acc (j : Int)) (acc ++ ys) ∧ Ev (fun k => spec_l2Uses.l0 k (i + D) s (j : Int) x.f0 x.f1 x.f2 x.f3) (s + n) ∧ ((ys.map nodes).sum : Int) = (((x.f3.drop j).map nodes).sum : Int) + n * ((nodes u : Int) - 1) ∧ n ≤ ((x.f3.drop j).map nodes).sum ∧ ∀ y ∈ ys, Small y := by
    intro m
    induction m with
    | zero =>
      intro j acc s hj ha h0 h1
      have hd : x.f3.drop j = [] := List.drop_eq_nil_of_le (by omega)
      refine ⟨[], 0, rfl, Ev.step (f := fun _ => some acc) (fun k => ?_) (by simpa using Ev.now acc), ev2_step (h := fun _ _ => some acc) (fun k q => ?_) (by simpa using ev2_now acc), Ev.step (f := fun _ => some s) (fun k => ?_) (by simpa using Ev.now s), by rw [hd]; simp, by omega, fun y h => by cases h⟩
      · simp only [spec_l2Put.l0]; rw [if_neg (by omega)]
      · simp only [impl_renamed.l0]; rw [if_neg (by omega)]
      · simp only [spec_l2Uses.l0]; rw [if_neg (by omega)]
    | succ m ihm =>
      intro j acc s hj ha h0 h1
      have jl : j < x.f3.length := hj ▸ Nat.lt_add_of_pos_right (Nat.succ_pos m)
      have hmem : x.f3[j] ∈ x.f3 := List.getElem_mem _
      have hsg := sum_ge hmem
      have ad := adds_le x.f0 (j : Int)
      have i1 : (j : Int) < (x.f3.length : Int) := Int.ofNat_lt.mpr jl
      have i0' : 0 ≤ (j : Int) := Int.natCast_nonneg j
      have jb : j ≤ 1048576 := Nat.le_trans (Nat.le_of_lt jl) b3
      have up : wrap64 ((j : Int) + 1) = ((j + 1 : Nat) : Int) := by clear ih ihm hk hB hwe hsl hsn; rw [w64 (by omega) (by omega)]; omega
      have iy : acc.length < 2199023255552 := by rw [ha]; exact Nat.lt_of_le_of_lt jb (by decide)
      obtain ⟨q0, q1, q2⟩ := put_ad hD ad.1 ad.2 hsg hwe hB
      have wd : wrap64 (D + addsV x.f0 j) = D + addsV x.f0 j := w64 (by clear hB hwe; omega) (by clear hB hwe; omega)
      have hfi := hk j jl
      rw [w64 (x := 8 + D + addsV x.f0 j) (by clear hB hwe; omega) (by clear hB hwe; omega), Int.add_assoc] at hfi
      have wi : wrap64 (i + D + addsV x.f0 j) = i + (D + addsV x.f0 j) := by rw [w64 (by clear hB hwe; omega) (by clear hB hwe; omega), Int.add_assoc]
      have e0 : ((x.f3.drop j).map nodes).sum = nodes x.f3[j] + ((x.f3.drop (j + 1)).map nodes).sum := by rw [List.drop_eq_getElem_cons jl, List.map_cons, List.sum_cons]
      rw [e0] at h1 ⊢
      obtain ⟨y, n, y1, z1, y2, y3, y4, y5⟩ := ih _ hmem (D + addsV x.f0 j) q0 q1 hfi
      obtain ⟨ys, n2, l1, s1, s2, s3, s4, s5, s6⟩ := ihm (j + 1) (acc ++ [y]) (s + n) (by rw [← hj]; exact Nat.add_right_comm j 1 m ▸ rfl) (by simp [ha]) (Int.add_nonneg h0 (Int.natCast_nonneg n)) (by clear ih ihm hk hB hwe hsl hsn y3 hsg; omega)
      have ws : wrap64 (s + (n : Int)) = s + n := w64 (by clear ih ihm hk hB hwe hsl hsn y3 hsg s4; omega) (by clear ih ihm hk hB hwe hsl hsn y3 hsg s4; omega)
      have ey : (⟨y.f0, y.f1, y.f2, y.f3⟩ : S40) = y := by cases y; rfl
      have ec : acc ++ y :: ys = (acc ++ [y]) ++ ys := by simp
      refine ⟨y :: ys, n + n2, by simp [l1], ?_, ?_, ?_, ?_, Nat.add_le_add y4 s5, ?_⟩
      · rw [ec]
        refine Ev.step (f := fun k => (spec_l2Adds.f k x.f0 j).bind fun dd => (spec_l2Put.f k x.f3[j].f0 x.f3[j].f1 x.f3[j].f2 x.f3[j].f3 i u.f0 u.f1 u.f2 u.f3 (wrap64 (D + dd))).bind fun b => spec_l2Put.l0 k x.f0 x.f3 i u.f0 u.f1 u.f2 u.f3 D (acc ++ [⟨b.1, b.2.1, b.2.2.1, b.2.2.2⟩]) ((j + 1 : Nat) : Int)) (fun k => ?_) (Ev.bind (specAddsE x.f0 j) ?_)
        · simp only [spec_l2Put.l0, rdI_get jl]
          rw [if_pos i1, if_pos i0', if_pos iy, up]
        · rw [wd]
          refine Ev.bind y1 ?_
          dsimp only
          rw [ey]
          exact s1
      · rw [ec]
        refine ev2_step (h := fun k q => (impl_adds.f k x.f0 j).bind fun dd => (impl_renamed.f k x.f3[j].f0 x.f3[j].f1 x.f3[j].f2 x.f3[j].f3 (wrap64 (D + dd)) (fun z0 z1 z2 z3 z4 => impl_substituted_1.f q z0 z1 z2 z3 z4 i0 u.f0 u.f1 u.f2 u.f3)).bind fun b => impl_renamed.l0 k (fun z0 z1 z2 z3 z4 => impl_substituted_1.f q z0 z1 z2 z3 z4 i0 u.f0 u.f1 u.f2 u.f3) D x.f0 x.f3 (acc ++ [⟨b.1, b.2.1, b.2.2.1, b.2.2.2⟩]) ((j + 1 : Nat) : Int)) (fun k q => ?_) (ev2_bind (implAddsE x.f0 j) ?_)
        · simp only [impl_renamed.l0, rdI_get jl]
          rw [if_pos i1, if_pos i0', if_pos iy, up]
        · rw [wd]
          refine ev2_bind z1 ?_
          dsimp only
          rw [ey]
          exact s2
      · refine Ev.step (f := fun k => (spec_l2Adds.f k x.f0 j).bind fun dd => (spec_l2Uses.f k x.f3[j].f0 x.f3[j].f1 x.f3[j].f2 x.f3[j].f3 (wrap64 (i + D + dd))).bind fun t => spec_l2Uses.l0 k (i + D) (wrap64 (s + t)) ((j + 1 : Nat) : Int) x.f0 x.f1 x.f2 x.f3) (fun k => ?_) (Ev.bind (specAddsE x.f0 j) ?_)
        · simp only [spec_l2Uses.l0, rdI_get jl]
          rw [if_pos i1, if_pos i0', up]
        · rw [wi]
          refine Ev.bind y2 ?_
          rw [ws, show s + ((n + n2 : Nat) : Int) = s + n + n2 by rw [Int.natCast_add]; exact (Int.add_assoc _ _ _).symm]
          exact s3
      · simp only [List.map_cons, List.sum_cons, Int.natCast_add]
        exact put_sum y3 s4
      · intro v hv
        rcases List.mem_cons.mp hv with rfl | h
        · exact y5
        · exact s6 v h
  have hs0 : ((x.f3.drop 0).map nodes).sum ≤ 1048576 := by rw [List.drop_zero]; exact Nat.le_trans hsn bs
  obtain ⟨ys, n, l1, s1, s2, s3, s4, s5, s6⟩ := lp x.f3.length 0 [] 0 (Nat.zero_add _) rfl (Int.le_refl 0) (by clear hB hwe lp ih hk; omega)
  rw [List.drop_zero] at s4 s5
  rw [Int.zero_add] at s3
  refine ⟨⟨x.f0, x.f1, x.f2, ys⟩, n, ?_, ?_, ?_, ?_, ?_, small_of b2 (by simp only [l1]; exact b3) s6⟩
  · refine Ev.step (f := fun k => (spec_l2Put.l0 k x.f0 x.f3 i u.f0 u.f1 u.f2 u.f3 D [] 0).bind fun r => some (x.f0, x.f1, x.f2, r)) (fun k => ?_) (Ev.bind (by simpa using s1) (Ev.now _))
    simp only [spec_l2Put.f]
    rw [l1CopyE _ (Nat.le_trans b2 (by decide)), Option.bind_some, if_neg (fun h => hv h.1), if_neg (fun h => hv h.1)]
  · refine ev2_step (h := fun k q => (impl_renamed.l0 k (fun z0 z1 z2 z3 z4 => impl_substituted_1.f q z0 z1 z2 z3 z4 i0 u.f0 u.f1 u.f2 u.f3) D x.f0 x.f3 [] 0).bind fun r => some (x.f0, x.f1, x.f2, r)) (fun k q => ?_) (ev2_bind (by simpa using s2) (ev2_now _))
    simp only [impl_renamed.f]
    rw [if_neg hv, cloneE _ (Nat.le_trans b2 (by decide)), Option.bind_some]
  · refine Ev.step (fun k => ?_) s3
    simp only [spec_l2Uses.f]
    rw [if_neg hv]; rfl
  · rw [nodes_eq, nodes_eq x]
    simp only [Int.natCast_add, s4]
    omega
  · rw [nodes_eq]; exact Nat.le_trans s5 (Nat.le_add_left _ _)
theorem writtenFx2 (x : S40) (hs : Small x) : ∃ v : Bool, (v = true → FX x 8) ∧ Ev (fun k => spec_IsWritten.f k x.f0 x.f1 x.f2 x.f3) v ∧ Ev (fun k => impl_IsWritten.f k x.f0 x.f1 x.f2 x.f3) v ∧ (v = true → nodes x ≤ 400) := by
  obtain ⟨v, hv0, hv1, hv2, hv3⟩ := writtenBoth x hs
  refine ⟨v, hv0, hv1, ?_, hv3⟩
  unfold impl_IsWritten.f
  refine Ev.bind hv2 ?_
  cases v
  · simpa using Ev.now false
  · simp only [if_true, decide_eq_true (show (nodes x : Int) ≤ 400 by have := hv3 rfl; omega)]
    exact Ev.now _
end Go.Proofs.Ytipfkicndjddgaa.Pure
