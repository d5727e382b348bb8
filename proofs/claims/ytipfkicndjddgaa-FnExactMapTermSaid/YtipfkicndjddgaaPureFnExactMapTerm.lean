/- FnExactMapTerm: the pure statement. -/
import Derived.Test.YtipfkicndjddgaaPf4
import Derived.Test.YtipfkicndjddgaaM12
import Derived.Test.YtipfkicndjddgaaM11
set_option linter.unusedSimpArgs false
set_option linter.unusedVariables false
namespace Go.Proofs.Ytipfkicndjddgaa.Pure
open Go.RowKit Go.Proofs.Ytipfkicndjddgaa.P Go.Proofs.YtipfkicndjddgaaW.PrintWords Go.Proofs.YtipfkicndjddgaaW.PrintLast
def outM : Option S40 → Int × Int × List Int × List S40 × Bool
  | none => (0, 0, [], [], false)
  | some y => (y.f0, y.f1, y.f2, y.f3, true)
theorem mapV_le (f xs : List Int) : (mapV f xs).length ≤ xs.length := by
  unfold mapV
  split
  · cases c : mapAll f xs with
    | none => simp
    | some ys => simp [mapAll_len f xs ys c]
  · simp
theorem l3Mapped_eq (f : List Int) (g : Int) (hg : 0 ≤ g) : spec_l3Mapped.f f g = some (decide (g < (f.length : Int) ∧ 0 ≤ rd f g ∧ rd f g ≤ 15)) := by
  unfold spec_l3Mapped.f
  rw [if_neg (by omega)]
  by_cases c : g < (f.length : Int)
  · rw [if_pos c, if_pos hg, in_eq, Option.bind_some]
    congr 1
    rw [Bool.eq_iff_iff, inV_iff, decide_eq_true_eq]
    exact ⟨fun h => ⟨c, h⟩, fun h => h.2⟩
  · rw [if_neg c, decide_eq_false (fun h => c h.1)]
theorem mapBoth (f : List Int) (hf : f.length ≤ 1048576) (x : S40) (hx : weight x ≤ 1048576) : ∃ r : Option S40, Ev (fun k => spec_l3Map.f k f x.f0 x.f1 x.f2 x.f3 x.f0 x.f1) (outM r) ∧ Ev (fun k => impl_mapTerm.f k f x.f0 x.f1 x.f2 x.f3) (outM r) ∧ ∀ y, r = some y → weight y ≤ weight x := by
  revert hx
  refine indI (P := fun x => weight x ≤ 1048576 → ∃ r : Option S40, Ev (fun k => spec_l3Map.f k f x.f0 x.f1 x.f2 x.f3 x.f0 x.f1) (outM r) ∧ Ev (fun k => impl_mapTerm.f k f x.f0 x.f1 x.f2 x.f3) (outM r) ∧ ∀ y, r = some y → weight y ≤ weight x) ?_ (SizeOf.sizeOf x + 1) x (by omega)
  clear x
  intro x ih hx
  have hwe := weight_eq x
  have hsl := sum_len x.f3
  have lp : ∀ (m i : Nat) (acc : List S40), i + m = x.f3.length → acc.length = i → ∃ r : Option (List S40), Ev (fun k => spec_l3Map.l0 k f x.f3 acc (i : Int)) (r.map (acc ++ ·)) ∧ Ev (fun k => impl_mapTerm.l0 k f x.f3 acc (i : Int)) (r.map (acc ++ ·)) ∧ ∀ ys, r = some ys → (ys.map fun y => 1 + weight y).sum ≤ ((x.f3.drop i).map fun y => 1 + weight y).sum := by
    intro m
    induction m with
    | zero =>
      intro i acc hi ha
      refine ⟨some [], Ev.step (f := fun _ => some (some acc)) (fun k => ?_) (by simpa using Ev.now (some acc)), Ev.step (f := fun _ => some (some acc)) (fun k => ?_) (by simpa using Ev.now (some acc)), fun ys h => by obtain rfl := Option.some.inj h; simp⟩
      · simp only [spec_l3Map.l0]; rw [if_neg (by omega)]
      · simp only [impl_mapTerm.l0]; rw [if_neg (by omega)]
    | succ m ihm =>
      intro i acc hi ha
      have hmem : x.f3[i] ∈ x.f3 := List.getElem_mem _
      have wi : weight x.f3[i] ≤ 1048576 := by have := sum_ge hmem; omega
      obtain ⟨rk, e1, e2, e3⟩ := ih _ hmem wi
      have up : wrap64 ((i : Int) + 1) = ((i + 1 : Nat) : Int) := by rw [w64 (by omega) (by omega)]; omega
      have i1 : (i : Int) < (x.f3.length : Int) := by omega
      have i0 : 0 ≤ (i : Int) := by omega
      have st1 : ∀ {r : Option (List S40)}, Ev (fun k => (if (outM rk).2.2.2.2 = true then spec_l3Map.l0 k f x.f3 (acc ++ [⟨(outM rk).1, (outM rk).2.1, (outM rk).2.2.1, (outM rk).2.2.2.1⟩]) ((i + 1 : Nat) : Int) else some none)) r → Ev (fun k => spec_l3Map.l0 k f x.f3 acc (i : Int)) r := fun h => by
        refine Ev.step (fun k => ?_) (Ev.bind (f := fun k q => if q.2.2.2.2 = true then spec_l3Map.l0 k f x.f3 (acc ++ [⟨q.1, q.2.1, q.2.2.1, q.2.2.2.1⟩]) ((i + 1 : Nat) : Int) else some none) e1 h)
        simp only [spec_l3Map.l0, rdI_get (show i < x.f3.length by omega)]
        rw [if_pos i1, if_pos i0, if_pos (by omega), up]
      have st2 : ∀ {r : Option (List S40)}, Ev (fun k => (if (outM rk).2.2.2.2 = true then impl_mapTerm.l0 k f x.f3 (acc ++ [⟨(outM rk).1, (outM rk).2.1, (outM rk).2.2.1, (outM rk).2.2.2.1⟩]) ((i + 1 : Nat) : Int) else some none)) r → Ev (fun k => impl_mapTerm.l0 k f x.f3 acc (i : Int)) r := fun h => by
        refine Ev.step (fun k => ?_) (Ev.bind (f := fun k q => if q.2.2.2.2 = true then impl_mapTerm.l0 k f x.f3 (acc ++ [⟨q.1, q.2.1, q.2.2.1, q.2.2.2.1⟩]) ((i + 1 : Nat) : Int) else some none) e2 h)
        simp only [impl_mapTerm.l0, rdI_get (show i < x.f3.length by omega)]
        rw [if_pos i1, if_pos i0, if_pos (by omega), up]
      cases rk with
      | none => exact ⟨none, st1 (by simpa [outM] using Ev.now none), st2 (by simpa [outM] using Ev.now none), fun ys h => by cases h⟩
      | some y =>
        obtain ⟨r, l1, l2, l3⟩ := ihm (i + 1) (acc ++ [y]) (by omega) (by simp [ha])
        have eta : (⟨y.f0, y.f1, y.f2, y.f3⟩ : S40) = y := by cases y; rfl
        have er : r.map ((acc ++ [y]) ++ ·) = (r.map (y :: ·)).map (acc ++ ·) := by cases r <;> simp
        rw [er] at l1 l2
        refine ⟨r.map (y :: ·), st1 (by simpa only [outM, if_true, eta] using l1), st2 (by simpa only [outM, if_true, eta] using l2), fun ys h => ?_⟩
        cases r with
        | none => cases h
        | some zs =>
          obtain rfl := Option.some.inj h
          rw [List.drop_eq_getElem_cons (by omega)]
          simp only [List.map_cons, List.sum_cons]
          have := l3 zs rfl
          have := e3 y rfl
          omega
  obtain ⟨r, l1, l2, l3⟩ := lp x.f3.length 0 [] (by omega) rfl
  rw [List.drop_zero] at l3
  have er : r.map (([] : List S40) ++ ·) = r := by cases r <;> simp
  rw [er] at l1 l2
  obtain ⟨s, hform⟩ := implForm x.f0
  have hm1 := specV f x.f2 hf (by omega)
  have hm2 := implV f x.f2 hf (by omega)
  have hml := mapV_le f x.f2
  -- behind the grade
  have tail1 : ∀ n : Int, Ev (fun k => (spec_l2Typed.f x.f0).bind fun tp => (if tp = true then spec_MapType.f k f x.f2 else some []).bind fun t => if tp = true ∧ t = [] then some (0, 0, [], [], false) else (spec_l3Map.l0 k f x.f3 [] 0).bind fun r => some (mapFin x.f0 n t r)) (if typedV x.f0 = true ∧ mapV f x.f2 = [] then (0, 0, [], [], false) else mapFin x.f0 n (if typedV x.f0 = true then mapV f x.f2 else []) r) := by
    intro n
    simp only [specTyped, Option.bind_some]
    cases typedV x.f0
    · simp only [Bool.false_eq_true, if_false, false_and, Option.bind_some]
      exact Ev.bind l1 (Ev.now _)
    · simp only [if_true, true_and]
      refine Ev.bind hm1 ?_
      by_cases c : mapV f x.f2 = []
      · simp only [if_pos c]; exact Ev.now _
      · simp only [if_neg c]; exact Ev.bind l1 (Ev.now _)
  have tail2 : ∀ n : Int, Ev (fun k => (if typedV x.f0 = true then impl_MapType.f k f x.f2 else some []).bind fun t => if typedV x.f0 = true ∧ t = [] then some (0, 0, [], [], false) else (impl_mapTerm.l0 k f x.f3 [] 0).bind fun r => some (mapFin x.f0 n t r)) (if typedV x.f0 = true ∧ mapV f x.f2 = [] then (0, 0, [], [], false) else mapFin x.f0 n (if typedV x.f0 = true then mapV f x.f2 else []) r) := by
    intro n
    cases typedV x.f0
    · simp only [Bool.false_eq_true, if_false, false_and, Option.bind_some]
      exact Ev.bind l2 (Ev.now _)
    · simp only [if_true, true_and]
      refine Ev.bind hm2 ?_
      by_cases c : mapV f x.f2 = []
      · simp only [if_pos c]; exact Ev.now _
      · simp only [if_neg c]; exact Ev.bind l2 (Ev.now _)
  have fin : ∀ n : Int, ∃ q : Option S40, (if typedV x.f0 = true ∧ mapV f x.f2 = [] then (0, 0, [], [], false) else mapFin x.f0 n (if typedV x.f0 = true then mapV f x.f2 else []) r) = outM q ∧ ∀ y, q = some y → weight y ≤ weight x := by
    intro n
    by_cases c : typedV x.f0 = true ∧ mapV f x.f2 = []
    · exact ⟨none, by rw [if_pos c]; rfl, fun y h => by cases h⟩
    · rw [if_neg c]
      cases r with
      | none => exact ⟨none, rfl, fun y h => by cases h⟩
      | some ks =>
        refine ⟨some ⟨x.f0, n, (if typedV x.f0 = true then mapV f x.f2 else []), ks⟩, rfl, fun y h => ?_⟩
        obtain rfl := Option.some.inj h
        have := l3 ks rfl
        rw [weight_eq, hwe]
        dsimp only
        split
        · omega
        · simp; omega
  by_cases c : hasV x.f0 = true ∧ x.f1 ≥ 0
  · by_cases g : x.f1 < (f.length : Int) ∧ 0 ≤ rd f x.f1 ∧ rd f x.f1 ≤ 15
    · obtain ⟨q, hq, hw⟩ := fin (rd f x.f1)
      refine ⟨q, ?_, ?_, hw⟩
      · rw [← hq]
        refine Ev.step (fun k => ?_) (tail1 (rd f x.f1))
        simp only [spec_l3Map.f, specHas, Option.bind_some]
        rw [if_pos c, l3Mapped_eq f _ c.2, Option.bind_some, decide_eq_true g, if_neg (by decide), if_pos c, if_pos ⟨c.2, g.1⟩, Option.bind_some]
      · rw [← hq]
        refine Ev.step (fun k => ?_) (tail2 (rd f x.f1))
        simp only [impl_mapTerm.f, hform, Option.bind_some]
        rw [if_pos c, mapped_eq f hf _ c.2, if_pos g, Option.bind_some, if_neg (fun h => by have := g.2.1; omega)]
    · refine ⟨none, ?_, ?_, fun y h => by cases h⟩
      · refine Ev.step (f := fun _ => some (0, 0, [], [], false)) (fun k => ?_) (Ev.now _)
        simp only [spec_l3Map.f, specHas, Option.bind_some]
        rw [if_pos c, l3Mapped_eq f _ c.2, Option.bind_some, decide_eq_false g, if_pos rfl]
      · refine Ev.step (f := fun _ => some (0, 0, [], [], false)) (fun k => ?_) (Ev.now _)
        simp only [impl_mapTerm.f, hform, Option.bind_some]
        rw [if_pos c, mapped_eq f hf _ c.2, if_neg g, Option.bind_some, if_pos ⟨c.1, c.2, by decide⟩]
  · obtain ⟨q, hq, hw⟩ := fin x.f1
    refine ⟨q, ?_, ?_, hw⟩
    · rw [← hq]
      refine Ev.step (fun k => ?_) (tail1 x.f1)
      simp only [spec_l3Map.f, specHas, Option.bind_some]
      rw [if_neg c, Option.bind_some, if_neg (by decide), if_neg c, Option.bind_some]
    · rw [← hq]
      refine Ev.step (fun k => ?_) (tail2 x.f1)
      simp only [impl_mapTerm.f, hform, Option.bind_some]
      rw [if_neg c, Option.bind_some, if_neg (fun h => c ⟨h.1, h.2.1⟩)]
theorem writtenTwo (x : S40) (hs : Small x) : ∃ v : Bool, Ev (fun k => spec_IsWritten.f k x.f0 x.f1 x.f2 x.f3) v ∧ Ev (fun k => impl_IsWritten.f k x.f0 x.f1 x.f2 x.f3) v := by
  obtain ⟨v, hv0, hv1, hv2, hv3⟩ := writtenBoth x hs
  refine ⟨v, hv1, ?_⟩
  unfold impl_IsWritten.f
  refine Ev.bind hv2 ?_
  cases v
  · simpa using Ev.now false
  · simp only [if_true, decide_eq_true (show (nodes x : Int) ≤ 400 by have := hv3 rfl; omega)]
    exact Ev.now _
theorem weight_zero : weight ⟨0, 0, [], []⟩ = 0 := by rw [weight_eq]; rfl
theorem mapTermBoth (f : List Int) (hf : f.length ≤ 1048576) (x : S40) (hx : weight x ≤ 1048576) : ∃ (z : S40) (b : Bool), Ev (fun k => spec_MapTerm.f k f x.f0 x.f1 x.f2 x.f3) (z.f0, z.f1, z.f2, z.f3, b) ∧ Ev (fun k => impl_MapTerm.f k f x.f0 x.f1 x.f2 x.f3) (z.f0, z.f1, z.f2, z.f3, b) ∧ weight z ≤ 1048576 := by
  obtain ⟨v, v1, v2⟩ := writtenTwo x (small_weight x hx)
  unfold spec_MapTerm.f impl_MapTerm.f
  cases v
  · refine ⟨⟨0, 0, [], []⟩, false, Ev.bind v1 ?_, Ev.bind v2 ?_, by rw [weight_zero]; omega⟩
    · simpa using Ev.now ((0, 0, [], [], false) : Int × Int × List Int × List S40 × Bool)
    · simpa using Ev.now ((0, 0, [], [], false) : Int × Int × List Int × List S40 × Bool)
  · obtain ⟨r, r1, r2, r3⟩ := mapBoth f hf x hx
    cases r with
    | none => exact ⟨⟨0, 0, [], []⟩, false, Ev.bind v1 (by simp only [if_true]; exact r1), Ev.bind v2 (by simp only [if_true]; exact r2), by rw [weight_zero]; omega⟩
    | some y => exact ⟨y, true, Ev.bind v1 (by simp only [if_true]; exact r1), Ev.bind v2 (by simp only [if_true]; exact r2), by have := r3 y rfl; omega⟩
theorem FnExactMapTerm : laws_FnExactMapTerm.Pure := by
  intro f p0 p1 p2 p3 hf0 h0 h1 h2 h3
  refine evRounds ?_
  unfold laws_FnExactMapTerm.f
  by_cases c0 : (f.length : Int) > 1048576
  · simp only [if_pos c0]; exact Ev.now _
  have hf : f.length ≤ 1048576 := by omega
  simp only [if_neg c0]
  have hw : Wf36 ⟨p0, p1, p2, p3⟩ := .mk _ _ _ _ h0 h1 h2 h3.1 h3.2
  obtain ⟨s, es, s1, s2, s3⟩ := szTermN ⟨p0, p1, p2, p3⟩ hw 1048576 (by decide) (by decide)
  refine Ev.bind es ?_
  by_cases c : s < 0
  · simp only [if_pos c]; exact Ev.now _
  simp only [if_neg c]
  have hwx : weight (conv ⟨p0, p1, p2, p3⟩) ≤ 1048576 := by have := s3 (by omega); omega
  have tt := toTermE ⟨p0, p1, p2, p3⟩ (small_weight _ hwx)
  generalize conv ⟨p0, p1, p2, p3⟩ = x at hwx tt
  obtain ⟨z, b, z1, z2, z3⟩ := mapTermBoth f hf x hwx
  have ex := eqTermE x (small_weight _ hwx)
  have ez := eqTermE z (small_weight _ z3)
  obtain ⟨b1, n2, n3, b2, b3, k1, _⟩ := markTermE x hwx (1 + f.length) (by omega) (by omega) (marksE x hwx)
  obtain ⟨d1, m2, m3, d2, d3, j1, j2⟩ := markTermE z z3 1 (by omega) (by omega) (marksE z z3)
  refine Ev.bind (toIntS f hf) ?_
  refine Ev.bind tt ?_
  refine Ev.bind z1 ?_
  refine Ev.bind z2 ?_
  refine Ev.bind ez ?_
  refine Ev.bind (eqIntS f hf) ?_
  refine Ev.bind ex ?_
  refine Ev.bind (markIntS f 1 (by omega) (by omega)) ?_
  refine Ev.bind k1 ?_
  refine Ev.bind j1 ?_
  refine Ev.bind (j2 z.f0 z.f1) ?_
  simp only [Bool.true_and, decide_eq_true (show ¬ b1 < 0 by omega), decide_eq_true (show ¬ d1 < 0 by omega), decide_true]
  exact Ev.now _
end Go.Proofs.Ytipfkicndjddgaa.Pure
