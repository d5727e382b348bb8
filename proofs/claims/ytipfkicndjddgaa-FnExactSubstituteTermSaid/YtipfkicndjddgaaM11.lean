-- Several texts in one (wip/tools/merge.py).
import Derived.Test.YtipfkicndjddgaaM2
import Derived.Test.YtipfkicndjddgaaM4
import Derived.Test.YtipfkicndjddgaaPf20
import Derived.Test.YtipfkicndjddgaaM3
import Derived.Test.YtipfkicndjddgaaM6
import Derived.Test.YtipfkicndjddgaaM5
import Derived.Test.YtipfkicndjddgaaM1
section
/- Terms: copies, sizes, comparisons. -/
set_option linter.unusedSimpArgs false
set_option linter.unusedVariables false
namespace Go.Proofs.Ytipfkicndjddgaa.Pure
open Go.RowKit Go.Proofs.Ytipfkicndjddgaa.P Go.Proofs.YtipfkicndjddgaaW.PrintWords Go.Proofs.YtipfkicndjddgaaW.PrintLast
/-! ## Terms of the laws and of the program -/
theorem kid_lt {x y : S36} (h : y ∈ x.f3) : SizeOf.sizeOf y < SizeOf.sizeOf x := by
  have := List.sizeOf_lt_of_mem h
  cases x
  simp at this ⊢
  omega
theorem kid_ltI {x y : S40} (h : y ∈ x.f3) : SizeOf.sizeOf y < SizeOf.sizeOf x := by
  have := List.sizeOf_lt_of_mem h
  cases x
  simp at this ⊢
  omega
theorem indL {P : S36 → Prop} (h : ∀ x, (∀ y ∈ x.f3, P y) → P x) : ∀ (n : Nat) (x : S36), SizeOf.sizeOf x < n → P x
  | 0, x, hn => absurd hn (by omega)
  | n + 1, x, hn => h x fun y hy => indL h n y (by have := kid_lt hy; omega)
theorem indI {P : S40 → Prop} (h : ∀ x, (∀ y ∈ x.f3, P y) → P x) : ∀ (n : Nat) (x : S40), SizeOf.sizeOf x < n → P x
  | 0, x, hn => absurd hn (by omega)
  | n + 1, x, hn => h x fun y hy => indI h n y (by have := kid_ltI hy; omega)
def conv (x : S36) : S40 := ⟨x.f0, x.f1, x.f2, x.f3.attach.map fun y => conv y.1⟩
termination_by SizeOf.sizeOf x
decreasing_by exact kid_lt y.2
theorem conv_eq (x : S36) : conv x = ⟨x.f0, x.f1, x.f2, x.f3.map conv⟩ := by
  rw [conv]
  congr 1
  rw [List.attach_map_val (f := conv)]
inductive Small : S40 → Prop
  | mk (a b : Int) (t : List Int) (ks : List S40) : t.length ≤ 1048576 → ks.length ≤ 1048576 → (∀ y ∈ ks, Small y) → Small ⟨a, b, t, ks⟩
theorem Small.out {x : S40} (h : Small x) : x.f2.length ≤ 1048576 ∧ x.f3.length ≤ 1048576 ∧ ∀ y ∈ x.f3, Small y := by
  cases h with
  | mk _ _ _ _ h1 h2 h3 => exact ⟨h1, h2, h3⟩
theorem small_of {x : S40} (h1 : x.f2.length ≤ 1048576) (h2 : x.f3.length ≤ 1048576) (h3 : ∀ y ∈ x.f3, Small y) : Small x := by
  cases x; exact .mk _ _ _ _ h1 h2 h3
theorem rdL_get {l : List S36} {i : Nat} (h : i < l.length) : rd_T36 l (i : Int) = l[i] := by
  unfold rd_T36; rw [Int.toNat_natCast, List.getD_eq_getElem?_getD, List.getElem?_eq_getElem h]; rfl
theorem rdI_get {l : List S40} {i : Nat} (h : i < l.length) : rd_T40 l (i : Int) = l[i] := by
  unfold rd_T40; rw [Int.toNat_natCast, List.getD_eq_getElem?_getD, List.getElem?_eq_getElem h]; rfl
theorem maxLen_le : maxLen ≤ 9223372036854775807 := by decide
theorem szIntS_ev (l : List Int) (a : Int) (ha : 0 ≤ a) (hb : a ≤ 1048576) (hl : l.length ≤ maxLen) : ∃ v, laws_szIntS.f l a = some v ∧ -1 ≤ v ∧ v ≤ a ∧ (0 ≤ v → l.length ≤ 1048576) := by
  have := maxLen_le
  unfold laws_szIntS.f
  rw [w64 (x := a - (l.length : Int)) (by omega) (by omega)]
  by_cases c : a - (l.length : Int) < 0
  · rw [if_pos c]; exact ⟨-1, rfl, by omega, by omega, by omega⟩
  · rw [if_neg c]; exact ⟨_, rfl, by omega, by omega, by omega⟩
theorem szTermE (x : S36) (hw : Wf36 x) : ∀ a : Int, 0 ≤ a → a ≤ 1048576 → ∃ v, Ev (fun k => laws_szTerm.f k x.f0 x.f1 x.f2 x.f3 a) v ∧ -1 ≤ v ∧ v ≤ a ∧ (0 ≤ v → Small (conv x)) := by
  revert hw
  refine indL (P := fun x => Wf36 x → ∀ a : Int, 0 ≤ a → a ≤ 1048576 → ∃ v, Ev (fun k => laws_szTerm.f k x.f0 x.f1 x.f2 x.f3 a) v ∧ -1 ≤ v ∧ v ≤ a ∧ (0 ≤ v → Small (conv x))) ?_ (SizeOf.sizeOf x + 1) x (by omega)
  clear x
  intro x ih hw a ha hb
  have hm := maxLen_le
  obtain ⟨_, _, ⟨_, w2⟩, wk, w3⟩ := hw.out
  obtain ⟨v, e1, v1, v2, v3⟩ := szIntS_ev x.f2 a ha hb w2
  have step : ∀ {r : Int}, Ev (fun k => if v < 0 then some (-1) else (laws_szTermS.f k x.f3 v).bind fun t => if t < 0 then some (-1) else some t) r → Ev (fun k => laws_szTerm.f k x.f0 x.f1 x.f2 x.f3 a) r := fun h => Ev.step (fun k => by simp only [laws_szTerm.f, e1, Option.bind_some]) h
  by_cases c : v < 0
  · exact ⟨-1, step (by simpa [c] using Ev.now (-1 : Int)), by omega, by omega, by omega⟩
  · have lp : ∀ (m i : Nat) (acc : Int), i + m = x.f3.length → 0 ≤ acc → acc ≤ v - x.f3.length → ∃ u, Ev (fun k => laws_szTermS.l0 k x.f3 acc (i : Int)) u ∧ -1 ≤ u ∧ u ≤ acc ∧ (0 ≤ u → ∀ y ∈ x.f3.drop i, Small (conv y)) := by
      intro m
      induction m with
      | zero =>
        intro i acc hi h0 h1
        refine ⟨acc, Ev.step (f := fun _ => some acc) (fun k => ?_) (Ev.now _), by omega, by omega, fun _ y hy => ?_⟩
        · simp only [laws_szTermS.l0]; rw [if_neg (by omega)]
        · rw [List.drop_eq_nil_of_le (by omega)] at hy; cases hy
      | succ m ihm =>
        intro i acc hi h0 h1
        have hmem : x.f3[i] ∈ x.f3 := List.getElem_mem _
        obtain ⟨u, hu, u1, u2, u3⟩ := ih _ hmem (wk _ hmem) acc h0 (by omega)
        have st : ∀ {r : Int}, Ev (fun k => if u < 0 then some (-1) else laws_szTermS.l0 k x.f3 u ((i + 1 : Nat) : Int)) r → Ev (fun k => laws_szTermS.l0 k x.f3 acc (i : Int)) r := fun h => by
          refine Ev.step (f := fun k => (laws_szTerm.f k x.f3[i].f0 x.f3[i].f1 x.f3[i].f2 x.f3[i].f3 acc).bind fun t => if t < 0 then some (-1) else laws_szTermS.l0 k x.f3 t ((i + 1 : Nat) : Int)) (fun k => ?_) (Ev.bind hu h)
          simp only [laws_szTermS.l0, rdL_get (show i < x.f3.length by omega)]
          rw [if_pos (by omega), if_pos (by omega), w64 (x := (i : Int) + 1) (by omega) (by omega)]; rfl
        by_cases cu : u < 0
        · exact ⟨-1, st (by simpa [cu] using Ev.now (-1 : Int)), by omega, by omega, by omega⟩
        · obtain ⟨z, hz, z1, z2, z3⟩ := ihm (i + 1) u (by omega) (by omega) (by omega)
          refine ⟨z, st (by simpa [cu] using hz), z1, by omega, fun h y hy => ?_⟩
          rw [List.drop_eq_getElem_cons (by omega)] at hy
          rcases List.mem_cons.mp hy with rfl | hy
          · exact u3 (by omega)
          · exact z3 h y hy
    have st2 : ∀ {r : Int}, Ev (fun k => (laws_szTermS.f k x.f3 v).bind fun t => if t < 0 then some (-1) else some t) r → Ev (fun k => laws_szTerm.f k x.f0 x.f1 x.f2 x.f3 a) r := fun h => step (by simpa [c] using h)
    by_cases c2 : v - (x.f3.length : Int) < 0
    · refine ⟨-1, st2 (Ev.bind (a := -1) (Ev.step (f := fun _ => some (-1)) (fun k => ?_) (Ev.now _)) (by simpa using Ev.now (-1 : Int))), by omega, by omega, by omega⟩
      simp only [laws_szTermS.f]; rw [w64 (x := v - (x.f3.length : Int)) (by omega) (by omega), if_pos c2]
    · obtain ⟨u, hu, u1, u2, u3⟩ := lp x.f3.length 0 (v - x.f3.length) (by omega) (by omega) (by omega)
      have hS : Ev (fun k => laws_szTermS.f k x.f3 v) u := by
        refine Ev.step (fun k => ?_) hu
        simp only [laws_szTermS.f]; rw [w64 (x := v - (x.f3.length : Int)) (by omega) (by omega), if_neg c2]; rfl
      by_cases cu : u < 0
      · exact ⟨-1, st2 (Ev.bind hS (by simpa [cu] using Ev.now (-1 : Int))), by omega, by omega, by omega⟩
      · refine ⟨u, st2 (Ev.bind hS (by simpa [cu] using Ev.now u)), u1, by omega, fun h => ?_⟩
        rw [conv_eq]
        refine .mk _ _ _ _ (v3 (by omega)) (by simp; omega) fun y hy => ?_
        obtain ⟨y', hy', rfl⟩ := List.mem_map.mp hy
        exact u3 h y' (by simpa using hy')
theorem toTermE (x : S36) (hs : Small (conv x)) : Ev (fun k => laws_toTerm.f k x.f0 x.f1 x.f2 x.f3) ((conv x).f0, (conv x).f1, (conv x).f2, (conv x).f3) := by
  revert hs
  refine indL (P := fun x => Small (conv x) → Ev (fun k => laws_toTerm.f k x.f0 x.f1 x.f2 x.f3) ((conv x).f0, (conv x).f1, (conv x).f2, (conv x).f3)) ?_ (SizeOf.sizeOf x + 1) x (by omega)
  clear x
  intro x ih hs
  rw [conv_eq] at hs
  obtain ⟨s2, s3, sk⟩ := hs.out
  simp only [List.length_map] at s3
  rw [conv_eq]
  have lp : ∀ (m i : Nat) (pre rest : List S40), i + m = x.f3.length → pre.length = i → rest.length = m → Ev (fun k => laws_toTermS.l0 k x.f3 (pre ++ rest) (i : Int)) (pre ++ (x.f3.drop i).map conv) := by
    intro m
    induction m with
    | zero =>
      intro i pre rest hi hp hr
      obtain rfl : rest = [] := List.length_eq_zero_iff.mp hr
      rw [List.drop_eq_nil_of_le (by omega)]
      refine Ev.step (f := fun _ => some (pre ++ [])) (fun k => ?_) (by simpa using Ev.now pre)
      simp only [laws_toTermS.l0]; rw [if_neg (by omega)]
    | succ m ihm =>
      intro i pre rest hi hp hr
      obtain ⟨z, zs, rfl⟩ : ∃ z zs, rest = z :: zs := by cases rest with | nil => cases hr | cons z zs => exact ⟨z, zs, rfl⟩
      have hmem : x.f3[i] ∈ x.f3 := List.getElem_mem _
      have h1 := ih _ hmem (sk _ (List.mem_map.mpr ⟨_, hmem, rfl⟩))
      have h2 := ihm (i + 1) (pre ++ [conv x.f3[i]]) zs (by omega) (by simp [hp]) (by simpa using hr)
      have e1 : (pre ++ z :: zs).set i (conv x.f3[i]) = (pre ++ [conv x.f3[i]]) ++ zs := by subst hp; simp
      have e2 : pre ++ (x.f3.drop i).map conv = (pre ++ [conv x.f3[i]]) ++ (x.f3.drop (i + 1)).map conv := by
        rw [List.drop_eq_getElem_cons (show i < x.f3.length by omega), List.map_cons, List.append_assoc]; rfl
      rw [e2]
      refine Ev.step (f := fun k => (laws_toTerm.f k x.f3[i].f0 x.f3[i].f1 x.f3[i].f2 x.f3[i].f3).bind fun b => laws_toTermS.l0 k x.f3 ((pre ++ z :: zs).set i ⟨b.1, b.2.1, b.2.2.1, b.2.2.2⟩) ((i + 1 : Nat) : Int)) (fun k => ?_) (Ev.bind h1 ?_)
      · simp only [laws_toTermS.l0, rdL_get (show i < x.f3.length by omega)]
        have ln : (i : Int) < ((pre ++ z :: zs).length : Int) := by simp; omega
        rw [if_pos (by omega), if_pos (by omega), w64 (x := (i : Int) + 1) (by omega) (by omega)]
        simp only [if_pos ln, Int.toNat_natCast]
        congr 1
      · have eta : (⟨(conv x.f3[i]).f0, (conv x.f3[i]).f1, (conv x.f3[i]).f2, (conv x.f3[i]).f3⟩ : S40) = conv x.f3[i] := by cases conv x.f3[i]; rfl
        simp only [eta]
        rw [e1]; exact h2
  have hS : Ev (fun k => laws_toTermS.f k x.f3) (x.f3.map conv) := by
    have := lp x.f3.length 0 [] (List.replicate x.f3.length z40) (by omega) rfl (by simp)
    simp only [List.nil_append, List.drop_zero] at this
    refine Ev.step (fun k => ?_) this
    simp only [laws_toTermS.f]
    rw [if_pos (by omega), if_pos (by omega), Int.toNat_natCast]; rfl
  refine Ev.step (f := fun k => (laws_toIntS.f k x.f2).bind fun u => (laws_toTermS.f k x.f3).bind fun v => some (x.f0, x.f1, u, v)) (fun k => by simp only [laws_toTerm.f]) ?_
  refine Ev.bind (toIntS x.f2 s2) ?_
  refine Ev.bind hS ?_
  exact Ev.now _
theorem eqTermE (x : S40) (hs : Small x) : Ev (fun k => laws_eqTerm.f k x.f0 x.f1 x.f2 x.f3 x.f0 x.f1 x.f2 x.f3) true := by
  revert hs
  refine indI (P := fun x => Small x → Ev (fun k => laws_eqTerm.f k x.f0 x.f1 x.f2 x.f3 x.f0 x.f1 x.f2 x.f3) true) ?_ (SizeOf.sizeOf x + 1) x (by omega)
  clear x
  intro x ih hs
  obtain ⟨s2, s3, sk⟩ := hs.out
  have hS : Ev (fun k => laws_eqTermS.f k x.f3 x.f3) true := by
    refine Ev.step (f := fun k => laws_eqTermS.l0 k x.f3 x.f3 0) (fun k => by simp only [laws_eqTermS.f, if_true]) ?_
    have hh : (findO (fun _ => (none : Option Bool)) 0 (x.f3.length : Int).toNat).getD true = true := by rw [findO_nil]; rfl
    rw [← hh]
    refine loop0 (F := fun k i => laws_eqTermS.l0 k x.f3 x.f3 i) (n := (x.f3.length : Int)) (g := fun _ => none) (e := true) (by omega) ?_ ?_
    · refine Ev.step (f := fun _ => some true) (fun k => ?_) (Ev.now _)
      simp only [laws_eqTermS.l0]; rw [if_neg (by omega)]
    · intro i h0 h1 r hr
      obtain ⟨j, rfl⟩ : ∃ j : Nat, i = j := ⟨i.toNat, by omega⟩
      have hmem : x.f3[j]'(by omega) ∈ x.f3 := List.getElem_mem _
      have h2 := ih _ hmem (sk _ hmem)
      refine Ev.step (f := fun k => (laws_eqTerm.f k (x.f3[j]'(by omega)).f0 (x.f3[j]'(by omega)).f1 (x.f3[j]'(by omega)).f2 (x.f3[j]'(by omega)).f3 (x.f3[j]'(by omega)).f0 (x.f3[j]'(by omega)).f1 (x.f3[j]'(by omega)).f2 (x.f3[j]'(by omega)).f3).bind fun t => if t = true then laws_eqTermS.l0 k x.f3 x.f3 ((j : Int) + 1) else some false) (fun k => ?_) (Ev.bind h2 (by simpa using hr))
      simp only [laws_eqTermS.l0, rdI_get (show j < x.f3.length by omega)]
      rw [if_pos h1, if_pos h0, if_pos h1, w64 (x := (j : Int) + 1) (by omega) (by omega)]
  refine Ev.step (f := fun k => (laws_eqIntS.f k x.f2 x.f2).bind fun t => if t = true then ((laws_eqTermS.f k x.f3 x.f3).bind fun t => if t = true then some true else some false) else some false) (fun k => by simp only [laws_eqTerm.f, if_true]) ?_
  refine Ev.bind (eqIntS x.f2 s2) ?_
  simp only [if_true]
  refine Ev.bind hS ?_
  simp only [if_true]
  exact Ev.now _
end Go.Proofs.Ytipfkicndjddgaa.Pure
end

section
/- Terms: how much is in one; marks. -/
set_option linter.unusedSimpArgs false
set_option linter.unusedVariables false
namespace Go.Proofs.Ytipfkicndjddgaa.Pure
open Go.RowKit Go.Proofs.Ytipfkicndjddgaa.P Go.Proofs.YtipfkicndjddgaaW.PrintWords Go.Proofs.YtipfkicndjddgaaW.PrintLast
/-- The rows' elements, all told. -/
def weight (x : S40) : Nat := x.f2.length + (x.f3.attach.map fun y => 1 + weight y.1).sum
termination_by SizeOf.sizeOf x
decreasing_by exact kid_ltI y.2
theorem weight_eq (x : S40) : weight x = x.f2.length + (x.f3.map fun y => 1 + weight y).sum := by
  rw [weight]
  congr 1
  rw [List.attach_map_val (f := fun y => 1 + weight y)]
theorem sum_ge {l : List S40} {y : S40} (h : y ∈ l) : 1 + weight y ≤ (l.map fun y => 1 + weight y).sum := by
  induction l with
  | nil => cases h
  | cons z zs ih =>
    rw [List.map_cons, List.sum_cons]
    rcases List.mem_cons.mp h with rfl | h
    · omega
    · have := ih h; omega
theorem sum_len (l : List S40) : l.length ≤ (l.map fun y => 1 + weight y).sum := by
  induction l with
  | nil => simp
  | cons z zs ih => rw [List.map_cons, List.sum_cons, List.length_cons]; omega
theorem small_weight (x : S40) (h : weight x ≤ 1048576) : Small x := by
  revert h
  refine indI (P := fun x => weight x ≤ 1048576 → Small x) ?_ (SizeOf.sizeOf x + 1) x (by omega)
  clear x
  intro x ih h
  rw [weight_eq] at h
  have := sum_len x.f3
  exact small_of (by omega) (by omega) fun y hy => ih y hy (by have := sum_ge hy; omega)
theorem szTermN (x : S36) (hw : Wf36 x) : ∀ a : Int, 0 ≤ a → a ≤ 1048576 → ∃ v, Ev (fun k => laws_szTerm.f k x.f0 x.f1 x.f2 x.f3 a) v ∧ -1 ≤ v ∧ v ≤ a ∧ (0 ≤ v → (weight (conv x) : Int) ≤ a - v) := by
  revert hw
  refine indL (P := fun x => Wf36 x → ∀ a : Int, 0 ≤ a → a ≤ 1048576 → ∃ v, Ev (fun k => laws_szTerm.f k x.f0 x.f1 x.f2 x.f3 a) v ∧ -1 ≤ v ∧ v ≤ a ∧ (0 ≤ v → (weight (conv x) : Int) ≤ a - v)) ?_ (SizeOf.sizeOf x + 1) x (by omega)
  clear x
  intro x ih hw a ha hb
  have hm := maxLen_le
  obtain ⟨_, _, ⟨_, w2⟩, wk, w3⟩ := hw.out
  have e1 : laws_szIntS.f x.f2 a = some (if a - (x.f2.length : Int) < 0 then -1 else a - x.f2.length) := by
    unfold laws_szIntS.f
    rw [w64 (x := a - (x.f2.length : Int)) (by omega) (by omega)]
    split <;> rfl
  by_cases c : a - (x.f2.length : Int) < 0
  · rw [if_pos c] at e1
    exact ⟨-1, Ev.step (f := fun _ => some (-1)) (fun k => by simp only [laws_szTerm.f, e1, Option.bind_some]; rfl) (Ev.now _), by omega, by omega, by omega⟩
  rw [if_neg c] at e1
  have step : ∀ {r : Int}, Ev (fun k => (laws_szTermS.f k x.f3 (a - x.f2.length)).bind fun t => if t < 0 then some (-1) else some t) r → Ev (fun k => laws_szTerm.f k x.f0 x.f1 x.f2 x.f3 a) r := fun h => Ev.step (fun k => by simp only [laws_szTerm.f, e1, Option.bind_some, if_neg c]) h
  generalize hv : a - (x.f2.length : Int) = v at step c
  have lp : ∀ (m i : Nat) (acc : Int), i + m = x.f3.length → 0 ≤ acc → acc ≤ v - x.f3.length → ∃ u, Ev (fun k => laws_szTermS.l0 k x.f3 acc (i : Int)) u ∧ -1 ≤ u ∧ u ≤ acc ∧ (0 ≤ u → (((x.f3.drop i).map fun y => weight (conv y)).sum : Int) ≤ acc - u) := by
    intro m
    induction m with
    | zero =>
      intro i acc hi h0 h1
      refine ⟨acc, Ev.step (f := fun _ => some acc) (fun k => ?_) (Ev.now _), by omega, by omega, fun _ => ?_⟩
      · simp only [laws_szTermS.l0]; rw [if_neg (by omega)]
      · rw [List.drop_eq_nil_of_le (by omega)]; simp
    | succ m ihm =>
      intro i acc hi h0 h1
      have hmem : x.f3[i] ∈ x.f3 := List.getElem_mem _
      obtain ⟨u, hu, u1, u2, u3⟩ := ih _ hmem (wk _ hmem) acc h0 (by omega)
      have st : ∀ {r : Int}, Ev (fun k => if u < 0 then some (-1) else laws_szTermS.l0 k x.f3 u ((i + 1 : Nat) : Int)) r → Ev (fun k => laws_szTermS.l0 k x.f3 acc (i : Int)) r := fun h => by
        refine Ev.step (f := fun k => (laws_szTerm.f k x.f3[i].f0 x.f3[i].f1 x.f3[i].f2 x.f3[i].f3 acc).bind fun t => if t < 0 then some (-1) else laws_szTermS.l0 k x.f3 t ((i + 1 : Nat) : Int)) (fun k => ?_) (Ev.bind hu h)
        simp only [laws_szTermS.l0, rdL_get (show i < x.f3.length by omega)]
        rw [if_pos (by omega), if_pos (by omega), w64 (x := (i : Int) + 1) (by omega) (by omega)]; rfl
      by_cases cu : u < 0
      · exact ⟨-1, st (by simpa [cu] using Ev.now (-1 : Int)), by omega, by omega, by omega⟩
      · obtain ⟨z, hz, z1, z2, z3⟩ := ihm (i + 1) u (by omega) (by omega) (by omega)
        refine ⟨z, st (by simpa [cu] using hz), z1, by omega, fun h => ?_⟩
        rw [List.drop_eq_getElem_cons (by omega), List.map_cons, List.sum_cons]
        have := z3 h
        have := u3 (by omega)
        omega
  by_cases c2 : v - (x.f3.length : Int) < 0
  · refine ⟨-1, step (Ev.bind (a := -1) (Ev.step (f := fun _ => some (-1)) (fun k => ?_) (Ev.now _)) (by simpa using Ev.now (-1 : Int))), by omega, by omega, by omega⟩
    simp only [laws_szTermS.f]; rw [w64 (x := v - (x.f3.length : Int)) (by omega) (by omega), if_pos c2]
  · obtain ⟨u, hu, u1, u2, u3⟩ := lp x.f3.length 0 (v - x.f3.length) (by omega) (by omega) (by omega)
    have hS : Ev (fun k => laws_szTermS.f k x.f3 v) u := by
      refine Ev.step (fun k => ?_) hu
      simp only [laws_szTermS.f]; rw [w64 (x := v - (x.f3.length : Int)) (by omega) (by omega), if_neg c2]; rfl
    by_cases cu : u < 0
    · exact ⟨-1, step (Ev.bind hS (by simpa [cu] using Ev.now (-1 : Int))), by omega, by omega, by omega⟩
    · refine ⟨u, step (Ev.bind hS (by simpa [cu] using Ev.now u)), u1, by omega, fun h => ?_⟩
      have hk := u3 h
      rw [List.drop_zero] at hk
      rw [weight_eq, conv_eq]
      simp only [List.map_map]
      have e : (x.f3.map ((fun y => 1 + weight y) ∘ conv)).sum = x.f3.length + (x.f3.map fun y => weight (conv y)).sum := by
        clear hk
        generalize x.f3 = l
        induction l with
        | nil => rfl
        | cons z zs ihz => simp only [List.map_cons, List.sum_cons, List.length_cons, ihz, Function.comp]; omega
      rw [e]; omega
theorem set_mid {α : Type} (pre : List α) (z y : α) (zs : List α) (i : Nat) (h : pre.length = i) : (pre ++ z :: zs).set i y = (pre ++ [y]) ++ zs := by subst h; simp
/-- A term as what a function gives back. -/
theorem markTermE (x : S40) (hw : weight x ≤ 1048576) (a : Int) (ha : 0 ≤ a) (ha2 : a ≤ 9223372036854) (H : ∀ a : Int, 0 ≤ a → a + 3 * (weight x : Int) ≤ 4611686018427387904 → ∃ (b : Int) (m2 : List Int) (m3 : List S40), a ≤ b ∧ b ≤ a + 3 * (weight x : Int) ∧ Ev (fun k => laws_markIntS.f k x.f2 a) (a + x.f2.length, m2) ∧ Ev (fun k => laws_markTermS.f k x.f3 (a + x.f2.length)) (b, m3) ∧ Ev (fun k => laws_heldIntS.f k m2 a) (a + x.f2.length) ∧ Ev (fun k => laws_heldTermS.f k m3 (a + x.f2.length)) b) :
    ∃ (b : Int) (m2 : List Int) (m3 : List S40), a ≤ b ∧ b ≤ a + 3 * (weight x : Int) ∧ Ev (fun k => laws_markTerm.f k x.f2 x.f3 a) (b, m2, m3) ∧ ∀ c0 c1 : Int, Ev (fun k => laws_heldTerm.f k c0 c1 m2 m3 a) b := by
  obtain ⟨b, m2, m3, b1, b2, k1, k2, q1, q2⟩ := H a ha (by omega)
  refine ⟨b, m2, m3, b1, b2, ?_, fun c0 c1 => ?_⟩
  · unfold laws_markTerm.f
    refine Ev.bind k1 ?_
    refine Ev.bind k2 ?_
    exact Ev.now _
  · unfold laws_heldTerm.f
    refine Ev.bind q1 ?_
    simp only [if_neg (show ¬ a + (x.f2.length : Int) < 0 by omega)]
    refine Ev.bind q2 ?_
    simp only [if_neg (show ¬ b < 0 by omega)]
    exact Ev.now _
/-- Marks a term, then all are held. -/
def Marks (x : S40) : Prop := ∀ a : Int, 0 ≤ a → a + 3 * (weight x : Int) ≤ 4611686018427387904 → ∃ (b : Int) (m2 : List Int) (m3 : List S40), a ≤ b ∧ b ≤ a + 3 * (weight x : Int) ∧ Ev (fun k => laws_markIntS.f k x.f2 a) (a + x.f2.length, m2) ∧ Ev (fun k => laws_markTermS.f k x.f3 (a + x.f2.length)) (b, m3) ∧ Ev (fun k => laws_heldIntS.f k m2 a) (a + x.f2.length) ∧ Ev (fun k => laws_heldTermS.f k m3 (a + x.f2.length)) b
theorem marksE (x : S40) (hw : weight x ≤ 1048576) : Marks x := by
  revert hw
  refine indI (P := fun x => weight x ≤ 1048576 → Marks x) ?_ (SizeOf.sizeOf x + 1) x (by omega)
  clear x
  intro x ih hw a ha hb
  have hwe := weight_eq x
  have hsl := sum_len x.f3
  have lp : ∀ (m i : Nat) (pre rest : List S40) (c : Int), i + m = x.f3.length → pre.length = i → rest = x.f3.drop i → 0 ≤ c → c + 3 * ((rest.map fun y => 1 + weight y).sum : Int) ≤ 4611686018427387904 → ∃ (b : Int) (out : List S40), c ≤ b ∧ b ≤ c + 3 * ((rest.map fun y => 1 + weight y).sum : Int) ∧ out.length = m ∧ Ev (fun k => laws_markTermS.l0 k (pre ++ rest) c (i : Int)) (b, pre ++ out) ∧ ∀ qre : List S40, qre.length = i → Ev (fun k => laws_heldTermS.l0 k (qre ++ out) c (i : Int)) b := by
    intro m
    induction m with
    | zero =>
      intro i pre rest c hi hp hr h0 h1
      obtain rfl : rest = [] := by rw [hr]; exact List.drop_eq_nil_of_le (by omega)
      refine ⟨c, [], by omega, by simp, rfl, Ev.step (f := fun _ => some (c, pre ++ [])) (fun k => ?_) (Ev.now _), fun qre hq => Ev.step (f := fun _ => some c) (fun k => ?_) (Ev.now _)⟩
      · simp only [laws_markTermS.l0]; rw [if_neg (by simp; omega)]
      · simp only [laws_heldTermS.l0]; rw [if_neg (by simp; omega)]
    | succ m ihm =>
      intro i pre rest c hi hp hr h0 h1
      rw [List.drop_eq_getElem_cons (by omega)] at hr
      have hmem : x.f3[i] ∈ x.f3 := List.getElem_mem _
      have wi : weight x.f3[i] ≤ 1048576 := by have := sum_ge hmem; omega
      rw [hr, List.map_cons, List.sum_cons] at h1
      obtain ⟨b, m2, m3, b1, b2, k1, k2, q1, q2⟩ := ih _ hmem wi (c + 2) (by omega) (by omega)
      obtain ⟨d, out, d1, d2, dl, l1, l2⟩ := ihm (i + 1) (pre ++ [⟨c, c + 1, m2, m3⟩]) (x.f3.drop (i + 1)) b (by omega) (by simp [hp]) rfl (by omega) (by omega)
      refine ⟨d, ⟨c, c + 1, m2, m3⟩ :: out, by omega, ?_, by simp [dl], ?_, fun qre hq => ?_⟩
      · rw [hr, List.map_cons, List.sum_cons]; omega
      · have e1 : (pre ++ rest).set i ⟨c, c + 1, m2, m3⟩ = (pre ++ [⟨c, c + 1, m2, m3⟩]) ++ x.f3.drop (i + 1) := by
          rw [hr]
          exact set_mid _ _ _ _ _ hp
        have e2 : rd_T40 (pre ++ rest) (i : Int) = x.f3[i] := by rw [rdI_get (by rw [hr]; simp; omega)]; subst hp; simp [hr]
        refine Ev.step (f := fun k => (laws_markIntS.f k x.f3[i].f2 (c + 2)).bind fun p => (laws_markTermS.f k x.f3[i].f3 p.1).bind fun q => laws_markTermS.l0 k ((pre ++ rest).set i ⟨c, c + 1, p.2, q.2⟩) q.1 ((i + 1 : Nat) : Int)) (fun k => ?_) (Ev.bind k1 (Ev.bind k2 ?_))
        · simp only [laws_markTermS.l0, e2]
          rw [if_pos (by rw [hr]; simp; omega), if_pos (by omega), w64 (x := c + 1) (by omega) (by omega), w64 (x := c + 1 + 1) (by omega) (by omega), w64 (x := (i : Int) + 1) (by omega) (by omega), show c + 1 + 1 = c + 2 by omega, Int.toNat_natCast]
          rfl
        · dsimp only
          rw [e1, show pre ++ (⟨c, c + 1, m2, m3⟩ : S40) :: out = (pre ++ [⟨c, c + 1, m2, m3⟩]) ++ out by simp]
          exact l1
      · have e3 : rd_T40 (qre ++ (⟨c, c + 1, m2, m3⟩ : S40) :: out) (i : Int) = ⟨c, c + 1, m2, m3⟩ := by rw [rdI_get (by simp; omega)]; subst hq; simp
        have l3 := l2 (qre ++ [⟨c, c + 1, m2, m3⟩]) (by simp [hq])
        rw [show (qre ++ [(⟨c, c + 1, m2, m3⟩ : S40)]) ++ out = qre ++ ⟨c, c + 1, m2, m3⟩ :: out by simp] at l3
        refine Ev.step (f := fun k => (laws_heldIntS.f k m2 (c + 2)).bind fun p => if p < 0 then some (-1) else (laws_heldTermS.f k m3 p).bind fun q => if q < 0 then some (-1) else laws_heldTermS.l0 k (qre ++ ⟨c, c + 1, m2, m3⟩ :: out) q ((i + 1 : Nat) : Int)) (fun k => ?_) ?_
        · simp only [laws_heldTermS.l0, e3]
          rw [if_pos (by simp; omega), if_pos (by omega), w64 (x := c + 1) (by omega) (by omega), w64 (x := c + 1 + 1) (by omega) (by omega), w64 (x := (i : Int) + 1) (by omega) (by omega), show c + 1 + 1 = c + 2 by omega]
          simp only [eq_self, if_true]
          rfl
        · refine Ev.bind q1 ?_
          simp only [if_neg (show ¬ c + 2 + (x.f3[i].f2.length : Int) < 0 by omega)]
          refine Ev.bind q2 ?_
          simp only [if_neg (show ¬ b < 0 by omega)]
          exact l3
  obtain ⟨b, out, b1, b2, bl, l1, l2⟩ := lp x.f3.length 0 [] x.f3 (a + x.f2.length) (by omega) rfl rfl (by omega) (by omega)
  refine ⟨b, marks a x.f2.length, out, by omega, by omega, markIntS x.f2 a ha (by omega), Ev.step (fun k => ?_) l1, heldIntS _ a ha (by omega), Ev.step (fun k => ?_) (l2 [] rfl)⟩
  · simp only [laws_markTermS.f, List.nil_append]; rfl
  · simp only [laws_heldTermS.f, List.nil_append]; rfl
end Go.Proofs.Ytipfkicndjddgaa.Pure
end

section
namespace Go.Proofs.Ytipfkicndjddgaa.P
open Go.RowKit Go.Proofs.YtipfkicndjddgaaW.PrintWords Go.Proofs.YtipfkicndjddgaaW.PrintLast Go.Proofs.YtipfkicndjddgaaW.PrintMore
set_option linter.unusedVariables false
set_option linter.unusedSimpArgs false
/-- Where a term's rows lie. -/
structure Tx where
  lo : Nat
  hi : Nat
  f : Nat → Bool
  n2 : Nat
  n3 : Nat
  c2 : Nat
  c3 : Nat
  A2 : Option Addr
  A3 : Option Addr
/-- Where a row of numbers lies. -/
structure Rx where
  lo : Nat
  hi : Nat
  n : Nat
  c : Nat
  A : Option Addr
def termP (B : Nat) (x : Tx) (l2 : List Int) (l3 : List S40) (W : World) : Prop :=
  (Kd.int .i64).R 3 W B (fun k => (x.lo ≤ k ∧ k < x.hi) ∧ x.f k = true) (.slice x.A2 x.n2 x.c2) l2 ∧ Kd.S kT 40 W B (fun k => (x.lo ≤ k ∧ k < x.hi) ∧ x.f k = false) (.slice x.A3 x.n3 x.c3) l3
theorem termP_move {B : Nat} {x : Tx} {l2 : List Int} {l3 : List S40} {W W' : World} (h : termP B x l2 l3 W) (hm : ∀ k, x.lo ≤ k → k < x.hi → W'.heap[k]? = W.heap[k]?) : termP B x l2 l3 W' :=
  ⟨Kd.R_move h.1 (fun k hk => hm k hk.1.1 hk.1.2), Kd.S_move h.2 (fun k hk => hm k hk.1.1 hk.1.2)⟩
def rowP (B : Nat) (x : Rx) (l : List Int) (W : World) : Prop := (Kd.int .i64).R 3 W B (fun k => x.lo ≤ k ∧ k < x.hi) (.slice x.A x.n x.c) l
theorem rowP_move {B : Nat} {x : Rx} {l : List Int} {W W' : World} (h : rowP B x l W) (hm : ∀ k, x.lo ≤ k → k < x.hi → W'.heap[k]? = W.heap[k]?) : rowP B x l W' := Kd.R_move h (fun k hk => hm k hk.1 hk.2)
def Ob.term (B : Nat) (x : Tx) (l2 : List Int) (l3 : List S40) : Ob := ⟨x.lo, x.hi, termP B x l2 l3, fun W W' h hm => termP_move h hm⟩
def Ob.rw (B : Nat) (x : Rx) (l : List Int) : Ob := ⟨x.lo, x.hi, rowP B x l, fun W W' h hm => rowP_move h hm⟩
theorem term_new {W W' : World} {B : Nat} (hB : B ≤ W.heap.size) (hs : W.heap.size ≤ W'.heap.size) {f : Nat → Bool} {v2 v3 : Value} {l2 : List Int} {l3 : List S40} (h : Made W' W.heap.size f v2 v3 l2 l3) :
    ∃ x : Tx, v2 = .slice x.A2 x.n2 x.c2 ∧ v3 = .slice x.A3 x.n3 x.c3 ∧ termP B x l2 l3 W' ∧ W.heap.size ≤ x.lo ∧ x.hi ≤ W'.heap.size := by
  obtain ⟨A2, c2, rfl⟩ := Kd.R_slice h.1
  obtain ⟨A3, c3, rfl⟩ := Kd.S_slice h.2
  exact ⟨⟨W.heap.size, W'.heap.size, f, l2.length, l3.length, c2, c3, A2, A3⟩, rfl, rfl, ⟨Kd.R_lower (Kd.R_mono (Kd.R_bound h.1) fun k hk => ⟨⟨hk.2.1, hk.2.2.1⟩, hk.1⟩) hB, Kd.S_lower (Kd.S_mono (Kd.S_bound h.2) fun k hk => ⟨⟨hk.2.1, hk.2.2.1⟩, hk.1⟩) hB⟩, Nat.le_refl _, Nat.le_refl _⟩
theorem row_new {W W' : World} {B : Nat} (hB : B ≤ W.heap.size) (hs : W.heap.size ≤ W'.heap.size) {v : Value} {l : List Int} {ok : Nat → Prop} (h : (Kd.int .i64).R 3 W' W.heap.size ok v l) :
    ∃ x : Rx, v = .slice x.A x.n x.c ∧ rowP B x l W' ∧ W.heap.size ≤ x.lo ∧ x.hi ≤ W'.heap.size := by
  obtain ⟨A, c, rfl⟩ := Kd.R_slice h
  exact ⟨⟨W.heap.size, W'.heap.size, l.length, c, A⟩, rfl, Kd.R_lower (Kd.R_mono (Kd.R_bound h) fun k hk => ⟨hk.2.1, hk.2.2.1⟩) hB, Nat.le_refl _, Nat.le_refl _⟩
theorem term_reads {B : Nat} {x : Tx} {l2 : List Int} {l3 : List S40} {W : World} (h : termP B x l2 l3 W) : (x.n2 = l2.length ∧ x.n3 = l3.length) ∧ (Kd.C (Kd.int .i64) W x.A2 l2.length l2 ∧ l2.length ≤ x.c2) ∧ (Kd.C k40 W x.A3 l3.length l3 ∧ l3.length ≤ x.c3) := by
  obtain ⟨a1, a2, a3⟩ := Kd.R_reads' h.1
  obtain ⟨b1, b2, b3⟩ := Kd.S_reads' h.2
  exact ⟨⟨a1, b1⟩, ⟨a3, by omega⟩, ⟨kT_C b3, by omega⟩⟩
theorem row_reads {B : Nat} {x : Rx} {l : List Int} {W : World} (h : rowP B x l W) : x.n = l.length ∧ Kd.C (Kd.int .i64) W x.A l.length l ∧ l.length ≤ x.c := by
  obtain ⟨a1, a2, a3⟩ := Kd.R_reads' h
  exact ⟨a1, a3, by omega⟩
theorem toT (k : Nat) {a0 a1 : Int} {A2 A3 : Option Addr} {c2 c3 : Nat} {l2 : List Int} {l3 : List S36} {r1 r2 : Int} {r3 : List Int} {r4 : List S40} {w : World} (h2 : Kd.C (Kd.int .i64) w A2 l2.length l2) (g2 : l2.length ≤ c2) (h3 : Kd.C k36 w A3 l3.length l3) (g3 : l3.length ≤ c3) (W : World) (hb : Below w.heap.size w W) (h : laws_toTerm.f k a0 a1 l2 l3 = some (r1, r2, r3, r4)) :
    Calls Try.prog 18 #[.agg #[.int .i64 a0, .int .i64 a1, .slice A2 l2.length c2, .slice A3 l3.length c3]] W fun e w' => ∃ x : Tx, e = .returned (.agg #[.int .i64 r1, .int .i64 r2, .slice x.A2 x.n2 x.c2, .slice x.A3 x.n3 x.c3]) ∧ (termP w.heap.size x r3 r4 w' ∧ W.heap.size ≤ x.lo ∧ x.hi ≤ w'.heap.size) ∧ Below W.heap.size W w' := by
  refine (toTermT k a0 a1 _ _ l2 _ _ l3 r1 r2 r3 r4 W (Kd.C_below h2 hb) g2 (Kd.C_below h3 hb) g3 h).mono ?_
  rintro e w' ⟨v2, v3, f, rfl, hm, hb'⟩
  obtain ⟨x, rfl, rfl, hp⟩ := term_new hb.size hb'.size hm
  exact ⟨x, rfl, hp, hb'⟩
theorem toI (k : Nat) {A : Option Addr} {c : Nat} {l r : List Int} {w : World} (h1 : Kd.C (Kd.int .i64) w A l.length l) (g1 : l.length ≤ c) (W : World) (hb : Below w.heap.size w W) (h : laws_toIntS.f k l = some r) :
    Calls Try.prog 17 #[.slice A l.length c] W fun e w' => ∃ x : Rx, e = .returned (.slice x.A x.n x.c) ∧ (rowP w.heap.size x r w' ∧ W.heap.size ≤ x.lo ∧ x.hi ≤ w'.heap.size) ∧ Below W.heap.size W w' := by
  refine (laws_toIntS.calls k _ _ l r W (Kd.C_below h1 hb) g1 h).mono ?_
  rintro e w' ⟨v, rfl, o, hb'⟩
  obtain ⟨x, rfl, hp⟩ := row_new hb.size hb'.size o
  exact ⟨x, rfl, hp, hb'⟩
theorem eqT (k : Nat) {B : Nat} {x y : Tx} {a0 a1 b0 b1 : Int} {l2 m2 : List Int} {l3 m3 : List S40} {r : Bool} {W : World} (hx : termP B x l2 l3 W) (hy : termP B y m2 m3 W) (h : laws_eqTerm.f k a0 a1 l2 l3 b0 b1 m2 m3 = some r) :
    Calls Try.prog 20 #[.agg #[.int .i64 a0, .int .i64 a1, .slice x.A2 x.n2 x.c2, .slice x.A3 x.n3 x.c3], .agg #[.int .i64 b0, .int .i64 b1, .slice y.A2 y.n2 y.c2, .slice y.A3 y.n3 y.c3]] W fun e w' => e = .returned (.bool r) ∧ Below W.heap.size W w' := by
  obtain ⟨⟨e2, e3⟩, ⟨p2, q2⟩, ⟨p3, q3⟩⟩ := term_reads hx
  obtain ⟨⟨f2, f3⟩, ⟨s2, t2⟩, ⟨s3, t3⟩⟩ := term_reads hy
  rw [e2, e3, f2, f3]
  exact laws_eqTerm.calls k a0 a1 _ _ l2 _ _ l3 b0 b1 _ _ m2 _ _ m3 r W p2 q2 p3 q3 s2 t2 s3 t3 h
theorem eqI (k : Nat) {B : Nat} {x y : Rx} {l m : List Int} {r : Bool} {W : World} (hx : rowP B x l W) (hy : rowP B y m W) (h : laws_eqIntS.f k l m = some r) :
    Calls Try.prog 21 #[.slice x.A x.n x.c, .slice y.A y.n y.c] W fun e w' => e = .returned (.bool r) ∧ Below W.heap.size W w' := by
  obtain ⟨e1, p1, q1⟩ := row_reads hx
  obtain ⟨f1, s1, t1⟩ := row_reads hy
  rw [e1, f1]
  refine (laws_eqIntS.calls k _ _ l _ _ m r W p1 q1 s1 t1 h).mono ?_
  rintro e w' ⟨rfl, hd⟩
  exact ⟨rfl, below_of_drawn hd⟩
theorem heldT (k : Nat) {B : Nat} {x : Tx} {a0 a1 a : Int} {l2 : List Int} {l3 : List S40} {r : Int} {W : World} (hx : termP B x l2 l3 W) (h : laws_heldTerm.f k a0 a1 l2 l3 a = some r) :
    Calls Try.prog 24 #[.agg #[.int .i64 a0, .int .i64 a1, .slice x.A2 x.n2 x.c2, .slice x.A3 x.n3 x.c3], .int .i64 a] W fun e w' => e = .returned (.int .i64 r) ∧ Below W.heap.size W w' := by
  obtain ⟨⟨e2, e3⟩, ⟨p2, q2⟩, ⟨p3, q3⟩⟩ := term_reads hx
  rw [e2, e3]
  exact laws_heldTerm.calls k a0 a1 _ _ l2 _ _ l3 a r W p2 q2 p3 q3 h
theorem markT (k : Nat) {w : World} {x : Tx} {a0 a1 a : Int} {l2 m2 : List Int} {l3 m3 : List S40} {r1 : Int} {W : World} (hB : Below w.heap.size w W) (hx : termP w.heap.size x l2 l3 W) (h : laws_markTerm.f k l2 l3 a = some (r1, m2, m3)) :
    Calls Try.prog 23 #[.agg #[.int .i64 a0, .int .i64 a1, .slice x.A2 x.n2 x.c2, .slice x.A3 x.n3 x.c3], .int .i64 a] W fun e w' => e = .returned (.int .i64 r1) ∧ termP w.heap.size x m2 m3 w' ∧ Below w.heap.size w w' ∧ Kept W w' (fun k => x.lo ≤ k ∧ k < x.hi) := by
  refine (laws_markTerm.calls k (fun k => x.lo ≤ k ∧ k < x.hi) x.f a0 a1 _ _ l2 l3 a r1 m2 m3 w W hB hx.1 hx.2 h).mono ?_
  rintro e w' ⟨rfl, o1, o2, hb, hk⟩
  exact ⟨rfl, ⟨o1, o2⟩, hb, hk⟩
theorem markI (k : Nat) {w : World} {x : Rx} {a : Int} {l m : List Int} {r1 : Int} {W : World} (hB : Below w.heap.size w W) (hx : rowP w.heap.size x l W) (h : laws_markIntS.f k l a = some (r1, m)) :
    Calls Try.prog 22 #[.slice x.A x.n x.c, .int .i64 a] W fun e w' => e = .returned (.int .i64 r1) ∧ rowP w.heap.size x m w' ∧ Below w.heap.size w w' ∧ Kept W w' (fun k => x.lo ≤ k ∧ k < x.hi) := by
  have t1 := Kd.R_tight rfl hx
  have in1 := hx.1
  refine (laws_markIntS.calls k _ _ l a r1 m w W hB t1 h).mono ?_
  rintro e w' ⟨rfl, o1, hb, hk⟩
  exact ⟨rfl, Kd.R_mono (Kd.R_tight rfl o1) fun k hk => in1 k hk.symm, hb, hk.mono fun k hk => in1 k hk.symm⟩
end Go.Proofs.Ytipfkicndjddgaa.P
end
