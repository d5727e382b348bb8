-- Several texts in one (wip/tools/merge.py).
import Derived.Test.YtlhiacnmcckjgaaDoorM1
import Derived.Test.YtlhiacnmcckjgaaDoorM2
import Derived.Test.YtlhiacnmcckjgaaDoorM3
import Derived.IntWalk
import Derived.Test.YtlhiacnmcckjgaaDoorS0
section
/- The plain laws: loops, copies, comparisons. -/
set_option linter.unusedSimpArgs false
set_option linter.unusedVariables false
namespace Go.Proofs.YtlhiacnmcckjgaaDoor.Pure
open Go.RowKit Go.Proofs.YtlhiacnmcckjgaaDoor.P Go.Proofs.YtlhiacnmcckjgaaDoorW.PrintWords Go.Proofs.YtlhiacnmcckjgaaDoorW.PrintLast
theorem evCongr {α : Type} {g f : Nat → Option α} {r : α} (h : ∀ k, g k = f k) (k : Ev f r) : Ev g r := by
  obtain ⟨K, k⟩ := k
  exact ⟨K, fun n hn => (h n).trans (k n hn)⟩
theorem evRounds {α : Type} {g : Nat → Option α} {r : α} (h : Ev g r) : ∃ k, g k = some r := by
  obtain ⟨K, h⟩ := h
  exact ⟨K, h K (Nat.le_refl _)⟩
/-! ## Loops -/
def findO {α : Type} (g : Int → Option α) : Int → Nat → Option α
  | _, 0 => none
  | x, m + 1 => (g x).or (findO g (x + 1) m)
theorem findO_none {α : Type} {g : Int → Option α} : ∀ (m : Nat) (x : Int), findO g x m = none → ∀ y, x ≤ y → y < x + m → g y = none
  | 0, x, _, y, h1, h2 => by omega
  | m + 1, x, h, y, h1, h2 => by
    have h' : (g x).or (findO g (x + 1) m) = none := h
    rw [Option.or_eq_none_iff] at h'
    by_cases e : y = x
    · rw [e]; exact h'.1
    · exact findO_none m (x + 1) h'.2 y (by omega) (by omega)
theorem findO_congr {α : Type} {g g' : Int → Option α} : ∀ (m : Nat) (x : Int), (∀ y, x ≤ y → y < x + m → g y = g' y) → findO g x m = findO g' x m
  | 0, _, _ => rfl
  | m + 1, x, h => by
    show (g x).or (findO g (x + 1) m) = (g' x).or (findO g' (x + 1) m)
    rw [h x (by omega) (by omega), findO_congr m (x + 1) fun y h1 h2 => h y (by omega) (by omega)]
theorem findO_nil {α : Type} : ∀ (m : Nat) (x : Int), findO (fun _ => (none : Option α)) x m = none
  | 0, _ => rfl
  | m + 1, x => findO_nil m (x + 1)
theorem loop {α : Type} {F : Nat → Int → Option α} {n : Int} {g : Int → Option α} {e : α} (he : Ev (fun k => F k n) e)
    (hs : ∀ x, 0 ≤ x → x < n → ∀ r, Ev (fun k => F k (x + 1)) r → Ev (fun k => F k x) ((g x).getD r)) :
    ∀ (m : Nat) (x : Int), 0 ≤ x → x + m = n → Ev (fun k => F k x) ((findO g x m).getD e)
  | 0, x, _, h => by
    obtain rfl : x = n := by omega
    exact he
  | m + 1, x, h0, h => by
    have ih := loop he hs m (x + 1) (by omega) (by omega)
    have := hs x h0 (by omega) _ ih
    show Ev _ (((g x).or (findO g (x + 1) m)).getD e)
    revert this
    cases g x <;> exact id
theorem loop0 {α : Type} {F : Nat → Int → Option α} {n : Int} {g : Int → Option α} {e : α} (hn : 0 ≤ n) (he : Ev (fun k => F k n) e)
    (hs : ∀ x, 0 ≤ x → x < n → ∀ r, Ev (fun k => F k (x + 1)) r → Ev (fun k => F k x) ((g x).getD r)) : Ev (fun k => F k 0) ((findO g 0 n.toNat).getD e) :=
  loop he hs n.toNat 0 (by omega) (by omega)
theorem loop_hit {α : Type} {F : Nat → Int → Option α} {n : Int} {g : Int → Option α} {v : α}
    (hs : ∀ x, 0 ≤ x → x < n → ∀ r, (g x = none → Ev (fun k => F k (x + 1)) r) → Ev (fun k => F k x) ((g x).getD r)) :
    ∀ (m : Nat) (x : Int), 0 ≤ x → x + m = n → findO g x m = some v → Ev (fun k => F k x) v
  | 0, x, _, _, h => by cases h
  | m + 1, x, h0, h, hf => by
    have hf' : (g x).or (findO g (x + 1) m) = some v := hf
    have := hs x h0 (by omega) v
    cases c : g x with
    | none =>
      rw [c] at hf' this
      exact this fun _ => loop_hit hs m (x + 1) (by omega) (by omega) hf'
    | some u =>
      rw [c] at hf' this
      obtain rfl : u = v := Option.some.inj hf'
      exact this (fun h => by cases h)
theorem w64 {x : Int} (h1 : -9223372036854775808 ≤ x) (h2 : x ≤ 9223372036854775807) : wrap64 x = x := by unfold wrap64; omega
/-! ## Copies and sizes -/
theorem wf_range {x : Int} (h : (Lit.int .i64 x).wf = true) : -9223372036854775808 ≤ x ∧ x ≤ 9223372036854775807 := by
  simp [Lit.wf, IntKind.min, IntKind.max, IntKind.signed, IntKind.bits] at h
  exact h
theorem rd_get {l : List Int} {i : Nat} (h : i < l.length) : rd l (i : Int) = l[i] := by
  unfold rd; rw [Int.toNat_natCast, List.getD_eq_getElem?_getD, List.getElem?_eq_getElem h]; rfl
theorem rdB_get {l : List Bool} {i : Nat} (h : i < l.length) : rdOf false l (i : Int) = l[i] := by
  unfold rdOf; rw [Int.toNat_natCast, List.getD_eq_getElem?_getD, List.getElem?_eq_getElem h]; rfl
theorem toIntS_loop (l : List Int) (hl : l.length ≤ 1048576) : ∀ (m i : Nat) (acc : List Int), i + m = l.length → acc.length = l.length → acc.take i = l.take i → Ev (fun k => laws_toIntS.l0 k l acc (i : Int)) l
  | 0, i, acc, h, ha, ht => by
    have : acc = l := by
      have h1 : acc.take i = acc := List.take_of_length_le (by omega)
      have h2 : l.take i = l := List.take_of_length_le (by omega)
      rw [← h1, ht, h2]
    subst this
    refine Ev.step (f := fun _ => some acc) (fun k => ?_) (Ev.now _)
    simp only [laws_toIntS.l0]
    rw [if_neg (by omega)]
  | m + 1, i, acc, h, ha, ht => by
    have ih := toIntS_loop l hl m (i + 1) (acc.set i (rd l (i : Int))) (by omega) (by simp [ha]) (by
      rw [rd_get (by omega)]
      apply List.ext_getElem (by simp [ha])
      intro j h1 h2
      simp only [List.length_take] at h2
      rw [List.getElem_take, List.getElem_take, List.getElem_set]
      split
      · next e => subst e; rfl
      · next e =>
        have e1 : (acc.take i)[j]'(by simp; omega) = (l.take i)[j]'(by simp; omega) := by simp only [ht]
        rw [List.getElem_take, List.getElem_take] at e1
        exact e1)
    refine Ev.step (fun k => ?_) ih
    simp only [laws_toIntS.l0]
    rw [if_pos (by omega), if_pos (by omega), if_pos (by omega), w64 (by omega) (by omega)]
    simp
theorem toIntS (l : List Int) (hl : l.length ≤ 1048576) : Ev (fun k => laws_toIntS.f k l) l := by
  unfold laws_toIntS.f
  refine evCongr (fun k => (if_pos (by omega)).trans (if_pos (by omega))) ?_
  exact toIntS_loop l hl l.length 0 _ (by omega) (by simp) (by simp)
theorem eqIntS (l : List Int) (hl : l.length ≤ 1048576) : Ev (fun k => laws_eqIntS.f k l l) true := by
  unfold laws_eqIntS.f
  refine evCongr (fun k => if_pos rfl) ?_
  have hh : (findO (fun _ => (none : Option Bool)) 0 (l.length : Int).toNat).getD true = true := by rw [findO_nil]; rfl
  rw [← hh]
  refine loop0 (F := fun k x => laws_eqIntS.l0 k l l x) (n := (l.length : Int)) (g := fun _ => none) (e := true) (by omega) ?_ ?_
  · refine Ev.step (f := fun _ => some true) (fun k => ?_) (Ev.now _)
    simp only [laws_eqIntS.l0]; rw [if_neg (by omega)]
  · intro x h0 h1 r hr
    refine Ev.step (fun k => ?_) hr
    simp only [laws_eqIntS.l0]; rw [if_pos h1, if_pos h0, if_pos h1, w64 (by omega) (by omega)]; simp
def inV (x lo hi : Int) : Bool := decide (x ≥ lo) && decide (x ≤ hi)
theorem in_eq (x lo hi : Int) : spec_l1In.f x lo hi = some (inV x lo hi) := by
  unfold spec_l1In.f inV
  by_cases c : x ≥ lo
  · rw [if_pos c]; simp [c]
  · rw [if_neg c]; simp [c]
theorem within_eq (x lo hi : Int) : impl_within.f x lo hi = some (inV x lo hi) := in_eq x lo hi
end Go.Proofs.YtlhiacnmcckjgaaDoor.Pure
end

section
/- Terms: copies, sizes, comparisons. -/
set_option linter.unusedSimpArgs false
set_option linter.unusedVariables false
namespace Go.Proofs.YtlhiacnmcckjgaaDoor.Pure
open Go.RowKit Go.Proofs.YtlhiacnmcckjgaaDoor.P Go.Proofs.YtlhiacnmcckjgaaDoorW.PrintWords Go.Proofs.YtlhiacnmcckjgaaDoorW.PrintLast
/-! ## Terms of the laws and of the program -/
theorem kid_lt {x y : S29} (h : y ∈ x.f3) : SizeOf.sizeOf y < SizeOf.sizeOf x := by
  have := List.sizeOf_lt_of_mem h
  cases x
  simp at this ⊢
  omega
theorem kid_ltI {x y : S34} (h : y ∈ x.f3) : SizeOf.sizeOf y < SizeOf.sizeOf x := by
  have := List.sizeOf_lt_of_mem h
  cases x
  simp at this ⊢
  omega
theorem indL {P : S29 → Prop} (h : ∀ x, (∀ y ∈ x.f3, P y) → P x) : ∀ (n : Nat) (x : S29), SizeOf.sizeOf x < n → P x
  | 0, x, hn => absurd hn (by omega)
  | n + 1, x, hn => h x fun y hy => indL h n y (by have := kid_lt hy; omega)
theorem indI {P : S34 → Prop} (h : ∀ x, (∀ y ∈ x.f3, P y) → P x) : ∀ (n : Nat) (x : S34), SizeOf.sizeOf x < n → P x
  | 0, x, hn => absurd hn (by omega)
  | n + 1, x, hn => h x fun y hy => indI h n y (by have := kid_ltI hy; omega)
def conv (x : S29) : S34 := ⟨x.f0, x.f1, x.f2, x.f3.attach.map fun y => conv y.1⟩
termination_by SizeOf.sizeOf x
decreasing_by exact kid_lt y.2
theorem conv_eq (x : S29) : conv x = ⟨x.f0, x.f1, x.f2, x.f3.map conv⟩ := by
  rw [conv]
  congr 1
  rw [List.attach_map_val (f := conv)]
inductive Small : S34 → Prop
  | mk (a b : Int) (t : List Int) (ks : List S34) : t.length ≤ 1048576 → ks.length ≤ 1048576 → (∀ y ∈ ks, Small y) → Small ⟨a, b, t, ks⟩
theorem Small.out {x : S34} (h : Small x) : x.f2.length ≤ 1048576 ∧ x.f3.length ≤ 1048576 ∧ ∀ y ∈ x.f3, Small y := by
  cases h with
  | mk _ _ _ _ h1 h2 h3 => exact ⟨h1, h2, h3⟩
theorem small_of {x : S34} (h1 : x.f2.length ≤ 1048576) (h2 : x.f3.length ≤ 1048576) (h3 : ∀ y ∈ x.f3, Small y) : Small x := by
  cases x; exact .mk _ _ _ _ h1 h2 h3
theorem rdL_get {l : List S29} {i : Nat} (h : i < l.length) : rd_T29 l (i : Int) = l[i] := by
  unfold rd_T29; rw [Int.toNat_natCast, List.getD_eq_getElem?_getD, List.getElem?_eq_getElem h]; rfl
theorem rdI_get {l : List S34} {i : Nat} (h : i < l.length) : rd_T34 l (i : Int) = l[i] := by
  unfold rd_T34; rw [Int.toNat_natCast, List.getD_eq_getElem?_getD, List.getElem?_eq_getElem h]; rfl
theorem maxLen_le : maxLen ≤ 9223372036854775807 := by decide
theorem szIntS_ev (l : List Int) (a : Int) (ha : 0 ≤ a) (hb : a ≤ 1048576) (hl : l.length ≤ maxLen) : ∃ v, laws_szIntS.f l a = some v ∧ -1 ≤ v ∧ v ≤ a ∧ (0 ≤ v → l.length ≤ 1048576) := by
  have := maxLen_le
  unfold laws_szIntS.f
  rw [w64 (x := a - (l.length : Int)) (by omega) (by omega)]
  by_cases c : a - (l.length : Int) < 0
  · rw [if_pos c]; exact ⟨-1, rfl, by omega, by omega, by omega⟩
  · rw [if_neg c]; exact ⟨_, rfl, by omega, by omega, by omega⟩
theorem szTermE (x : S29) (hw : Wf29 x) : ∀ a : Int, 0 ≤ a → a ≤ 1048576 → ∃ v, Ev (fun k => laws_szTerm.f k x.f0 x.f1 x.f2 x.f3 a) v ∧ -1 ≤ v ∧ v ≤ a ∧ (0 ≤ v → Small (conv x)) := by
  revert hw
  refine indL (P := fun x => Wf29 x → ∀ a : Int, 0 ≤ a → a ≤ 1048576 → ∃ v, Ev (fun k => laws_szTerm.f k x.f0 x.f1 x.f2 x.f3 a) v ∧ -1 ≤ v ∧ v ≤ a ∧ (0 ≤ v → Small (conv x))) ?_ (SizeOf.sizeOf x + 1) x (by omega)
  clear x
  intro x ih hw a ha hb
  have hm := maxLen_le
  obtain ⟨_, _, ⟨_, w2⟩, wk, w3⟩ := hw.out
  obtain ⟨v, e1, v1, v2, v3⟩ := szIntS_ev x.f2 a ha hb w2
  have step : ∀ {r : Int}, Ev (fun k => if v < 0 then some (-1) else (laws_szTermS.f k x.f3 v).bind fun t => if t < 0 then some (-1) else some t) r → Ev (fun k => laws_szTerm.f k x.f0 x.f1 x.f2 x.f3 a) r := fun h => Ev.step (fun k => by simp only [laws_szTerm.f, e1, Option.bind_some]) h
  by_cases c : v < 0
  · exact ⟨-1, step (by simpa [c] using Ev.now (-1 : Int)), by omega, by omega, by omega⟩
  · have lp : ∀ (m i : Nat) (acc : Int), i + m = x.f3.length → 0 ≤ acc → acc ≤ v - x.f3.length → ∃ u, Ev (fun k => laws_szTermS.l0 k x.f3 acc (i : Int)) u ∧ -1 ≤ u ∧ u ≤ acc ∧ (0 ≤ u → ∀ y ∈ x.f3.drop i, Small (conv y)) := by
      intro m
      induction m with
      | zero =>
        intro i acc hi h0 h1
        refine ⟨acc, Ev.step (f := fun _ => some acc) (fun k => ?_) (Ev.now _), by omega, by omega, fun _ y hy => ?_⟩
        · simp only [laws_szTermS.l0]; rw [if_neg (by omega)]
        · rw [List.drop_eq_nil_of_le (by omega)] at hy; cases hy
      | succ m ihm =>
        intro i acc hi h0 h1
        have hmem : x.f3[i] ∈ x.f3 := List.getElem_mem _
        obtain ⟨u, hu, u1, u2, u3⟩ := ih _ hmem (wk _ hmem) acc h0 (by omega)
        have st : ∀ {r : Int}, Ev (fun k => if u < 0 then some (-1) else laws_szTermS.l0 k x.f3 u ((i + 1 : Nat) : Int)) r → Ev (fun k => laws_szTermS.l0 k x.f3 acc (i : Int)) r := fun h => by
          refine Ev.step (f := fun k => (laws_szTerm.f k x.f3[i].f0 x.f3[i].f1 x.f3[i].f2 x.f3[i].f3 acc).bind fun t => if t < 0 then some (-1) else laws_szTermS.l0 k x.f3 t ((i + 1 : Nat) : Int)) (fun k => ?_) (Ev.bind hu h)
          simp only [laws_szTermS.l0, rdL_get (show i < x.f3.length by omega)]
          rw [if_pos (by omega), if_pos (by omega), w64 (x := (i : Int) + 1) (by omega) (by omega)]; rfl
        by_cases cu : u < 0
        · exact ⟨-1, st (by simpa [cu] using Ev.now (-1 : Int)), by omega, by omega, by omega⟩
        · obtain ⟨z, hz, z1, z2, z3⟩ := ihm (i + 1) u (by omega) (by omega) (by omega)
          refine ⟨z, st (by simpa [cu] using hz), z1, by omega, fun h y hy => ?_⟩
          rw [List.drop_eq_getElem_cons (by omega)] at hy
          rcases List.mem_cons.mp hy with rfl | hy
          · exact u3 (by omega)
          · exact z3 h y hy
    have st2 : ∀ {r : Int}, Ev (fun k => (laws_szTermS.f k x.f3 v).bind fun t => if t < 0 then some (-1) else some t) r → Ev (fun k => laws_szTerm.f k x.f0 x.f1 x.f2 x.f3 a) r := fun h => step (by simpa [c] using h)
    by_cases c2 : v - (x.f3.length : Int) < 0
    · refine ⟨-1, st2 (Ev.bind (a := -1) (Ev.step (f := fun _ => some (-1)) (fun k => ?_) (Ev.now _)) (by simpa using Ev.now (-1 : Int))), by omega, by omega, by omega⟩
      simp only [laws_szTermS.f]; rw [w64 (x := v - (x.f3.length : Int)) (by omega) (by omega), if_pos c2]
    · obtain ⟨u, hu, u1, u2, u3⟩ := lp x.f3.length 0 (v - x.f3.length) (by omega) (by omega) (by omega)
      have hS : Ev (fun k => laws_szTermS.f k x.f3 v) u := by
        refine Ev.step (fun k => ?_) hu
        simp only [laws_szTermS.f]; rw [w64 (x := v - (x.f3.length : Int)) (by omega) (by omega), if_neg c2]; rfl
      by_cases cu : u < 0
      · exact ⟨-1, st2 (Ev.bind hS (by simpa [cu] using Ev.now (-1 : Int))), by omega, by omega, by omega⟩
      · refine ⟨u, st2 (Ev.bind hS (by simpa [cu] using Ev.now u)), u1, by omega, fun h => ?_⟩
        rw [conv_eq]
        refine .mk _ _ _ _ (v3 (by omega)) (by simp; omega) fun y hy => ?_
        obtain ⟨y', hy', rfl⟩ := List.mem_map.mp hy
        exact u3 h y' (by simpa using hy')
theorem toTermE (x : S29) (hs : Small (conv x)) : Ev (fun k => laws_toTerm.f k x.f0 x.f1 x.f2 x.f3) ((conv x).f0, (conv x).f1, (conv x).f2, (conv x).f3) := by
  revert hs
  refine indL (P := fun x => Small (conv x) → Ev (fun k => laws_toTerm.f k x.f0 x.f1 x.f2 x.f3) ((conv x).f0, (conv x).f1, (conv x).f2, (conv x).f3)) ?_ (SizeOf.sizeOf x + 1) x (by omega)
  clear x
  intro x ih hs
  rw [conv_eq] at hs
  obtain ⟨s2, s3, sk⟩ := hs.out
  simp only [List.length_map] at s3
  rw [conv_eq]
  have lp : ∀ (m i : Nat) (pre rest : List S34), i + m = x.f3.length → pre.length = i → rest.length = m → Ev (fun k => laws_toTermS.l0 k x.f3 (pre ++ rest) (i : Int)) (pre ++ (x.f3.drop i).map conv) := by
    intro m
    induction m with
    | zero =>
      intro i pre rest hi hp hr
      obtain rfl : rest = [] := List.length_eq_zero_iff.mp hr
      rw [List.drop_eq_nil_of_le (by omega)]
      refine Ev.step (f := fun _ => some (pre ++ [])) (fun k => ?_) (by simpa using Ev.now pre)
      simp only [laws_toTermS.l0]; rw [if_neg (by omega)]
    | succ m ihm =>
      intro i pre rest hi hp hr
      obtain ⟨z, zs, rfl⟩ : ∃ z zs, rest = z :: zs := by cases rest with | nil => cases hr | cons z zs => exact ⟨z, zs, rfl⟩
      have hmem : x.f3[i] ∈ x.f3 := List.getElem_mem _
      have h1 := ih _ hmem (sk _ (List.mem_map.mpr ⟨_, hmem, rfl⟩))
      have h2 := ihm (i + 1) (pre ++ [conv x.f3[i]]) zs (by omega) (by simp [hp]) (by simpa using hr)
      have e1 : (pre ++ z :: zs).set i (conv x.f3[i]) = (pre ++ [conv x.f3[i]]) ++ zs := by subst hp; simp
      have e2 : pre ++ (x.f3.drop i).map conv = (pre ++ [conv x.f3[i]]) ++ (x.f3.drop (i + 1)).map conv := by
        rw [List.drop_eq_getElem_cons (show i < x.f3.length by omega), List.map_cons, List.append_assoc]; rfl
      rw [e2]
      refine Ev.step (f := fun k => (laws_toTerm.f k x.f3[i].f0 x.f3[i].f1 x.f3[i].f2 x.f3[i].f3).bind fun b => laws_toTermS.l0 k x.f3 ((pre ++ z :: zs).set i ⟨b.1, b.2.1, b.2.2.1, b.2.2.2⟩) ((i + 1 : Nat) : Int)) (fun k => ?_) (Ev.bind h1 ?_)
      · simp only [laws_toTermS.l0, rdL_get (show i < x.f3.length by omega)]
        have ln : (i : Int) < ((pre ++ z :: zs).length : Int) := by simp; omega
        rw [if_pos (by omega), if_pos (by omega), w64 (x := (i : Int) + 1) (by omega) (by omega)]
        simp only [if_pos ln, Int.toNat_natCast]
        congr 1
      · have eta : (⟨(conv x.f3[i]).f0, (conv x.f3[i]).f1, (conv x.f3[i]).f2, (conv x.f3[i]).f3⟩ : S34) = conv x.f3[i] := by cases conv x.f3[i]; rfl
        simp only [eta]
        rw [e1]; exact h2
  have hS : Ev (fun k => laws_toTermS.f k x.f3) (x.f3.map conv) := by
    have := lp x.f3.length 0 [] (List.replicate x.f3.length z34) (by omega) rfl (by simp)
    simp only [List.nil_append, List.drop_zero] at this
    refine Ev.step (fun k => ?_) this
    simp only [laws_toTermS.f]
    rw [if_pos (by omega), if_pos (by omega), Int.toNat_natCast]; rfl
  refine Ev.step (f := fun k => (laws_toIntS.f k x.f2).bind fun u => (laws_toTermS.f k x.f3).bind fun v => some (x.f0, x.f1, u, v)) (fun k => by simp only [laws_toTerm.f]) ?_
  refine Ev.bind (toIntS x.f2 s2) ?_
  refine Ev.bind hS ?_
  exact Ev.now _
theorem eqTermE (x : S34) (hs : Small x) : Ev (fun k => laws_eqTerm.f k x.f0 x.f1 x.f2 x.f3 x.f0 x.f1 x.f2 x.f3) true := by
  revert hs
  refine indI (P := fun x => Small x → Ev (fun k => laws_eqTerm.f k x.f0 x.f1 x.f2 x.f3 x.f0 x.f1 x.f2 x.f3) true) ?_ (SizeOf.sizeOf x + 1) x (by omega)
  clear x
  intro x ih hs
  obtain ⟨s2, s3, sk⟩ := hs.out
  have hS : Ev (fun k => laws_eqTermS.f k x.f3 x.f3) true := by
    refine Ev.step (f := fun k => laws_eqTermS.l0 k x.f3 x.f3 0) (fun k => by simp only [laws_eqTermS.f, if_true]) ?_
    have hh : (findO (fun _ => (none : Option Bool)) 0 (x.f3.length : Int).toNat).getD true = true := by rw [findO_nil]; rfl
    rw [← hh]
    refine loop0 (F := fun k i => laws_eqTermS.l0 k x.f3 x.f3 i) (n := (x.f3.length : Int)) (g := fun _ => none) (e := true) (by omega) ?_ ?_
    · refine Ev.step (f := fun _ => some true) (fun k => ?_) (Ev.now _)
      simp only [laws_eqTermS.l0]; rw [if_neg (by omega)]
    · intro i h0 h1 r hr
      obtain ⟨j, rfl⟩ : ∃ j : Nat, i = j := ⟨i.toNat, by omega⟩
      have hmem : x.f3[j]'(by omega) ∈ x.f3 := List.getElem_mem _
      have h2 := ih _ hmem (sk _ hmem)
      refine Ev.step (f := fun k => (laws_eqTerm.f k (x.f3[j]'(by omega)).f0 (x.f3[j]'(by omega)).f1 (x.f3[j]'(by omega)).f2 (x.f3[j]'(by omega)).f3 (x.f3[j]'(by omega)).f0 (x.f3[j]'(by omega)).f1 (x.f3[j]'(by omega)).f2 (x.f3[j]'(by omega)).f3).bind fun t => if t = true then laws_eqTermS.l0 k x.f3 x.f3 ((j : Int) + 1) else some false) (fun k => ?_) (Ev.bind h2 (by simpa using hr))
      simp only [laws_eqTermS.l0, rdI_get (show j < x.f3.length by omega)]
      rw [if_pos h1, if_pos h0, if_pos h1, w64 (x := (j : Int) + 1) (by omega) (by omega)]
  refine Ev.step (f := fun k => (laws_eqIntS.f k x.f2 x.f2).bind fun t => if t = true then ((laws_eqTermS.f k x.f3 x.f3).bind fun t => if t = true then some true else some false) else some false) (fun k => by simp only [laws_eqTerm.f, if_true]) ?_
  refine Ev.bind (eqIntS x.f2 s2) ?_
  simp only [if_true]
  refine Ev.bind hS ?_
  simp only [if_true]
  exact Ev.now _
end Go.Proofs.YtlhiacnmcckjgaaDoor.Pure
end

section
namespace Go.Proofs.YtlhiacnmcckjgaaDoor.P
open Go.RowKit Go.Proofs.YtlhiacnmcckjgaaDoorW.PrintWords Go.Proofs.YtlhiacnmcckjgaaDoorW.PrintLast Go.Proofs.YtlhiacnmcckjgaaDoorW.PrintMore
attribute [local go_sem] max2_int min2_int max_two min_two max_three min_three max_four min_four   -- for this text's walks alone
set_option linter.unusedVariables false
set_option linter.unusedSimpArgs false

/-! ### spec_l2Left: function 36 -/
mutual
def spec_l2Left.l0 : Nat → Int → Int → Int → Int → List Int → List (S34) → Option (Int)
 | 0, _, _, _, _, _, _ => none
 | k + 1, x1, x5, x107000, x107001, x107002, x107003 => if x5 < (x107003.length : Int) then (if x1 ≥ 0 then (if 0 ≤ x5 then ((spec_l2Left.f k ((rd_T34 x107003 x5).f0) ((rd_T34 x107003 x5).f1) ((rd_T34 x107003 x5).f2) ((rd_T34 x107003 x5).f3) x1).bind fun t108 => (spec_l2Left.l0 k t108 (wrap64 (x5 + 1)) x107000 x107001 x107002 x107003)) else (none)) else (some x1)) else (some x1)
def spec_l2Left.f : Nat → Int → Int → List Int → List (S34) → Int → Option (Int)
 | 0, _, _, _, _, _ => none
 | k + 1, a0_0, a0_1, l0_2, l0_3, a1 => spec_l2Left.l0 k (wrap64 (a1 - 1)) 0 a0_0 a0_1 l0_2 l0_3
end
set_option maxHeartbeats 8000000 in
set_option maxRecDepth 100000 in
theorem spec_l2Left.calls (k : Nat) : ∀ (a0_0 : Int) (a0_1 : Int) (A0_2 : Option Addr) (c0_2 : Nat) (l0_2 : List Int) (A0_3 : Option Addr) (c0_3 : Nat) (l0_3 : List (S34)) (a1 : Int) (r : Int) (w : World) (hr0_2 : Kd.C (Kd.int .i64) w A0_2 l0_2.length l0_2) (hc0_2 : l0_2.length ≤ c0_2) (hr0_3 : Kd.C k34 w A0_3 l0_3.length l0_3) (hc0_3 : l0_3.length ≤ c0_3) (h : spec_l2Left.f k a0_0 a0_1 l0_2 l0_3 a1 = some r),
  Calls Tryd.prog 36 #[.agg #[.int .i64 a0_0, .int .i64 a0_1, .slice A0_2 l0_2.length c0_2, .slice A0_3 l0_3.length c0_3], .int .i64 a1] w fun e w' => e = .returned (.int .i64 r) ∧ Below w.heap.size w w' := by
 induction k using Nat.strongRecOn with
 | _ k ih =>
 intro a0_0 a0_1 A0_2 c0_2 l0_2 A0_3 c0_3 l0_3 a1 r w hr0_2 hc0_2 hr0_3 hc0_3 h
 cases k with
 | zero => exact absurd h (by simp [spec_l2Left.f])
 | succ k =>
 simp only [spec_l2Left.f] at h
 have hu34 := Tryd.underlying34
 have HR0_2 := sd_ hr0_2
 have HC0_2 := sd_ hc0_2
 clear hr0_2 hc0_2
 have HR0_3 := sd_ hr0_3
 have HC0_3 := sd_ hc0_3
 clear hr0_3 hc0_3
 have HB := sd_ (Below.refl w.heap.size w)
 have H : (spec_l2Left.l0 k (wrap64 (a1 - 1)) 0 a0_0 a0_1 l0_2 l0_3) = some r := h
 clear h
 have H' := sd_ H
 clear H
 go_enter Tryd.func36, Tryd.ntmps36
 go_wp2_with (first | ((with_reducible refine gate_dst (N := 2) rfl ?_); refine bx_ (N := 2) (cs := #[.int .i64 a0_0, .int .i64 a0_1, .slice A0_2 l0_2.length c0_2, .slice A0_3 l0_3.length c0_3]) (t := 34) ?_; intro gb106 hg w3 hbox hb; have BK106 := sd_ (hbox); have GW106 := sd_ (gs_ hg (bw0_ HB.out)); have GE106 := sd_ (gs_ hg (bw0_ HB.out)); replace HB := sd_ (below_step (bw0_ HB.out) hb); clear hb hbox hg))
 go_loopg [1, 5] k (fun kq v1 v5 w' => ∃ (x1_1 : Int) (x5_1 : Int), v1 = .int .i64 x1_1 ∧ v5 = .int .i64 x5_1 ∧ Aside0 (spec_l2Left.l0 kq x1_1 x5_1 a0_0 a0_1 l0_2 l0_3 = some r) ∧ Aside0 (kq ≤ k) ∧ Aside0 (w'.heap[gb106]? = some (.cells #[.int .i64 a0_0, .int .i64 a0_1, (.slice A0_2 l0_2.length c0_2), (.slice A0_3 l0_3.length c0_3)] 34 (0, 0))) ∧ Aside0 (Below w.heap.size w w'))
 case atStart => exact ⟨(wrap64 (a1 - 1)), (0), sm_, sm_, H', ⟨Nat.le_refl _⟩, ⟨by exact bz_ BK106.out⟩, ⟨bw1_ HB.out GE106.out⟩⟩
 case round =>
  clear H'
  try clear p2
  try clear c3
  obtain ⟨x1_1, x5_1, rfl, rfl, HA, HK1, BK106, HB⟩ := hrel
  cases gk with
  | zero => exact absurd HA.out (by simp [spec_l2Left.l0])
  | succ k1 =>
   have H := HA.out
   clear HA
   simp only [spec_l2Left.l0] at H
   by_cases c4 : x5_1 < (l0_3.length : Int)
   ·rw [if_pos c4] at H
    have c4b0 : decide (x5_1 < (l0_3.length : Int)) = true := decide_eq_true c4
    clear c4
    by_cases c5 : x1_1 ≥ 0
    ·rw [if_pos c5] at H
     have c5b0 : decide (0 ≤ x1_1) = true := decide_eq_true c5
     clear c5
     by_cases c6 : 0 ≤ x5_1
     ·rw [if_pos c6] at H
      have c6b0 : decide (0 ≤ x5_1) = true := decide_eq_true c6
      clear c6
      replace H := Option.bind_eq_some_iff.mp H
      obtain ⟨t108, A70, H⟩ := H
      try dsimp only at H
      have A7 := sd_ A70
      clear A70
      have H' := sd_ H
      clear H
      obtain ⟨hcz8_0, hcz8_1, hcz8_2, hcz8_3, hfz8_0, hfz8_1, hfz8_2, hfz8_3⟩ := bf4_ BK106.out
      have p107 : 0 ≤ (x5_1 : Int) := dt_
      have q107 : x5_1 < (l0_3.length : Int) := dt_
      obtain ⟨ad107, A107_2, c107_2, A107_3, c107_3, e107, hx107_0, hx107_1, hx107_2, hx107_3, hl107_2, hi107_2, hl107_3, hi107_3⟩ := at_T34 HR0_3.out x5_1 p107 q107
      cases e107
      replace hx107_0 := (HB.out.cell (World.block_lt_of_cell? w _ hx107_0)).trans hx107_0
      replace hx107_1 := (HB.out.cell (World.block_lt_of_cell? w _ hx107_1)).trans hx107_1
      replace hx107_2 := (HB.out.cell (World.block_lt_of_cell? w _ hx107_2)).trans hx107_2
      replace hx107_3 := (HB.out.cell (World.block_lt_of_cell? w _ hx107_3)).trans hx107_3
      have HR107_2 := sd_ hi107_2
      have HC107_2 := sd_ hl107_2
      clear hi107_2 hl107_2
      have HR107_3 := sd_ hi107_3
      have HC107_3 := sd_ hl107_3
      clear hi107_3 hl107_3
      replace p107 := eq_true p107
      replace q107 := eq_true q107
      go_wp2_with (first | ((with_reducible refine gate_callee (f := 36) rfl ?_); refine goesL_ (some 25) rfl rfl Tryd.func36 (by kernel_rfl) rfl #[.agg #[.int .i64 ((rd_T34 l0_3 x5_1).f0), .int .i64 ((rd_T34 l0_3 x5_1).f1), .slice A107_2 ((rd_T34 l0_3 x5_1).f2).length c107_2, .slice A107_3 ((rd_T34 l0_3 x5_1).f3).length c107_3], .int .i64 x1_1] rfl la_ ?_; (with_reducible refine (ih k1 (by have := HK1.out; omega) ((rd_T34 l0_3 x5_1).f0) ((rd_T34 l0_3 x5_1).f1) _ _ ((rd_T34 l0_3 x5_1).f2) _ _ ((rd_T34 l0_3 x5_1).f3) x1_1 t108 _ ?side1 ?side2 ?side3 ?side4 A7.out).mono ?_); (case side1 => exact kc_ HR107_2.out HB.out); (case side2 => exact HC107_2.out); (case side3 => exact kc_ HR107_3.out HB.out); (case side4 => exact HC107_3.out); rintro e w9 ⟨rfl, hb⟩; refine ⟨_, rfl, ?_⟩; replace BK106 := sd_ (bb_ BK106.out hb); replace HB := sd_ (below_step (bw1_ HB.out GE106.out) hb); (try clear hb)))
      go_roundg k1
      case measure => have := HK1.out; omega
      case rel => exact ⟨(t108), (wrap64 (x5_1 + 1)), sm_, sm_, H', ⟨by have := HK1.out; omega⟩, ⟨by exact bz_ BK106.out⟩, ⟨bw1_ HB.out GE106.out⟩⟩
     rw [if_neg c6] at H
     exact absurd H (by simp)
    rw [if_neg c5] at H
    have c5b0 : decide (0 ≤ x1_1) = false := decide_eq_false c5
    clear c5
    obtain rfl := Option.some.inj H
    obtain ⟨hcz10_0, hcz10_1, hcz10_2, hcz10_3, hfz10_0, hfz10_1, hfz10_2, hfz10_3⟩ := bf4_ BK106.out
    go_wp2
    go_ret
    exact ⟨an_, bw1_ HB.out GE106.out⟩
   rw [if_neg c4] at H
   have c4b0 : decide (x5_1 < (l0_3.length : Int)) = false := decide_eq_false c4
   clear c4
   obtain rfl := Option.some.inj H
   obtain ⟨hcz11_0, hcz11_1, hcz11_2, hcz11_3, hfz11_0, hfz11_1, hfz11_2, hfz11_3⟩ := bf4_ BK106.out
   go_wp2
   go_ret
   exact ⟨an_, bw1_ HB.out GE106.out⟩


/-! ### spec_l2Word: function 38 -/
def spec_l2Word.f (a0 : Int) : Option (ByteArray) := (some (([(⟨#[97, 100, 100]⟩ : ByteArray), (⟨#[105, 102]⟩ : ByteArray), (⟨#[112, 97, 105, 114]⟩ : ByteArray), (⟨#[115, 112, 108, 105, 116]⟩ : ByteArray), (⟨#[108, 101, 102, 116]⟩ : ByteArray), (⟨#[114, 105, 103, 104, 116]⟩ : ByteArray), (⟨#[99, 97, 115, 101]⟩ : ByteArray), (⟨#[102, 117, 110]⟩ : ByteArray), (⟨#[97, 112, 112]⟩ : ByteArray), (⟨#[98, 111, 120]⟩ : ByteArray), (⟨#[111, 112, 101, 110]⟩ : ByteArray)] : List ByteArray) : List ByteArray)).bind fun y154 => (if 0 ≤ (wrap64 (a0 - 2)) then (if (wrap64 (a0 - 2)) < (y154.length : Int) then (some (rdOf ByteArray.empty y154 (wrap64 (a0 - 2)))) else (none)) else (none))
set_option maxHeartbeats 8000000 in
set_option maxRecDepth 100000 in
theorem spec_l2Word.calls (a0 : Int) (r : ByteArray) (w : World) (h : spec_l2Word.f a0 = some r) :
  Calls Tryd.prog 38 #[.int .i64 a0] w fun e w' => e = .returned (.string r) ∧ Below w.heap.size w w' := by
 have HB := sd_ (Below.refl w.heap.size w)
 have H : ((some (([(⟨#[97, 100, 100]⟩ : ByteArray), (⟨#[105, 102]⟩ : ByteArray), (⟨#[112, 97, 105, 114]⟩ : ByteArray), (⟨#[115, 112, 108, 105, 116]⟩ : ByteArray), (⟨#[108, 101, 102, 116]⟩ : ByteArray), (⟨#[114, 105, 103, 104, 116]⟩ : ByteArray), (⟨#[99, 97, 115, 101]⟩ : ByteArray), (⟨#[102, 117, 110]⟩ : ByteArray), (⟨#[97, 112, 112]⟩ : ByteArray), (⟨#[98, 111, 120]⟩ : ByteArray), (⟨#[111, 112, 101, 110]⟩ : ByteArray)] : List ByteArray) : List ByteArray)).bind fun y154 => (if 0 ≤ (wrap64 (a0 - 2)) then (if (wrap64 (a0 - 2)) < (y154.length : Int) then (some (rdOf ByteArray.empty y154 (wrap64 (a0 - 2)))) else (none)) else (none))) = some r := h
 clear h
 obtain ⟨y154, hy154⟩ : ∃ y_ : List ByteArray, y_ = (([(⟨#[97, 100, 100]⟩ : ByteArray), (⟨#[105, 102]⟩ : ByteArray), (⟨#[112, 97, 105, 114]⟩ : ByteArray), (⟨#[115, 112, 108, 105, 116]⟩ : ByteArray), (⟨#[108, 101, 102, 116]⟩ : ByteArray), (⟨#[114, 105, 103, 104, 116]⟩ : ByteArray), (⟨#[99, 97, 115, 101]⟩ : ByteArray), (⟨#[102, 117, 110]⟩ : ByteArray), (⟨#[97, 112, 112]⟩ : ByteArray), (⟨#[98, 111, 120]⟩ : ByteArray), (⟨#[111, 112, 101, 110]⟩ : ByteArray)] : List ByteArray)) := ⟨_, rfl⟩
 replace H : (if 0 ≤ (wrap64 (a0 - 2)) then (if (wrap64 (a0 - 2)) < (y154.length : Int) then (some (rdOf ByteArray.empty y154 (wrap64 (a0 - 2)))) else (none)) else (none)) = some r := by first | (rw [hy154]; with_reducible exact H) | (have H2_ := (Option.bind_some _ _).symm.trans H; rw [hy154]; with_reducible exact H2_) | (have H2_ := (Option.bind_some _ _).symm.trans H; with_reducible exact H2_) | with_reducible exact H | (rw [hy154]; exact H) | exact H
 have Ny154 := sd_ hy154
 clear hy154
 obtain ⟨ji2, hji2⟩ : ∃ j_ : Int, (wrap64 (a0 - 2)) = j_ := ⟨_, rfl⟩
 replace H : (if 0 ≤ (ji2) then (if (ji2) < (y154.length : Int) then (some (rdOf ByteArray.empty y154 (ji2))) else (none)) else (none)) = some r := by first | (rw [hji2] at H; exact H) | (simp only [hji2] at H ⊢; exact H)
 have hji2w : (IntKind.i64.wrap (a0 - 2)) = ji2 := (i64_w _).trans hji2
 by_cases c3 : 0 ≤ (ji2)
 ·rw [if_pos c3] at H
  have c3b0 : decide (0 ≤ (ji2)) = true := decide_eq_true c3
  clear c3
  by_cases c4 : (ji2) < (y154.length : Int)
  ·rw [if_pos c4] at H
   have c4b0 : decide ((ji2) < (y154.length : Int)) = true := decide_eq_true c4
   clear c4
   obtain rfl := Option.some.inj H
   go_enter Tryd.func38, Tryd.ntmps38
   go_wp2_with (first | ((with_reducible refine gate_dst (N := 3) rfl ?_); refine Kd.R_lit Kd.string _ 9 ?hg (N := 3) ?hd (xs := ([(⟨#[97, 100, 100]⟩ : ByteArray), (⟨#[105, 102]⟩ : ByteArray), (⟨#[112, 97, 105, 114]⟩ : ByteArray), (⟨#[115, 112, 108, 105, 116]⟩ : ByteArray), (⟨#[108, 101, 102, 116]⟩ : ByteArray), (⟨#[114, 105, 103, 104, 116]⟩ : ByteArray), (⟨#[99, 97, 115, 101]⟩ : ByteArray), (⟨#[102, 117, 110]⟩ : ByteArray), (⟨#[97, 112, 112]⟩ : ByteArray), (⟨#[98, 111, 120]⟩ : ByteArray), (⟨#[111, 112, 101, 110]⟩ : ByteArray)] : List ByteArray)) (inner := [.string (⟨#[97, 100, 100]⟩ : ByteArray), .string (⟨#[105, 102]⟩ : ByteArray), .string (⟨#[112, 97, 105, 114]⟩ : ByteArray), .string (⟨#[115, 112, 108, 105, 116]⟩ : ByteArray), .string (⟨#[108, 101, 102, 116]⟩ : ByteArray), .string (⟨#[114, 105, 103, 104, 116]⟩ : ByteArray), .string (⟨#[99, 97, 115, 101]⟩ : ByteArray), .string (⟨#[102, 117, 110]⟩ : ByteArray), .string (⟨#[97, 112, 112]⟩ : ByteArray), .string (⟨#[98, 111, 120]⟩ : ByteArray), .string (⟨#[111, 112, 101, 110]⟩ : ByteArray)]) (ok := fun _ => True) (okp := fun _ => True) ?hr ?hp (fun _ hk => hk) trivial (Below.refl _ _) (Nat.le_refl _) (by simp) ?_; (case hd => rfl); (case hg => rfl); (case hr => first | (go_simp; done) | (go_simp; rfl)); (case hp => exact (Reps.one (show Kd.M Kd.string _ _ _ (⟨#[97, 100, 100]⟩ : ByteArray) [.string (⟨#[97, 100, 100]⟩ : ByteArray)] from rfl) (Reps.one (show Kd.M Kd.string _ _ _ (⟨#[105, 102]⟩ : ByteArray) [.string (⟨#[105, 102]⟩ : ByteArray)] from rfl) (Reps.one (show Kd.M Kd.string _ _ _ (⟨#[112, 97, 105, 114]⟩ : ByteArray) [.string (⟨#[112, 97, 105, 114]⟩ : ByteArray)] from rfl) (Reps.one (show Kd.M Kd.string _ _ _ (⟨#[115, 112, 108, 105, 116]⟩ : ByteArray) [.string (⟨#[115, 112, 108, 105, 116]⟩ : ByteArray)] from rfl) (Reps.one (show Kd.M Kd.string _ _ _ (⟨#[108, 101, 102, 116]⟩ : ByteArray) [.string (⟨#[108, 101, 102, 116]⟩ : ByteArray)] from rfl) (Reps.one (show Kd.M Kd.string _ _ _ (⟨#[114, 105, 103, 104, 116]⟩ : ByteArray) [.string (⟨#[114, 105, 103, 104, 116]⟩ : ByteArray)] from rfl) (Reps.one (show Kd.M Kd.string _ _ _ (⟨#[99, 97, 115, 101]⟩ : ByteArray) [.string (⟨#[99, 97, 115, 101]⟩ : ByteArray)] from rfl) (Reps.one (show Kd.M Kd.string _ _ _ (⟨#[102, 117, 110]⟩ : ByteArray) [.string (⟨#[102, 117, 110]⟩ : ByteArray)] from rfl) (Reps.one (show Kd.M Kd.string _ _ _ (⟨#[97, 112, 112]⟩ : ByteArray) [.string (⟨#[97, 112, 112]⟩ : ByteArray)] from rfl) (Reps.one (show Kd.M Kd.string _ _ _ (⟨#[98, 111, 120]⟩ : ByteArray) [.string (⟨#[98, 111, 120]⟩ : ByteArray)] from rfl) (Reps.one (show Kd.M Kd.string _ _ _ (⟨#[111, 112, 101, 110]⟩ : ByteArray) [.string (⟨#[111, 112, 101, 110]⟩ : ByteArray)] from rfl) (Reps.none _ _))))))))))))); intro v155 w5 ho6 hb hg_ hnew_; clear hg_ hnew_; (first | rw [← Ny154.out] at ho6 | (simp only [Int.reduceToNat] at ho6; rw [← Ny154.out] at ho6)); have HO156 := sd_ (Kd.R_lower ho6 (below_size (bw0_ HB.out))); replace HB := sd_ (below_step (bw0_ HB.out) hb); clear hb ho6; obtain ⟨Ao7, co7, eo7⟩ := Kd.R_slice HO156.out; subst eo7; have p157 : 0 ≤ ((ji2) : Int) := dt_; have q157 : (ji2) < (y154.length : Int) := dt_; obtain ⟨ad157, e157, hx157_0⟩ := Kd.at_string (Kd.R_reads' HO156.out).2.2 (ji2) p157 q157; cases e157; replace p157 := eq_true p157; replace q157 := eq_true q157))
   go_ret
   exact ⟨by first | rfl | (simp [errW_none, errW_some] <;> rfl) | (simp only [← hji2]; first | rfl | (simp [errW_none, errW_some] <;> rfl)) | (simp [*, errW_none, errW_some] <;> rfl), bw0_ HB.out⟩
  rw [if_neg c4] at H
  exact absurd H (by simp)
 rw [if_neg c3] at H
 exact absurd H (by simp)


/-! ### spec_l2Has: function 39 -/
def spec_l2Has.f (a0 : Int) : Option (Bool) := if a0 = 5 then (some true) else (if a0 = 8 then (some true) else (if a0 = 9 then (some true) else (if a0 = 11 then (some true) else (some (a0 == 12)))))
set_option maxHeartbeats 8000000 in
set_option maxRecDepth 100000 in
theorem spec_l2Has.calls (a0 : Int) (r : Bool) (w : World) (h : spec_l2Has.f a0 = some r) :
  Calls Tryd.prog 39 #[.int .i64 a0] w fun e w' => e = .returned (.bool r) ∧ Drawn0 w w' := by
 have H : (if a0 = 5 then (some true) else (if a0 = 8 then (some true) else (if a0 = 9 then (some true) else (if a0 = 11 then (some true) else (some (a0 == 12)))))) = some r := h
 clear h
 by_cases c2 : a0 = 5
 ·rw [if_pos c2] at H
  have c2b0 : (a0 == 5) = true := beq_iff_eq.mpr c2
  have c2b1 : (a0 != 5) = false := bne_eq_false_iff_eq.mpr c2
  clear c2
  obtain rfl := Option.some.inj H
  go_enter Tryd.func39, Tryd.ntmps39
  go_wp2
  go_ret
  exact ⟨by first | rfl | (simp; done) | (simp [*]; done), by repeat (first | exact Drawn0.refl _ | apply Drawn0.step)⟩
 rw [if_neg c2] at H
 have c2b0 : (a0 == 5) = false := beq_eq_false_iff_ne.mpr c2
 have c2b1 : (a0 != 5) = true := bne_iff_ne.mpr c2
 by_cases c3 : a0 = 8
 ·rw [if_pos c3] at H
  have c3b0 : (a0 == 8) = true := beq_iff_eq.mpr c3
  have c3b1 : (a0 != 8) = false := bne_eq_false_iff_eq.mpr c3
  clear c3
  obtain rfl := Option.some.inj H
  go_enter Tryd.func39, Tryd.ntmps39
  go_wp2
  go_ret
  exact ⟨by first | rfl | (simp; done) | (simp [*]; done), by repeat (first | exact Drawn0.refl _ | apply Drawn0.step)⟩
 rw [if_neg c3] at H
 have c3b0 : (a0 == 8) = false := beq_eq_false_iff_ne.mpr c3
 have c3b1 : (a0 != 8) = true := bne_iff_ne.mpr c3
 by_cases c4 : a0 = 9
 ·rw [if_pos c4] at H
  have c4b0 : (a0 == 9) = true := beq_iff_eq.mpr c4
  have c4b1 : (a0 != 9) = false := bne_eq_false_iff_eq.mpr c4
  clear c4
  obtain rfl := Option.some.inj H
  go_enter Tryd.func39, Tryd.ntmps39
  go_wp2
  go_ret
  exact ⟨by first | rfl | (simp; done) | (simp [*]; done), by repeat (first | exact Drawn0.refl _ | apply Drawn0.step)⟩
 rw [if_neg c4] at H
 have c4b0 : (a0 == 9) = false := beq_eq_false_iff_ne.mpr c4
 have c4b1 : (a0 != 9) = true := bne_iff_ne.mpr c4
 by_cases c5 : a0 = 11
 ·rw [if_pos c5] at H
  have c5b0 : (a0 == 11) = true := beq_iff_eq.mpr c5
  have c5b1 : (a0 != 11) = false := bne_eq_false_iff_eq.mpr c5
  clear c5
  obtain rfl := Option.some.inj H
  go_enter Tryd.func39, Tryd.ntmps39
  go_wp2
  go_ret
  exact ⟨by first | rfl | (simp; done) | (simp [*]; done), by repeat (first | exact Drawn0.refl _ | apply Drawn0.step)⟩
 rw [if_neg c5] at H
 have c5b0 : (a0 == 11) = false := beq_eq_false_iff_ne.mpr c5
 have c5b1 : (a0 != 11) = true := bne_iff_ne.mpr c5
 obtain rfl := Option.some.inj H
 go_enter Tryd.func39, Tryd.ntmps39
 go_wp2
 go_ret
 exact ⟨by first | rfl | (simp; done) | (simp [*]; done), by repeat (first | exact Drawn0.refl _ | apply Drawn0.step)⟩


/-! ### impl_formOf: function 42 -/
def impl_formOf.f (a0 : Int) : Option (ByteArray × Int × Bool × Bool × Bool) := (impl_within.f a0 0 12).bind fun t212 => (if t212 = true then ((some (([(⟨(⟨#[120]⟩ : ByteArray), 0, false, false⟩ : S61), (⟨(⟨#[]⟩ : ByteArray), 0, false, false⟩ : S61), (⟨(⟨#[97, 100, 100]⟩ : ByteArray), 2, false, false⟩ : S61), (⟨(⟨#[105, 102]⟩ : ByteArray), 3, false, false⟩ : S61), (⟨(⟨#[112, 97, 105, 114]⟩ : ByteArray), 2, false, false⟩ : S61), (⟨(⟨#[115, 112, 108, 105, 116]⟩ : ByteArray), 2, true, false⟩ : S61), (⟨(⟨#[108, 101, 102, 116]⟩ : ByteArray), 1, false, true⟩ : S61), (⟨(⟨#[114, 105, 103, 104, 116]⟩ : ByteArray), 1, false, true⟩ : S61), (⟨(⟨#[99, 97, 115, 101]⟩ : ByteArray), 3, true, false⟩ : S61), (⟨(⟨#[102, 117, 110]⟩ : ByteArray), 1, true, true⟩ : S61), (⟨(⟨#[97, 112, 112]⟩ : ByteArray), 2, false, false⟩ : S61), (⟨(⟨#[98, 111, 120]⟩ : ByteArray), 1, true, false⟩ : S61), (⟨(⟨#[111, 112, 101, 110]⟩ : ByteArray), 2, true, false⟩ : S61)] : List (S61)) : List (S61))).bind fun y213 => (if 0 ≤ a0 then (if a0 < (y213.length : Int) then (some ((rd_T61 y213 a0).f0, (rd_T61 y213 a0).f1, (rd_T61 y213 a0).f2, (rd_T61 y213 a0).f3, true)) else (none)) else (none))) else (some ((⟨#[]⟩ : ByteArray), 0, false, false, false)))
set_option maxHeartbeats 8000000 in
set_option maxRecDepth 100000 in
theorem impl_formOf.calls (a0 : Int) (r1 : ByteArray) (r2 : Int) (r3 : Bool) (r4 : Bool) (r5 : Bool) (w : World) (h : impl_formOf.f a0 = some (r1, r2, r3, r4, r5)) :
  Calls Tryd.prog 42 #[.int .i64 a0] w fun e w' => e = .returned (.tuple #[.agg #[.string r1, .int .i64 r2, .bool r3, .bool r4], .bool r5]) ∧ Below w.heap.size w w' := by
 have hu61 := Tryd.underlying61
 have HB := sd_ (Below.refl w.heap.size w)
 have H : ((impl_within.f a0 0 12).bind fun t212 => (if t212 = true then ((some (([(⟨(⟨#[120]⟩ : ByteArray), 0, false, false⟩ : S61), (⟨(⟨#[]⟩ : ByteArray), 0, false, false⟩ : S61), (⟨(⟨#[97, 100, 100]⟩ : ByteArray), 2, false, false⟩ : S61), (⟨(⟨#[105, 102]⟩ : ByteArray), 3, false, false⟩ : S61), (⟨(⟨#[112, 97, 105, 114]⟩ : ByteArray), 2, false, false⟩ : S61), (⟨(⟨#[115, 112, 108, 105, 116]⟩ : ByteArray), 2, true, false⟩ : S61), (⟨(⟨#[108, 101, 102, 116]⟩ : ByteArray), 1, false, true⟩ : S61), (⟨(⟨#[114, 105, 103, 104, 116]⟩ : ByteArray), 1, false, true⟩ : S61), (⟨(⟨#[99, 97, 115, 101]⟩ : ByteArray), 3, true, false⟩ : S61), (⟨(⟨#[102, 117, 110]⟩ : ByteArray), 1, true, true⟩ : S61), (⟨(⟨#[97, 112, 112]⟩ : ByteArray), 2, false, false⟩ : S61), (⟨(⟨#[98, 111, 120]⟩ : ByteArray), 1, true, false⟩ : S61), (⟨(⟨#[111, 112, 101, 110]⟩ : ByteArray), 2, true, false⟩ : S61)] : List (S61)) : List (S61))).bind fun y213 => (if 0 ≤ a0 then (if a0 < (y213.length : Int) then (some ((rd_T61 y213 a0).f0, (rd_T61 y213 a0).f1, (rd_T61 y213 a0).f2, (rd_T61 y213 a0).f3, true)) else (none)) else (none))) else (some ((⟨#[]⟩ : ByteArray), 0, false, false, false)))) = some (r1, r2, r3, r4, r5) := h
 clear h
 replace H := Option.bind_eq_some_iff.mp H
 obtain ⟨t212, A20, H⟩ := H
 try dsimp only at H
 have A2 := sd_ A20
 clear A20
 have HP3 := sd_ H
 clear H
 go_enter Tryd.func42, Tryd.ntmps42
 go_upto_if 6 with (first | ((with_reducible refine gate_dst (N := 2) rfl ?_); refine bx_ (N := 2) (cs := #[.string (⟨#[]⟩ : ByteArray), .int .i64 0, .bool false, .bool false]) (t := 61) ?_; intro gb211 hg w4 hbox hb; have BK211 := sd_ (hbox); have GW211 := sd_ (gs_ hg (bw0_ HB.out)); have GE211 := sd_ (gs_ hg (bw0_ HB.out)); replace HB := sd_ (below_step (bw0_ HB.out) hb); clear hb hbox hg) | ((with_reducible refine gate_callee (f := 32) rfl ?_); refine goesL_ (some 5) rfl rfl Tryd.func32 (by kernel_rfl) rfl #[.int .i64 a0, .int .i64 0, .int .i64 12] rfl la_ ?_; (with_reducible refine (impl_within.calls a0 0 12 t212 _ A2.out).mono ?_); rintro e w' ⟨rfl, ⟨nd, rfl⟩⟩; refine ⟨_, rfl, ?_⟩))
 have H := HP3.out
 clear HP3
 by_cases c5 : t212 = true
 ·subst c5
  have H1 : ((some (([(⟨(⟨#[120]⟩ : ByteArray), 0, false, false⟩ : S61), (⟨(⟨#[]⟩ : ByteArray), 0, false, false⟩ : S61), (⟨(⟨#[97, 100, 100]⟩ : ByteArray), 2, false, false⟩ : S61), (⟨(⟨#[105, 102]⟩ : ByteArray), 3, false, false⟩ : S61), (⟨(⟨#[112, 97, 105, 114]⟩ : ByteArray), 2, false, false⟩ : S61), (⟨(⟨#[115, 112, 108, 105, 116]⟩ : ByteArray), 2, true, false⟩ : S61), (⟨(⟨#[108, 101, 102, 116]⟩ : ByteArray), 1, false, true⟩ : S61), (⟨(⟨#[114, 105, 103, 104, 116]⟩ : ByteArray), 1, false, true⟩ : S61), (⟨(⟨#[99, 97, 115, 101]⟩ : ByteArray), 3, true, false⟩ : S61), (⟨(⟨#[102, 117, 110]⟩ : ByteArray), 1, true, true⟩ : S61), (⟨(⟨#[97, 112, 112]⟩ : ByteArray), 2, false, false⟩ : S61), (⟨(⟨#[98, 111, 120]⟩ : ByteArray), 1, true, false⟩ : S61), (⟨(⟨#[111, 112, 101, 110]⟩ : ByteArray), 2, true, false⟩ : S61)] : List (S61)) : List (S61))).bind fun y213 => (if 0 ≤ a0 then (if a0 < (y213.length : Int) then (some ((rd_T61 y213 a0).f0, (rd_T61 y213 a0).f1, (rd_T61 y213 a0).f2, (rd_T61 y213 a0).f3, true)) else (none)) else (none))) = some (r1, r2, r3, r4, r5) := by rw [if_pos rfl] at H; exact H
  clear H
  have H := H1
  clear H1
  obtain ⟨y213, hy213⟩ : ∃ y_ : List (S61), y_ = (([(⟨(⟨#[120]⟩ : ByteArray), 0, false, false⟩ : S61), (⟨(⟨#[]⟩ : ByteArray), 0, false, false⟩ : S61), (⟨(⟨#[97, 100, 100]⟩ : ByteArray), 2, false, false⟩ : S61), (⟨(⟨#[105, 102]⟩ : ByteArray), 3, false, false⟩ : S61), (⟨(⟨#[112, 97, 105, 114]⟩ : ByteArray), 2, false, false⟩ : S61), (⟨(⟨#[115, 112, 108, 105, 116]⟩ : ByteArray), 2, true, false⟩ : S61), (⟨(⟨#[108, 101, 102, 116]⟩ : ByteArray), 1, false, true⟩ : S61), (⟨(⟨#[114, 105, 103, 104, 116]⟩ : ByteArray), 1, false, true⟩ : S61), (⟨(⟨#[99, 97, 115, 101]⟩ : ByteArray), 3, true, false⟩ : S61), (⟨(⟨#[102, 117, 110]⟩ : ByteArray), 1, true, true⟩ : S61), (⟨(⟨#[97, 112, 112]⟩ : ByteArray), 2, false, false⟩ : S61), (⟨(⟨#[98, 111, 120]⟩ : ByteArray), 1, true, false⟩ : S61), (⟨(⟨#[111, 112, 101, 110]⟩ : ByteArray), 2, true, false⟩ : S61)] : List (S61))) := ⟨_, rfl⟩
  replace H : (if 0 ≤ a0 then (if a0 < (y213.length : Int) then (some ((rd_T61 y213 a0).f0, (rd_T61 y213 a0).f1, (rd_T61 y213 a0).f2, (rd_T61 y213 a0).f3, true)) else (none)) else (none)) = some (r1, r2, r3, r4, r5) := by first | (rw [hy213]; with_reducible exact H) | (have H2_ := (Option.bind_some _ _).symm.trans H; rw [hy213]; with_reducible exact H2_) | (have H2_ := (Option.bind_some _ _).symm.trans H; with_reducible exact H2_) | with_reducible exact H | (rw [hy213]; exact H) | exact H
  have Ny213 := sd_ hy213
  clear hy213
  by_cases c6 : 0 ≤ a0
  ·rw [if_pos c6] at H
   have c6b0 : decide (0 ≤ a0) = true := decide_eq_true c6
   clear c6
   (first | rw [c6b0] | (simp only [i64_w, i32_w]; rw [c6b0]) | skip)
   by_cases c7 : a0 < (y213.length : Int)
   ·rw [if_pos c7] at H
    have c7b0 : decide (a0 < (y213.length : Int)) = true := decide_eq_true c7
    clear c7
    simp only [Option.some.injEq, Prod.mk.injEq] at H
    obtain ⟨rfl, rfl, rfl, rfl, rfl⟩ := H
    go_wp2_with (first | ((with_reducible refine gate_dst (N := 21) rfl ?_); refine Kd.R_lit k61 _ 61 ?hg (N := 21) ?hd (xs := ([(⟨(⟨#[120]⟩ : ByteArray), 0, false, false⟩ : S61), (⟨(⟨#[]⟩ : ByteArray), 0, false, false⟩ : S61), (⟨(⟨#[97, 100, 100]⟩ : ByteArray), 2, false, false⟩ : S61), (⟨(⟨#[105, 102]⟩ : ByteArray), 3, false, false⟩ : S61), (⟨(⟨#[112, 97, 105, 114]⟩ : ByteArray), 2, false, false⟩ : S61), (⟨(⟨#[115, 112, 108, 105, 116]⟩ : ByteArray), 2, true, false⟩ : S61), (⟨(⟨#[108, 101, 102, 116]⟩ : ByteArray), 1, false, true⟩ : S61), (⟨(⟨#[114, 105, 103, 104, 116]⟩ : ByteArray), 1, false, true⟩ : S61), (⟨(⟨#[99, 97, 115, 101]⟩ : ByteArray), 3, true, false⟩ : S61), (⟨(⟨#[102, 117, 110]⟩ : ByteArray), 1, true, true⟩ : S61), (⟨(⟨#[97, 112, 112]⟩ : ByteArray), 2, false, false⟩ : S61), (⟨(⟨#[98, 111, 120]⟩ : ByteArray), 1, true, false⟩ : S61), (⟨(⟨#[111, 112, 101, 110]⟩ : ByteArray), 2, true, false⟩ : S61)] : List (S61))) (inner := [.string (⟨#[120]⟩ : ByteArray), .int .i64 0, .bool false, .bool false, .string (⟨#[]⟩ : ByteArray), .int .i64 0, .bool false, .bool false, .string (⟨#[97, 100, 100]⟩ : ByteArray), .int .i64 2, .bool false, .bool false, .string (⟨#[105, 102]⟩ : ByteArray), .int .i64 3, .bool false, .bool false, .string (⟨#[112, 97, 105, 114]⟩ : ByteArray), .int .i64 2, .bool false, .bool false, .string (⟨#[115, 112, 108, 105, 116]⟩ : ByteArray), .int .i64 2, .bool true, .bool false, .string (⟨#[108, 101, 102, 116]⟩ : ByteArray), .int .i64 1, .bool false, .bool true, .string (⟨#[114, 105, 103, 104, 116]⟩ : ByteArray), .int .i64 1, .bool false, .bool true, .string (⟨#[99, 97, 115, 101]⟩ : ByteArray), .int .i64 3, .bool true, .bool false, .string (⟨#[102, 117, 110]⟩ : ByteArray), .int .i64 1, .bool true, .bool true, .string (⟨#[97, 112, 112]⟩ : ByteArray), .int .i64 2, .bool false, .bool false, .string (⟨#[98, 111, 120]⟩ : ByteArray), .int .i64 1, .bool true, .bool false, .string (⟨#[111, 112, 101, 110]⟩ : ByteArray), .int .i64 2, .bool true, .bool false]) (ok := fun _ => True) (okp := fun _ => True) ?hr ?hp (fun _ hk => hk) trivial (Below.refl _ _) (Nat.le_refl _) (by simp) ?_; (case hd => rfl); (case hg => rfl); (case hr => first | (go_simp; done) | (go_simp; rfl)); (case hp => exact (Reps.c4 (show Kd.M k61 _ _ _ (⟨(⟨#[120]⟩ : ByteArray), 0, false, false⟩ : S61) [.string (⟨#[120]⟩ : ByteArray), .int .i64 0, .bool false, .bool false] from (k61_mkM _ _ _ (⟨(⟨#[120]⟩ : ByteArray), 0, false, false⟩ : S61) )) (Reps.c4 (show Kd.M k61 _ _ _ (⟨(⟨#[]⟩ : ByteArray), 0, false, false⟩ : S61) [.string (⟨#[]⟩ : ByteArray), .int .i64 0, .bool false, .bool false] from (k61_mkM _ _ _ (⟨(⟨#[]⟩ : ByteArray), 0, false, false⟩ : S61) )) (Reps.c4 (show Kd.M k61 _ _ _ (⟨(⟨#[97, 100, 100]⟩ : ByteArray), 2, false, false⟩ : S61) [.string (⟨#[97, 100, 100]⟩ : ByteArray), .int .i64 2, .bool false, .bool false] from (k61_mkM _ _ _ (⟨(⟨#[97, 100, 100]⟩ : ByteArray), 2, false, false⟩ : S61) )) (Reps.c4 (show Kd.M k61 _ _ _ (⟨(⟨#[105, 102]⟩ : ByteArray), 3, false, false⟩ : S61) [.string (⟨#[105, 102]⟩ : ByteArray), .int .i64 3, .bool false, .bool false] from (k61_mkM _ _ _ (⟨(⟨#[105, 102]⟩ : ByteArray), 3, false, false⟩ : S61) )) (Reps.c4 (show Kd.M k61 _ _ _ (⟨(⟨#[112, 97, 105, 114]⟩ : ByteArray), 2, false, false⟩ : S61) [.string (⟨#[112, 97, 105, 114]⟩ : ByteArray), .int .i64 2, .bool false, .bool false] from (k61_mkM _ _ _ (⟨(⟨#[112, 97, 105, 114]⟩ : ByteArray), 2, false, false⟩ : S61) )) (Reps.c4 (show Kd.M k61 _ _ _ (⟨(⟨#[115, 112, 108, 105, 116]⟩ : ByteArray), 2, true, false⟩ : S61) [.string (⟨#[115, 112, 108, 105, 116]⟩ : ByteArray), .int .i64 2, .bool true, .bool false] from (k61_mkM _ _ _ (⟨(⟨#[115, 112, 108, 105, 116]⟩ : ByteArray), 2, true, false⟩ : S61) )) (Reps.c4 (show Kd.M k61 _ _ _ (⟨(⟨#[108, 101, 102, 116]⟩ : ByteArray), 1, false, true⟩ : S61) [.string (⟨#[108, 101, 102, 116]⟩ : ByteArray), .int .i64 1, .bool false, .bool true] from (k61_mkM _ _ _ (⟨(⟨#[108, 101, 102, 116]⟩ : ByteArray), 1, false, true⟩ : S61) )) (Reps.c4 (show Kd.M k61 _ _ _ (⟨(⟨#[114, 105, 103, 104, 116]⟩ : ByteArray), 1, false, true⟩ : S61) [.string (⟨#[114, 105, 103, 104, 116]⟩ : ByteArray), .int .i64 1, .bool false, .bool true] from (k61_mkM _ _ _ (⟨(⟨#[114, 105, 103, 104, 116]⟩ : ByteArray), 1, false, true⟩ : S61) )) (Reps.c4 (show Kd.M k61 _ _ _ (⟨(⟨#[99, 97, 115, 101]⟩ : ByteArray), 3, true, false⟩ : S61) [.string (⟨#[99, 97, 115, 101]⟩ : ByteArray), .int .i64 3, .bool true, .bool false] from (k61_mkM _ _ _ (⟨(⟨#[99, 97, 115, 101]⟩ : ByteArray), 3, true, false⟩ : S61) )) (Reps.c4 (show Kd.M k61 _ _ _ (⟨(⟨#[102, 117, 110]⟩ : ByteArray), 1, true, true⟩ : S61) [.string (⟨#[102, 117, 110]⟩ : ByteArray), .int .i64 1, .bool true, .bool true] from (k61_mkM _ _ _ (⟨(⟨#[102, 117, 110]⟩ : ByteArray), 1, true, true⟩ : S61) )) (Reps.c4 (show Kd.M k61 _ _ _ (⟨(⟨#[97, 112, 112]⟩ : ByteArray), 2, false, false⟩ : S61) [.string (⟨#[97, 112, 112]⟩ : ByteArray), .int .i64 2, .bool false, .bool false] from (k61_mkM _ _ _ (⟨(⟨#[97, 112, 112]⟩ : ByteArray), 2, false, false⟩ : S61) )) (Reps.c4 (show Kd.M k61 _ _ _ (⟨(⟨#[98, 111, 120]⟩ : ByteArray), 1, true, false⟩ : S61) [.string (⟨#[98, 111, 120]⟩ : ByteArray), .int .i64 1, .bool true, .bool false] from (k61_mkM _ _ _ (⟨(⟨#[98, 111, 120]⟩ : ByteArray), 1, true, false⟩ : S61) )) (Reps.c4 (show Kd.M k61 _ _ _ (⟨(⟨#[111, 112, 101, 110]⟩ : ByteArray), 2, true, false⟩ : S61) [.string (⟨#[111, 112, 101, 110]⟩ : ByteArray), .int .i64 2, .bool true, .bool false] from (k61_mkM _ _ _ (⟨(⟨#[111, 112, 101, 110]⟩ : ByteArray), 2, true, false⟩ : S61) )) (Reps.none _ _))))))))))))))); intro v214 w8 ho9 hb hg_ hnew_; clear hg_ hnew_; (first | rw [← Ny213.out] at ho9 | (simp only [Int.reduceToNat] at ho9; rw [← Ny213.out] at ho9)); have HO215 := sd_ (Kd.R_lower (Kd.R_newB ho9 (g := gb211) (o := .cells #[.string (⟨#[]⟩ : ByteArray), .int .i64 0, .bool false, .bool false] 61 (0, 0)) (bz_ BK211.out)) (below_size (bw1_ HB.out GE211.out))); replace BK211 := sd_ (bb_ BK211.out hb); replace HB := sd_ (below_step (bw1_ HB.out GE211.out) hb); clear hb ho9; obtain ⟨Ao10, co10, eo10⟩ := Kd.R_slice HO215.out; subst eo10; have p216 : 0 ≤ (a0 : Int) := dt_; have q216 : a0 < (y213.length : Int) := dt_; obtain ⟨ad216, e216, hx216_0, hx216_1, hx216_2, hx216_3⟩ := at_T61 (Kd.R_reads' HO215.out).2.2 a0 p216 q216; cases e216; replace p216 := eq_true p216; replace q216 := eq_true q216; obtain ⟨hcz11_0, hcz11_1, hcz11_2, hcz11_3, hfz11_0, hfz11_1, hfz11_2, hfz11_3⟩ := bf4_ BK211.out))
    refine bodyPost_ret (results_ct rfl _ _ gb211 61 #[.string ((rd_T61 y213 a0).f0), .int .i64 ((rd_T61 y213 a0).f1), .bool ((rd_T61 y213 a0).f2), .bool ((rd_T61 y213 a0).f3)] (0, 0) _ rfl (by (with_reducible repeat (first | refine blk_drewN ?_ _ | refine blk_drew ?_ | refine blk_alloc ?_ _)); refine blk_put (cs := #[.string ((rd_T61 y213 a0).f0), .int .i64 ((rd_T61 y213 a0).f1), .bool ((rd_T61 y213 a0).f2), .bool false]) ?_ 3 _ rfl; (with_reducible repeat (first | refine blk_drewN ?_ _ | refine blk_drew ?_ | refine blk_alloc ?_ _)); refine blk_put (cs := #[.string ((rd_T61 y213 a0).f0), .int .i64 ((rd_T61 y213 a0).f1), .bool false, .bool false]) ?_ 2 _ rfl; (with_reducible repeat (first | refine blk_drewN ?_ _ | refine blk_drew ?_ | refine blk_alloc ?_ _)); refine blk_put (cs := #[.string ((rd_T61 y213 a0).f0), .int .i64 0, .bool false, .bool false]) ?_ 1 _ rfl; (with_reducible repeat (first | refine blk_drewN ?_ _ | refine blk_drew ?_ | refine blk_alloc ?_ _)); refine blk_put (cs := #[.string (⟨#[]⟩ : ByteArray), .int .i64 0, .bool false, .bool false]) ?_ 0 _ rfl; exact bz_ BK211.out) Tryd.underlying61 rfl (by kernel_rfl)) rfl ?_
    exact ⟨an_, bw1_ HB.out GE211.out⟩
   rw [if_neg c7] at H
   exact absurd H (by simp)
  rw [if_neg c6] at H
  exact absurd H (by simp)
 replace c5 := Bool.eq_false_iff.mpr c5
 subst c5
 have H1 : (some ((⟨#[]⟩ : ByteArray), 0, false, false, false)) = some (r1, r2, r3, r4, r5) := by rw [if_neg (show ¬ (false = true) by decide)] at H; exact H
 clear H
 have H := H1
 clear H1
 simp only [Option.some.injEq, Prod.mk.injEq] at H
 obtain ⟨rfl, rfl, rfl, rfl, rfl⟩ := H
 obtain ⟨hcz12_0, hcz12_1, hcz12_2, hcz12_3, hfz12_0, hfz12_1, hfz12_2, hfz12_3⟩ := bf4_ BK211.out
 go_wp2
 refine bodyPost_ret (results_ct rfl _ _ gb211 61 #[.string (⟨#[]⟩ : ByteArray), .int .i64 0, .bool false, .bool false] (0, 0) _ rfl (by (with_reducible repeat (first | refine blk_drewN ?_ _ | refine blk_drew ?_ | refine blk_alloc ?_ _)); refine blk_put (cs := #[.string (⟨#[]⟩ : ByteArray), .int .i64 0, .bool false, .bool false]) ?_ 3 _ rfl; (with_reducible repeat (first | refine blk_drewN ?_ _ | refine blk_drew ?_ | refine blk_alloc ?_ _)); refine blk_put (cs := #[.string (⟨#[]⟩ : ByteArray), .int .i64 0, .bool false, .bool false]) ?_ 2 _ rfl; (with_reducible repeat (first | refine blk_drewN ?_ _ | refine blk_drew ?_ | refine blk_alloc ?_ _)); refine blk_put (cs := #[.string (⟨#[]⟩ : ByteArray), .int .i64 0, .bool false, .bool false]) ?_ 1 _ rfl; (with_reducible repeat (first | refine blk_drewN ?_ _ | refine blk_drew ?_ | refine blk_alloc ?_ _)); refine blk_put (cs := #[.string (⟨#[]⟩ : ByteArray), .int .i64 0, .bool false, .bool false]) ?_ 0 _ rfl; exact bz_ BK211.out) Tryd.underlying61 rfl (by kernel_rfl)) rfl ?_
 exact ⟨an_, bw1_ HB.out GE211.out⟩

end Go.Proofs.YtlhiacnmcckjgaaDoor.P
end

section
namespace Go.Proofs.YtlhiacnmcckjgaaDoor.P
open Go.RowKit Go.Proofs.YtlhiacnmcckjgaaDoorW.PrintWords Go.Proofs.YtlhiacnmcckjgaaDoorW.PrintLast Go.Proofs.YtlhiacnmcckjgaaDoorW.PrintMore
/-! ### strconv_Itoa_43: function 43 (by hand) -/
def strconv_Itoa_43.f (a0 : Int) : Option ByteArray := if 0 ≤ a0 then (if a0 < 100 then some (⟨(Go.Lib.decDigits a0.toNat).toArray⟩ : ByteArray) else none) else none
theorem strconv_Itoa_43.calls (a0 : Int) (r : ByteArray) (w : World) (h : strconv_Itoa_43.f a0 = some r) :
  Calls Tryd.prog 43 #[.int .i64 a0] w fun e w' => e = .returned (.string r) ∧ Drawn0 w w' := by
 unfold strconv_Itoa_43.f at h
 by_cases c : 0 ≤ a0
 ·rw [if_pos c] at h
  by_cases c1 : a0 < 100
  ·rw [if_pos c1] at h
   obtain rfl := Option.some.inj h
   obtain ⟨i, rfl⟩ := Int.eq_ofNat_of_zero_le c
   refine (itoa_small i (by omega) w).mono fun e w' ⟨he, hw⟩ => ?_
   subst he hw
   exact ⟨rfl, Drawn0.refl _⟩
  rw [if_neg c1] at h; cases h
 rw [if_neg c] at h; cases h
end Go.Proofs.YtlhiacnmcckjgaaDoor.P
end

section
namespace Go.Proofs.YtlhiacnmcckjgaaDoor.P
open Go.RowKit Go.Proofs.YtlhiacnmcckjgaaDoorW.PrintWords Go.Proofs.YtlhiacnmcckjgaaDoorW.PrintLast Go.Proofs.YtlhiacnmcckjgaaDoorW.PrintMore
attribute [local go_sem] max2_int min2_int max_two min_two max_three min_three max_four min_four   -- for this text's walks alone
set_option linter.unusedVariables false
set_option linter.unusedSimpArgs false

/-! ### impl_writtenSize_1: function 51 -/
def impl_writtenSize_1.f (a0 : Int) : Option (Bool) := (impl_within.f a0 (-1) 15).bind fun t232 => (some t232)
set_option maxHeartbeats 8000000 in
set_option maxRecDepth 100000 in
theorem impl_writtenSize_1.calls (a0 : Int) (r : Bool) (w : World) (h : impl_writtenSize_1.f a0 = some r) :
  Calls Tryd.prog 51 #[.int .i64 a0] w fun e w' => e = .returned (.bool r) ∧ Drawn0 w w' := by
 have H : ((impl_within.f a0 (-1) 15).bind fun t232 => (some t232)) = some r := h
 clear h
 replace H := Option.bind_eq_some_iff.mp H
 obtain ⟨t232, A20, H⟩ := H
 try dsimp only at H
 have A2 := sd_ A20
 clear A20
 obtain rfl := Option.some.inj H
 go_enter Tryd.func51, Tryd.ntmps51
 go_wp2_with (first | ((with_reducible refine gate_callee (f := 32) rfl ?_); refine goesL_ (some 4) rfl rfl Tryd.func32 (by kernel_rfl) rfl #[.int .i64 a0, .int .i64 (-1), .int .i64 15] rfl la_ ?_; (with_reducible refine (impl_within.calls a0 (-1) 15 t232 _ A2.out).mono ?_); rintro e w' ⟨rfl, ⟨nd, rfl⟩⟩; refine ⟨_, rfl, ?_⟩))
 go_ret
 exact ⟨by first | rfl | (simp; done) | (simp [*]; done), by repeat (first | exact Drawn0.refl _ | apply Drawn0.step)⟩

end Go.Proofs.YtlhiacnmcckjgaaDoor.P
end
