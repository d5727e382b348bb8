-- Several texts in one (wip/tools/merge.py).
import Derived.Test.YtnokgkhkmnldeaaM2
import Derived.Test.YtnokgkhkmnldeaaM1
import Derived.Test.YtnokgkhkmnldeaaM4
import Derived.IntWalk
import Derived.Test.YtnokgkhkmnldeaaM3
section
/- The plain laws: loops, copies, comparisons. -/
set_option linter.unusedSimpArgs false
set_option linter.unusedVariables false
namespace Go.Proofs.Ytnokgkhkmnldeaa.Pure
open Go.RowKit Go.Proofs.Ytnokgkhkmnldeaa.P Go.Proofs.YtnokgkhkmnldeaaW.PrintWords Go.Proofs.YtnokgkhkmnldeaaW.PrintLast
theorem evCongr {α : Type} {g f : Nat → Option α} {r : α} (h : ∀ k, g k = f k) (k : Ev f r) : Ev g r := by
  obtain ⟨K, k⟩ := k
  exact ⟨K, fun n hn => (h n).trans (k n hn)⟩
theorem evRounds {α : Type} {g : Nat → Option α} {r : α} (h : Ev g r) : ∃ k, g k = some r := by
  obtain ⟨K, h⟩ := h
  exact ⟨K, h K (Nat.le_refl _)⟩
/-! ## Loops -/
def findO {α : Type} (g : Int → Option α) : Int → Nat → Option α
  | _, 0 => none
  | x, m + 1 => (g x).or (findO g (x + 1) m)
theorem findO_none {α : Type} {g : Int → Option α} : ∀ (m : Nat) (x : Int), findO g x m = none → ∀ y, x ≤ y → y < x + m → g y = none
  | 0, x, _, y, h1, h2 => by omega
  | m + 1, x, h, y, h1, h2 => by
    have h' : (g x).or (findO g (x + 1) m) = none := h
    rw [Option.or_eq_none_iff] at h'
    by_cases e : y = x
    · rw [e]; exact h'.1
    · exact findO_none m (x + 1) h'.2 y (by omega) (by omega)
theorem findO_congr {α : Type} {g g' : Int → Option α} : ∀ (m : Nat) (x : Int), (∀ y, x ≤ y → y < x + m → g y = g' y) → findO g x m = findO g' x m
  | 0, _, _ => rfl
  | m + 1, x, h => by
    show (g x).or (findO g (x + 1) m) = (g' x).or (findO g' (x + 1) m)
    rw [h x (by omega) (by omega), findO_congr m (x + 1) fun y h1 h2 => h y (by omega) (by omega)]
theorem findO_nil {α : Type} : ∀ (m : Nat) (x : Int), findO (fun _ => (none : Option α)) x m = none
  | 0, _ => rfl
  | m + 1, x => findO_nil m (x + 1)
theorem loop {α : Type} {F : Nat → Int → Option α} {n : Int} {g : Int → Option α} {e : α} (he : Ev (fun k => F k n) e)
    (hs : ∀ x, 0 ≤ x → x < n → ∀ r, Ev (fun k => F k (x + 1)) r → Ev (fun k => F k x) ((g x).getD r)) :
    ∀ (m : Nat) (x : Int), 0 ≤ x → x + m = n → Ev (fun k => F k x) ((findO g x m).getD e)
  | 0, x, _, h => by
    obtain rfl : x = n := by omega
    exact he
  | m + 1, x, h0, h => by
    have ih := loop he hs m (x + 1) (by omega) (by omega)
    have := hs x h0 (by omega) _ ih
    show Ev _ (((g x).or (findO g (x + 1) m)).getD e)
    revert this
    cases g x <;> exact id
theorem loop0 {α : Type} {F : Nat → Int → Option α} {n : Int} {g : Int → Option α} {e : α} (hn : 0 ≤ n) (he : Ev (fun k => F k n) e)
    (hs : ∀ x, 0 ≤ x → x < n → ∀ r, Ev (fun k => F k (x + 1)) r → Ev (fun k => F k x) ((g x).getD r)) : Ev (fun k => F k 0) ((findO g 0 n.toNat).getD e) :=
  loop he hs n.toNat 0 (by omega) (by omega)
theorem loop_hit {α : Type} {F : Nat → Int → Option α} {n : Int} {g : Int → Option α} {v : α}
    (hs : ∀ x, 0 ≤ x → x < n → ∀ r, (g x = none → Ev (fun k => F k (x + 1)) r) → Ev (fun k => F k x) ((g x).getD r)) :
    ∀ (m : Nat) (x : Int), 0 ≤ x → x + m = n → findO g x m = some v → Ev (fun k => F k x) v
  | 0, x, _, _, h => by cases h
  | m + 1, x, h0, h, hf => by
    have hf' : (g x).or (findO g (x + 1) m) = some v := hf
    have := hs x h0 (by omega) v
    cases c : g x with
    | none =>
      rw [c] at hf' this
      exact this fun _ => loop_hit hs m (x + 1) (by omega) (by omega) hf'
    | some u =>
      rw [c] at hf' this
      obtain rfl : u = v := Option.some.inj hf'
      exact this (fun h => by cases h)
theorem w64 {x : Int} (h1 : -9223372036854775808 ≤ x) (h2 : x ≤ 9223372036854775807) : wrap64 x = x := by unfold wrap64; omega
/-! ## Copies and sizes -/
theorem wf_range {x : Int} (h : (Lit.int .i64 x).wf = true) : -9223372036854775808 ≤ x ∧ x ≤ 9223372036854775807 := by
  simp [Lit.wf, IntKind.min, IntKind.max, IntKind.signed, IntKind.bits] at h
  exact h
theorem rd_get {l : List Int} {i : Nat} (h : i < l.length) : rd l (i : Int) = l[i] := by
  unfold rd; rw [Int.toNat_natCast, List.getD_eq_getElem?_getD, List.getElem?_eq_getElem h]; rfl
theorem rdB_get {l : List Bool} {i : Nat} (h : i < l.length) : rdOf false l (i : Int) = l[i] := by
  unfold rdOf; rw [Int.toNat_natCast, List.getD_eq_getElem?_getD, List.getElem?_eq_getElem h]; rfl
theorem toIntS_loop (l : List Int) (hl : l.length ≤ 1048576) : ∀ (m i : Nat) (acc : List Int), i + m = l.length → acc.length = l.length → acc.take i = l.take i → Ev (fun k => laws_toIntS.l0 k l acc (i : Int)) l
  | 0, i, acc, h, ha, ht => by
    have : acc = l := by
      have h1 : acc.take i = acc := List.take_of_length_le (by omega)
      have h2 : l.take i = l := List.take_of_length_le (by omega)
      rw [← h1, ht, h2]
    subst this
    refine Ev.step (f := fun _ => some acc) (fun k => ?_) (Ev.now _)
    simp only [laws_toIntS.l0]
    rw [if_neg (by omega)]
  | m + 1, i, acc, h, ha, ht => by
    have ih := toIntS_loop l hl m (i + 1) (acc.set i (rd l (i : Int))) (by omega) (by simp [ha]) (by
      rw [rd_get (by omega)]
      apply List.ext_getElem (by simp [ha])
      intro j h1 h2
      simp only [List.length_take] at h2
      rw [List.getElem_take, List.getElem_take, List.getElem_set]
      split
      · next e => subst e; rfl
      · next e =>
        have e1 : (acc.take i)[j]'(by simp; omega) = (l.take i)[j]'(by simp; omega) := by simp only [ht]
        rw [List.getElem_take, List.getElem_take] at e1
        exact e1)
    refine Ev.step (fun k => ?_) ih
    simp only [laws_toIntS.l0]
    rw [if_pos (by omega), if_pos (by omega), if_pos (by omega), w64 (by omega) (by omega)]
    simp
theorem toIntS (l : List Int) (hl : l.length ≤ 1048576) : Ev (fun k => laws_toIntS.f k l) l := by
  unfold laws_toIntS.f
  refine evCongr (fun k => (if_pos (by omega)).trans (if_pos (by omega))) ?_
  exact toIntS_loop l hl l.length 0 _ (by omega) (by simp) (by simp)
theorem eqIntS (l : List Int) (hl : l.length ≤ 1048576) : Ev (fun k => laws_eqIntS.f k l l) true := by
  unfold laws_eqIntS.f
  refine evCongr (fun k => if_pos rfl) ?_
  have hh : (findO (fun _ => (none : Option Bool)) 0 (l.length : Int).toNat).getD true = true := by rw [findO_nil]; rfl
  rw [← hh]
  refine loop0 (F := fun k x => laws_eqIntS.l0 k l l x) (n := (l.length : Int)) (g := fun _ => none) (e := true) (by omega) ?_ ?_
  · refine Ev.step (f := fun _ => some true) (fun k => ?_) (Ev.now _)
    simp only [laws_eqIntS.l0]; rw [if_neg (by omega)]
  · intro x h0 h1 r hr
    refine Ev.step (fun k => ?_) hr
    simp only [laws_eqIntS.l0]; rw [if_pos h1, if_pos h0, if_pos h1, w64 (by omega) (by omega)]; simp
def inV (x lo hi : Int) : Bool := decide (x ≥ lo) && decide (x ≤ hi)
theorem in_eq (x lo hi : Int) : spec_l1In.f x lo hi = some (inV x lo hi) := by
  unfold spec_l1In.f inV
  by_cases c : x ≥ lo
  · rw [if_pos c]; simp [c]
  · rw [if_neg c]; simp [c]
theorem within_eq (x lo hi : Int) : impl_within.f x lo hi = some (inV x lo hi) := in_eq x lo hi
end Go.Proofs.Ytnokgkhkmnldeaa.Pure
end

section
/- Terms: copies, sizes, comparisons. -/
set_option linter.unusedSimpArgs false
set_option linter.unusedVariables false
namespace Go.Proofs.Ytnokgkhkmnldeaa.Pure
open Go.RowKit Go.Proofs.Ytnokgkhkmnldeaa.P Go.Proofs.YtnokgkhkmnldeaaW.PrintWords Go.Proofs.YtnokgkhkmnldeaaW.PrintLast
/-! ## Terms of the laws and of the program -/
theorem kid_lt {x y : S43} (h : y ∈ x.f3) : SizeOf.sizeOf y < SizeOf.sizeOf x := by
  have := List.sizeOf_lt_of_mem h
  cases x
  simp at this ⊢
  omega
theorem kid_ltI {x y : S48} (h : y ∈ x.f3) : SizeOf.sizeOf y < SizeOf.sizeOf x := by
  have := List.sizeOf_lt_of_mem h
  cases x
  simp at this ⊢
  omega
theorem indL {P : S43 → Prop} (h : ∀ x, (∀ y ∈ x.f3, P y) → P x) : ∀ (n : Nat) (x : S43), SizeOf.sizeOf x < n → P x
  | 0, x, hn => absurd hn (by omega)
  | n + 1, x, hn => h x fun y hy => indL h n y (by have := kid_lt hy; omega)
theorem indI {P : S48 → Prop} (h : ∀ x, (∀ y ∈ x.f3, P y) → P x) : ∀ (n : Nat) (x : S48), SizeOf.sizeOf x < n → P x
  | 0, x, hn => absurd hn (by omega)
  | n + 1, x, hn => h x fun y hy => indI h n y (by have := kid_ltI hy; omega)
def conv (x : S43) : S48 := ⟨x.f0, x.f1, x.f2, x.f3.attach.map fun y => conv y.1⟩
termination_by SizeOf.sizeOf x
decreasing_by exact kid_lt y.2
theorem conv_eq (x : S43) : conv x = ⟨x.f0, x.f1, x.f2, x.f3.map conv⟩ := by
  rw [conv]
  congr 1
  rw [List.attach_map_val (f := conv)]
inductive Small : S48 → Prop
  | mk (a b : Int) (t : List Int) (ks : List S48) : t.length ≤ 1048576 → ks.length ≤ 1048576 → (∀ y ∈ ks, Small y) → Small ⟨a, b, t, ks⟩
theorem Small.out {x : S48} (h : Small x) : x.f2.length ≤ 1048576 ∧ x.f3.length ≤ 1048576 ∧ ∀ y ∈ x.f3, Small y := by
  cases h with
  | mk _ _ _ _ h1 h2 h3 => exact ⟨h1, h2, h3⟩
theorem small_of {x : S48} (h1 : x.f2.length ≤ 1048576) (h2 : x.f3.length ≤ 1048576) (h3 : ∀ y ∈ x.f3, Small y) : Small x := by
  cases x; exact .mk _ _ _ _ h1 h2 h3
theorem rdL_get {l : List S43} {i : Nat} (h : i < l.length) : rd_T43 l (i : Int) = l[i] := by
  unfold rd_T43; rw [Int.toNat_natCast, List.getD_eq_getElem?_getD, List.getElem?_eq_getElem h]; rfl
theorem rdI_get {l : List S48} {i : Nat} (h : i < l.length) : rd_T48 l (i : Int) = l[i] := by
  unfold rd_T48; rw [Int.toNat_natCast, List.getD_eq_getElem?_getD, List.getElem?_eq_getElem h]; rfl
theorem maxLen_le : maxLen ≤ 9223372036854775807 := by decide
theorem szIntS_ev (l : List Int) (a : Int) (ha : 0 ≤ a) (hb : a ≤ 1048576) (hl : l.length ≤ maxLen) : ∃ v, laws_szIntS.f l a = some v ∧ -1 ≤ v ∧ v ≤ a ∧ (0 ≤ v → l.length ≤ 1048576) := by
  have := maxLen_le
  unfold laws_szIntS.f
  rw [w64 (x := a - (l.length : Int)) (by omega) (by omega)]
  by_cases c : a - (l.length : Int) < 0
  · rw [if_pos c]; exact ⟨-1, rfl, by omega, by omega, by omega⟩
  · rw [if_neg c]; exact ⟨_, rfl, by omega, by omega, by omega⟩
theorem szTermE (x : S43) (hw : Wf43 x) : ∀ a : Int, 0 ≤ a → a ≤ 1048576 → ∃ v, Ev (fun k => laws_szTerm.f k x.f0 x.f1 x.f2 x.f3 a) v ∧ -1 ≤ v ∧ v ≤ a ∧ (0 ≤ v → Small (conv x)) := by
  revert hw
  refine indL (P := fun x => Wf43 x → ∀ a : Int, 0 ≤ a → a ≤ 1048576 → ∃ v, Ev (fun k => laws_szTerm.f k x.f0 x.f1 x.f2 x.f3 a) v ∧ -1 ≤ v ∧ v ≤ a ∧ (0 ≤ v → Small (conv x))) ?_ (SizeOf.sizeOf x + 1) x (by omega)
  clear x
  intro x ih hw a ha hb
  have hm := maxLen_le
  obtain ⟨_, _, ⟨_, w2⟩, wk, w3⟩ := hw.out
  obtain ⟨v, e1, v1, v2, v3⟩ := szIntS_ev x.f2 a ha hb w2
  have step : ∀ {r : Int}, Ev (fun k => if v < 0 then some (-1) else (laws_szTermS.f k x.f3 v).bind fun t => if t < 0 then some (-1) else some t) r → Ev (fun k => laws_szTerm.f k x.f0 x.f1 x.f2 x.f3 a) r := fun h => Ev.step (fun k => by simp only [laws_szTerm.f, e1, Option.bind_some]) h
  by_cases c : v < 0
  · exact ⟨-1, step (by simpa [c] using Ev.now (-1 : Int)), by omega, by omega, by omega⟩
  · have lp : ∀ (m i : Nat) (acc : Int), i + m = x.f3.length → 0 ≤ acc → acc ≤ v - x.f3.length → ∃ u, Ev (fun k => laws_szTermS.l0 k x.f3 acc (i : Int)) u ∧ -1 ≤ u ∧ u ≤ acc ∧ (0 ≤ u → ∀ y ∈ x.f3.drop i, Small (conv y)) := by
      intro m
      induction m with
      | zero =>
        intro i acc hi h0 h1
        refine ⟨acc, Ev.step (f := fun _ => some acc) (fun k => ?_) (Ev.now _), by omega, by omega, fun _ y hy => ?_⟩
        · simp only [laws_szTermS.l0]; rw [if_neg (by omega)]
        · rw [List.drop_eq_nil_of_le (by omega)] at hy; cases hy
      | succ m ihm =>
        intro i acc hi h0 h1
        have hmem : x.f3[i] ∈ x.f3 := List.getElem_mem _
        obtain ⟨u, hu, u1, u2, u3⟩ := ih _ hmem (wk _ hmem) acc h0 (by omega)
        have st : ∀ {r : Int}, Ev (fun k => if u < 0 then some (-1) else laws_szTermS.l0 k x.f3 u ((i + 1 : Nat) : Int)) r → Ev (fun k => laws_szTermS.l0 k x.f3 acc (i : Int)) r := fun h => by
          refine Ev.step (f := fun k => (laws_szTerm.f k x.f3[i].f0 x.f3[i].f1 x.f3[i].f2 x.f3[i].f3 acc).bind fun t => if t < 0 then some (-1) else laws_szTermS.l0 k x.f3 t ((i + 1 : Nat) : Int)) (fun k => ?_) (Ev.bind hu h)
          simp only [laws_szTermS.l0, rdL_get (show i < x.f3.length by omega)]
          rw [if_pos (by omega), if_pos (by omega), w64 (x := (i : Int) + 1) (by omega) (by omega)]; rfl
        by_cases cu : u < 0
        · exact ⟨-1, st (by simpa [cu] using Ev.now (-1 : Int)), by omega, by omega, by omega⟩
        · obtain ⟨z, hz, z1, z2, z3⟩ := ihm (i + 1) u (by omega) (by omega) (by omega)
          refine ⟨z, st (by simpa [cu] using hz), z1, by omega, fun h y hy => ?_⟩
          rw [List.drop_eq_getElem_cons (by omega)] at hy
          rcases List.mem_cons.mp hy with rfl | hy
          · exact u3 (by omega)
          · exact z3 h y hy
    have st2 : ∀ {r : Int}, Ev (fun k => (laws_szTermS.f k x.f3 v).bind fun t => if t < 0 then some (-1) else some t) r → Ev (fun k => laws_szTerm.f k x.f0 x.f1 x.f2 x.f3 a) r := fun h => step (by simpa [c] using h)
    by_cases c2 : v - (x.f3.length : Int) < 0
    · refine ⟨-1, st2 (Ev.bind (a := -1) (Ev.step (f := fun _ => some (-1)) (fun k => ?_) (Ev.now _)) (by simpa using Ev.now (-1 : Int))), by omega, by omega, by omega⟩
      simp only [laws_szTermS.f]; rw [w64 (x := v - (x.f3.length : Int)) (by omega) (by omega), if_pos c2]
    · obtain ⟨u, hu, u1, u2, u3⟩ := lp x.f3.length 0 (v - x.f3.length) (by omega) (by omega) (by omega)
      have hS : Ev (fun k => laws_szTermS.f k x.f3 v) u := by
        refine Ev.step (fun k => ?_) hu
        simp only [laws_szTermS.f]; rw [w64 (x := v - (x.f3.length : Int)) (by omega) (by omega), if_neg c2]; rfl
      by_cases cu : u < 0
      · exact ⟨-1, st2 (Ev.bind hS (by simpa [cu] using Ev.now (-1 : Int))), by omega, by omega, by omega⟩
      · refine ⟨u, st2 (Ev.bind hS (by simpa [cu] using Ev.now u)), u1, by omega, fun h => ?_⟩
        rw [conv_eq]
        refine .mk _ _ _ _ (v3 (by omega)) (by simp; omega) fun y hy => ?_
        obtain ⟨y', hy', rfl⟩ := List.mem_map.mp hy
        exact u3 h y' (by simpa using hy')
theorem toTermE (x : S43) (hs : Small (conv x)) : Ev (fun k => laws_toTerm.f k x.f0 x.f1 x.f2 x.f3) ((conv x).f0, (conv x).f1, (conv x).f2, (conv x).f3) := by
  revert hs
  refine indL (P := fun x => Small (conv x) → Ev (fun k => laws_toTerm.f k x.f0 x.f1 x.f2 x.f3) ((conv x).f0, (conv x).f1, (conv x).f2, (conv x).f3)) ?_ (SizeOf.sizeOf x + 1) x (by omega)
  clear x
  intro x ih hs
  rw [conv_eq] at hs
  obtain ⟨s2, s3, sk⟩ := hs.out
  simp only [List.length_map] at s3
  rw [conv_eq]
  have lp : ∀ (m i : Nat) (pre rest : List S48), i + m = x.f3.length → pre.length = i → rest.length = m → Ev (fun k => laws_toTermS.l0 k x.f3 (pre ++ rest) (i : Int)) (pre ++ (x.f3.drop i).map conv) := by
    intro m
    induction m with
    | zero =>
      intro i pre rest hi hp hr
      obtain rfl : rest = [] := List.length_eq_zero_iff.mp hr
      rw [List.drop_eq_nil_of_le (by omega)]
      refine Ev.step (f := fun _ => some (pre ++ [])) (fun k => ?_) (by simpa using Ev.now pre)
      simp only [laws_toTermS.l0]; rw [if_neg (by omega)]
    | succ m ihm =>
      intro i pre rest hi hp hr
      obtain ⟨z, zs, rfl⟩ : ∃ z zs, rest = z :: zs := by cases rest with | nil => cases hr | cons z zs => exact ⟨z, zs, rfl⟩
      have hmem : x.f3[i] ∈ x.f3 := List.getElem_mem _
      have h1 := ih _ hmem (sk _ (List.mem_map.mpr ⟨_, hmem, rfl⟩))
      have h2 := ihm (i + 1) (pre ++ [conv x.f3[i]]) zs (by omega) (by simp [hp]) (by simpa using hr)
      have e1 : (pre ++ z :: zs).set i (conv x.f3[i]) = (pre ++ [conv x.f3[i]]) ++ zs := by subst hp; simp
      have e2 : pre ++ (x.f3.drop i).map conv = (pre ++ [conv x.f3[i]]) ++ (x.f3.drop (i + 1)).map conv := by
        rw [List.drop_eq_getElem_cons (show i < x.f3.length by omega), List.map_cons, List.append_assoc]; rfl
      rw [e2]
      refine Ev.step (f := fun k => (laws_toTerm.f k x.f3[i].f0 x.f3[i].f1 x.f3[i].f2 x.f3[i].f3).bind fun b => laws_toTermS.l0 k x.f3 ((pre ++ z :: zs).set i ⟨b.1, b.2.1, b.2.2.1, b.2.2.2⟩) ((i + 1 : Nat) : Int)) (fun k => ?_) (Ev.bind h1 ?_)
      · simp only [laws_toTermS.l0, rdL_get (show i < x.f3.length by omega)]
        have ln : (i : Int) < ((pre ++ z :: zs).length : Int) := by simp; omega
        rw [if_pos (by omega), if_pos (by omega), w64 (x := (i : Int) + 1) (by omega) (by omega)]
        simp only [if_pos ln, Int.toNat_natCast]
        congr 1
      · have eta : (⟨(conv x.f3[i]).f0, (conv x.f3[i]).f1, (conv x.f3[i]).f2, (conv x.f3[i]).f3⟩ : S48) = conv x.f3[i] := by cases conv x.f3[i]; rfl
        simp only [eta]
        rw [e1]; exact h2
  have hS : Ev (fun k => laws_toTermS.f k x.f3) (x.f3.map conv) := by
    have := lp x.f3.length 0 [] (List.replicate x.f3.length z48) (by omega) rfl (by simp)
    simp only [List.nil_append, List.drop_zero] at this
    refine Ev.step (fun k => ?_) this
    simp only [laws_toTermS.f]
    rw [if_pos (by omega), if_pos (by omega), Int.toNat_natCast]; rfl
  refine Ev.step (f := fun k => (laws_toIntS.f k x.f2).bind fun u => (laws_toTermS.f k x.f3).bind fun v => some (x.f0, x.f1, u, v)) (fun k => by simp only [laws_toTerm.f]) ?_
  refine Ev.bind (toIntS x.f2 s2) ?_
  refine Ev.bind hS ?_
  exact Ev.now _
theorem eqTermE (x : S48) (hs : Small x) : Ev (fun k => laws_eqTerm.f k x.f0 x.f1 x.f2 x.f3 x.f0 x.f1 x.f2 x.f3) true := by
  revert hs
  refine indI (P := fun x => Small x → Ev (fun k => laws_eqTerm.f k x.f0 x.f1 x.f2 x.f3 x.f0 x.f1 x.f2 x.f3) true) ?_ (SizeOf.sizeOf x + 1) x (by omega)
  clear x
  intro x ih hs
  obtain ⟨s2, s3, sk⟩ := hs.out
  have hS : Ev (fun k => laws_eqTermS.f k x.f3 x.f3) true := by
    refine Ev.step (f := fun k => laws_eqTermS.l0 k x.f3 x.f3 0) (fun k => by simp only [laws_eqTermS.f, if_true]) ?_
    have hh : (findO (fun _ => (none : Option Bool)) 0 (x.f3.length : Int).toNat).getD true = true := by rw [findO_nil]; rfl
    rw [← hh]
    refine loop0 (F := fun k i => laws_eqTermS.l0 k x.f3 x.f3 i) (n := (x.f3.length : Int)) (g := fun _ => none) (e := true) (by omega) ?_ ?_
    · refine Ev.step (f := fun _ => some true) (fun k => ?_) (Ev.now _)
      simp only [laws_eqTermS.l0]; rw [if_neg (by omega)]
    · intro i h0 h1 r hr
      obtain ⟨j, rfl⟩ : ∃ j : Nat, i = j := ⟨i.toNat, by omega⟩
      have hmem : x.f3[j]'(by omega) ∈ x.f3 := List.getElem_mem _
      have h2 := ih _ hmem (sk _ hmem)
      refine Ev.step (f := fun k => (laws_eqTerm.f k (x.f3[j]'(by omega)).f0 (x.f3[j]'(by omega)).f1 (x.f3[j]'(by omega)).f2 (x.f3[j]'(by omega)).f3 (x.f3[j]'(by omega)).f0 (x.f3[j]'(by omega)).f1 (x.f3[j]'(by omega)).f2 (x.f3[j]'(by omega)).f3).bind fun t => if t = true then laws_eqTermS.l0 k x.f3 x.f3 ((j : Int) + 1) else some false) (fun k => ?_) (Ev.bind h2 (by simpa using hr))
      simp only [laws_eqTermS.l0, rdI_get (show j < x.f3.length by omega)]
      rw [if_pos h1, if_pos h0, if_pos h1, w64 (x := (j : Int) + 1) (by omega) (by omega)]
  refine Ev.step (f := fun k => (laws_eqIntS.f k x.f2 x.f2).bind fun t => if t = true then ((laws_eqTermS.f k x.f3 x.f3).bind fun t => if t = true then some true else some false) else some false) (fun k => by simp only [laws_eqTerm.f, if_true]) ?_
  refine Ev.bind (eqIntS x.f2 s2) ?_
  simp only [if_true]
  refine Ev.bind hS ?_
  simp only [if_true]
  exact Ev.now _
end Go.Proofs.Ytnokgkhkmnldeaa.Pure
end

section
namespace Go.Proofs.Ytnokgkhkmnldeaa.P
open Go.RowKit Go.Proofs.YtnokgkhkmnldeaaW.PrintWords Go.Proofs.YtnokgkhkmnldeaaW.PrintLast Go.Proofs.YtnokgkhkmnldeaaW.PrintMore
attribute [local go_sem] max2_int min2_int max_two min_two max_three min_three max_four min_four   -- for this text's walks alone
set_option linter.unusedVariables false
set_option linter.unusedSimpArgs false

/-! ### laws_eqSystem: function 28 -/
def laws_eqSystem.f (k : Nat) (a0_0 : Int) (l0_1 : List Int) (l0_2 : List Int) (l0_3 : List Bool) (a1_0 : Int) (l1_1 : List Int) (l1_2 : List Int) (l1_3 : List Bool) : Option (Bool) := if a0_0 = a1_0 then ((laws_eqIntS.f k l0_1 l1_1).bind fun t432 => (if t432 = true then ((laws_eqIntS.f k l0_2 l1_2).bind fun t433 => (if t433 = true then ((laws_eqBoolS.f k l0_3 l1_3).bind fun t434 => (if t434 = true then (some true) else (some false))) else (some false))) else (some false))) else (some false)
set_option maxHeartbeats 8000000 in
set_option maxRecDepth 100000 in
theorem laws_eqSystem.calls (k : Nat) (a0_0 : Int) (A0_1 : Option Addr) (c0_1 : Nat) (l0_1 : List Int) (A0_2 : Option Addr) (c0_2 : Nat) (l0_2 : List Int) (A0_3 : Option Addr) (c0_3 : Nat) (l0_3 : List Bool) (a1_0 : Int) (A1_1 : Option Addr) (c1_1 : Nat) (l1_1 : List Int) (A1_2 : Option Addr) (c1_2 : Nat) (l1_2 : List Int) (A1_3 : Option Addr) (c1_3 : Nat) (l1_3 : List Bool) (r : Bool) (w : World) (hr0_1 : Kd.C (Kd.int .i64) w A0_1 l0_1.length l0_1) (hc0_1 : l0_1.length ≤ c0_1) (hr0_2 : Kd.C (Kd.int .i64) w A0_2 l0_2.length l0_2) (hc0_2 : l0_2.length ≤ c0_2) (hr0_3 : Kd.C Kd.bool w A0_3 l0_3.length l0_3) (hc0_3 : l0_3.length ≤ c0_3) (hr1_1 : Kd.C (Kd.int .i64) w A1_1 l1_1.length l1_1) (hc1_1 : l1_1.length ≤ c1_1) (hr1_2 : Kd.C (Kd.int .i64) w A1_2 l1_2.length l1_2) (hc1_2 : l1_2.length ≤ c1_2) (hr1_3 : Kd.C Kd.bool w A1_3 l1_3.length l1_3) (hc1_3 : l1_3.length ≤ c1_3) (h : laws_eqSystem.f k a0_0 l0_1 l0_2 l0_3 a1_0 l1_1 l1_2 l1_3 = some r) :
  Calls Try.prog 28 #[.agg #[.int .i64 a0_0, .slice A0_1 l0_1.length c0_1, .slice A0_2 l0_2.length c0_2, .slice A0_3 l0_3.length c0_3], .agg #[.int .i64 a1_0, .slice A1_1 l1_1.length c1_1, .slice A1_2 l1_2.length c1_2, .slice A1_3 l1_3.length c1_3]] w fun e w' => e = .returned (.bool r) ∧ Below w.heap.size w w' := by
 have hu37 := Try.underlying37
 have HR0_1 := sd_ hr0_1
 have HC0_1 := sd_ hc0_1
 clear hr0_1 hc0_1
 have HR0_2 := sd_ hr0_2
 have HC0_2 := sd_ hc0_2
 clear hr0_2 hc0_2
 have HR0_3 := sd_ hr0_3
 have HC0_3 := sd_ hc0_3
 clear hr0_3 hc0_3
 have HR1_1 := sd_ hr1_1
 have HC1_1 := sd_ hc1_1
 clear hr1_1 hc1_1
 have HR1_2 := sd_ hr1_2
 have HC1_2 := sd_ hc1_2
 clear hr1_2 hc1_2
 have HR1_3 := sd_ hr1_3
 have HC1_3 := sd_ hc1_3
 clear hr1_3 hc1_3
 have HB := sd_ (Below.refl w.heap.size w)
 have H : (if a0_0 = a1_0 then ((laws_eqIntS.f k l0_1 l1_1).bind fun t432 => (if t432 = true then ((laws_eqIntS.f k l0_2 l1_2).bind fun t433 => (if t433 = true then ((laws_eqBoolS.f k l0_3 l1_3).bind fun t434 => (if t434 = true then (some true) else (some false))) else (some false))) else (some false))) else (some false)) = some r := h
 clear h
 have HP3 := sd_ H
 clear H
 go_enter Try.func28, Try.ntmps28
 go_upto_if 9 with (first | ((with_reducible refine gate_dst (N := 2) rfl ?_); refine box_event ?hg (N := 2) ?hd (cs := #[.int .i64 a0_0, .slice A0_1 l0_1.length c0_1, .slice A0_2 l0_2.length c0_2, .slice A0_3 l0_3.length c0_3]) (t := 37) ?hr ?_; (case hd => rfl); (case hg => rfl); (case hr => first | (go_simp; done) | (go_simp; rfl)); intro gb430 hg w4 hbox hb; have BK430 := sd_ (hbox); have GW430 := sd_ ((by rw [hg]; exact (below_size (bw0_ HB.out)) : w.heap.size ≤ gb430)); have GE430 := sd_ ((by rw [hg]; exact (below_size (bw0_ HB.out)) : w.heap.size ≤ gb430)); replace HB := sd_ (below_step (bw0_ HB.out) hb); clear hb hbox hg) | ((with_reducible refine gate_dst (N := 3) rfl ?_); refine box_event ?hg (N := 3) ?hd (cs := #[.int .i64 a1_0, .slice A1_1 l1_1.length c1_1, .slice A1_2 l1_2.length c1_2, .slice A1_3 l1_3.length c1_3]) (t := 37) ?hr ?_; (case hd => rfl); (case hg => rfl); (case hr => first | (go_simp; done) | (go_simp; rfl)); intro gb431 hg w5 hbox hb; have BK431 := sd_ (hbox); have GW431 := sd_ ((by rw [hg]; exact (below_size (bw1_ HB.out GE430.out)) : w.heap.size ≤ gb431)); have GE431 := sd_ ((by rw [hg]; exact (below_size (bw1_ HB.out GE430.out)) : w.heap.size ≤ gb431)); replace HB := sd_ (below_step (bw1_ HB.out GE430.out) hb); have NB430_431 := sd_ ((by rw [hg]; exact Nat.ne_of_lt (bl_ BK430.out) : gb430 ≠ gb431)); have NB431_430 := sd_ ((by rw [hg]; exact Nat.ne_of_gt (bl_ BK430.out) : gb431 ≠ gb430)); replace BK430 := sd_ (bb_ BK430.out hb); clear hb hbox hg; have hnb6 := NB430_431.out; have hnc6 := NB431_430.out; have hcz7_0 : w5.cell? ⟨gb430, 0, none⟩ = some (.int .i64 a0_0) := (blk_cell BK430.out 0).trans rfl; have hcz7_1 : w5.cell? ⟨gb430, 1, none⟩ = some (.slice A0_1 l0_1.length c0_1) := (blk_cell BK430.out 1).trans rfl; have hcz7_2 : w5.cell? ⟨gb430, 2, none⟩ = some (.slice A0_2 l0_2.length c0_2) := (blk_cell BK430.out 2).trans rfl; have hcz7_3 : w5.cell? ⟨gb430, 3, none⟩ = some (.slice A0_3 l0_3.length c0_3) := (blk_cell BK430.out 3).trans rfl; have hfz7_0 := blk_frozen BK430.out 0; have hfz7_1 := blk_frozen BK430.out 1; have hfz7_2 := blk_frozen BK430.out 2; have hfz7_3 := blk_frozen BK430.out 3; have hcz8_0 : w5.cell? ⟨gb431, 0, none⟩ = some (.int .i64 a1_0) := (blk_cell BK431.out 0).trans rfl; have hcz8_1 : w5.cell? ⟨gb431, 1, none⟩ = some (.slice A1_1 l1_1.length c1_1) := (blk_cell BK431.out 1).trans rfl; have hcz8_2 : w5.cell? ⟨gb431, 2, none⟩ = some (.slice A1_2 l1_2.length c1_2) := (blk_cell BK431.out 2).trans rfl; have hcz8_3 : w5.cell? ⟨gb431, 3, none⟩ = some (.slice A1_3 l1_3.length c1_3) := (blk_cell BK431.out 3).trans rfl; have hfz8_0 := blk_frozen BK431.out 0; have hfz8_1 := blk_frozen BK431.out 1; have hfz8_2 := blk_frozen BK431.out 2; have hfz8_3 := blk_frozen BK431.out 3))
 have H := HP3.out
 clear HP3
 by_cases c9 : a0_0 = a1_0
 ·rw [if_pos c9] at H
  have c9b0 : (a0_0 == a1_0) = true := beq_iff_eq.mpr c9
  have c9b1 : (a0_0 != a1_0) = false := bne_eq_false_iff_eq.mpr c9
  clear c9
  (first | rw [c9b0] | (simp only [i64_w, i32_w]; rw [c9b0]) | skip)
  replace H := Option.bind_eq_some_iff.mp H
  obtain ⟨t432, A100, H⟩ := H
  try dsimp only at H
  have A10 := sd_ A100
  clear A100
  by_cases c11 : t432 = true
  ·subst c11
   have H1 : ((laws_eqIntS.f k l0_2 l1_2).bind fun t433 => (if t433 = true then ((laws_eqBoolS.f k l0_3 l1_3).bind fun t434 => (if t434 = true then (some true) else (some false))) else (some false))) = some r := by rw [if_pos rfl] at H; exact H
   clear H
   have H := H1
   clear H1
   replace H := Option.bind_eq_some_iff.mp H
   obtain ⟨t433, A120, H⟩ := H
   try dsimp only at H
   have A12 := sd_ A120
   clear A120
   by_cases c13 : t433 = true
   ·subst c13
    have H1 : ((laws_eqBoolS.f k l0_3 l1_3).bind fun t434 => (if t434 = true then (some true) else (some false))) = some r := by rw [if_pos rfl] at H; exact H
    clear H
    have H := H1
    clear H1
    replace H := Option.bind_eq_some_iff.mp H
    obtain ⟨t434, A140, H⟩ := H
    try dsimp only at H
    have A14 := sd_ A140
    clear A140
    by_cases c15 : t434 = true
    ·subst c15
     have H1 : (some true) = some r := by rw [if_pos rfl] at H; exact H
     clear H
     have H := H1
     clear H1
     obtain rfl := Option.some.inj H
     have hnb16 := NB430_431.out
     have hnc16 := NB431_430.out
     have hcz17_0 : w5.cell? ⟨gb430, 0, none⟩ = some (.int .i64 a0_0) := (blk_cell BK430.out 0).trans rfl
     have hcz17_1 : w5.cell? ⟨gb430, 1, none⟩ = some (.slice A0_1 l0_1.length c0_1) := (blk_cell BK430.out 1).trans rfl
     have hcz17_2 : w5.cell? ⟨gb430, 2, none⟩ = some (.slice A0_2 l0_2.length c0_2) := (blk_cell BK430.out 2).trans rfl
     have hcz17_3 : w5.cell? ⟨gb430, 3, none⟩ = some (.slice A0_3 l0_3.length c0_3) := (blk_cell BK430.out 3).trans rfl
     have hfz17_0 := blk_frozen BK430.out 0
     have hfz17_1 := blk_frozen BK430.out 1
     have hfz17_2 := blk_frozen BK430.out 2
     have hfz17_3 := blk_frozen BK430.out 3
     have hcz18_0 : w5.cell? ⟨gb431, 0, none⟩ = some (.int .i64 a1_0) := (blk_cell BK431.out 0).trans rfl
     have hcz18_1 : w5.cell? ⟨gb431, 1, none⟩ = some (.slice A1_1 l1_1.length c1_1) := (blk_cell BK431.out 1).trans rfl
     have hcz18_2 : w5.cell? ⟨gb431, 2, none⟩ = some (.slice A1_2 l1_2.length c1_2) := (blk_cell BK431.out 2).trans rfl
     have hcz18_3 : w5.cell? ⟨gb431, 3, none⟩ = some (.slice A1_3 l1_3.length c1_3) := (blk_cell BK431.out 3).trans rfl
     have hfz18_0 := blk_frozen BK431.out 0
     have hfz18_1 := blk_frozen BK431.out 1
     have hfz18_2 := blk_frozen BK431.out 2
     have hfz18_3 := blk_frozen BK431.out 3
     go_wp2_with (first | ((with_reducible refine gate_callee (f := 17) rfl ?_); refine goesL_ (some 14) rfl rfl Try.func17 (by kernel_rfl) rfl #[.slice A0_1 l0_1.length c0_1, .slice A1_1 l1_1.length c1_1] rfl (by (try simp only [List.map_toArray, List.map_cons, List.map_nil]); first | done | rfl | (simp only [List.length_drop, List.length_take]; rfl)) ?_; (with_reducible refine (laws_eqIntS.calls k _ _ l0_1 _ _ l1_1 true _ ?side1 ?side2 ?side3 ?side4 A10.out).mono ?_); (case side1 => exact kc_ HR0_1.out HB.out); (case side2 => exact HC0_1.out); (case side3 => exact kc_ HR1_1.out HB.out); (case side4 => exact HC1_1.out); rintro e w' ⟨rfl, ⟨nd, rfl⟩⟩; refine ⟨_, rfl, ?_⟩) | ((with_reducible refine gate_callee (f := 17) rfl ?_); refine goesL_ (some 20) rfl rfl Try.func17 (by kernel_rfl) rfl #[.slice A0_2 l0_2.length c0_2, .slice A1_2 l1_2.length c1_2] rfl (by (try simp only [List.map_toArray, List.map_cons, List.map_nil]); first | done | rfl | (simp only [List.length_drop, List.length_take]; rfl)) ?_; (with_reducible refine (laws_eqIntS.calls k _ _ l0_2 _ _ l1_2 true _ ?side1 ?side2 ?side3 ?side4 A12.out).mono ?_); (case side1 => repeat (first | exact (Kd.C_below HR0_2.out (bw2_ HB.out GE430.out GE431.out)) | (with_reducible refine Kd.C_alloc ?_ _) | (with_reducible refine Kd.C_drewN ?_ _) | (with_reducible refine Kd.C_drew ?_))); (case side2 => exact HC0_2.out); (case side3 => repeat (first | exact (Kd.C_below HR1_2.out (bw2_ HB.out GE430.out GE431.out)) | (with_reducible refine Kd.C_alloc ?_ _) | (with_reducible refine Kd.C_drewN ?_ _) | (with_reducible refine Kd.C_drew ?_))); (case side4 => exact HC1_2.out); rintro e w' ⟨rfl, ⟨nd, rfl⟩⟩; refine ⟨_, rfl, ?_⟩) | ((with_reducible refine gate_callee (f := 65) rfl ?_); refine goesL_ (some 26) rfl rfl Try.func65 (by kernel_rfl) rfl #[.slice A0_3 l0_3.length c0_3, .slice A1_3 l1_3.length c1_3] rfl (by (try simp only [List.map_toArray, List.map_cons, List.map_nil]); first | done | rfl | (simp only [List.length_drop, List.length_take]; rfl)) ?_; (with_reducible refine (laws_eqBoolS.calls k _ _ l0_3 _ _ l1_3 true _ ?side1 ?side2 ?side3 ?side4 A14.out).mono ?_); (case side1 => repeat (first | exact (Kd.C_below HR0_3.out (bw2_ HB.out GE430.out GE431.out)) | (with_reducible refine Kd.C_alloc ?_ _) | (with_reducible refine Kd.C_drewN ?_ _) | (with_reducible refine Kd.C_drew ?_))); (case side2 => exact HC0_3.out); (case side3 => repeat (first | exact (Kd.C_below HR1_3.out (bw2_ HB.out GE430.out GE431.out)) | (with_reducible refine Kd.C_alloc ?_ _) | (with_reducible refine Kd.C_drewN ?_ _) | (with_reducible refine Kd.C_drew ?_))); (case side4 => exact HC1_3.out); rintro e w' ⟨rfl, ⟨nd, rfl⟩⟩; refine ⟨_, rfl, ?_⟩))
     go_ret
     exact ⟨an_, bw2_ HB.out GE430.out GE431.out⟩
    ·replace c15 := Bool.eq_false_iff.mpr c15
     subst c15
     have H1 : (some false) = some r := by rw [if_neg (show ¬ (false = true) by decide)] at H; exact H
     clear H
     have H := H1
     clear H1
     obtain rfl := Option.some.inj H
     have hnb19 := NB430_431.out
     have hnc19 := NB431_430.out
     have hcz20_0 : w5.cell? ⟨gb430, 0, none⟩ = some (.int .i64 a0_0) := (blk_cell BK430.out 0).trans rfl
     have hcz20_1 : w5.cell? ⟨gb430, 1, none⟩ = some (.slice A0_1 l0_1.length c0_1) := (blk_cell BK430.out 1).trans rfl
     have hcz20_2 : w5.cell? ⟨gb430, 2, none⟩ = some (.slice A0_2 l0_2.length c0_2) := (blk_cell BK430.out 2).trans rfl
     have hcz20_3 : w5.cell? ⟨gb430, 3, none⟩ = some (.slice A0_3 l0_3.length c0_3) := (blk_cell BK430.out 3).trans rfl
     have hfz20_0 := blk_frozen BK430.out 0
     have hfz20_1 := blk_frozen BK430.out 1
     have hfz20_2 := blk_frozen BK430.out 2
     have hfz20_3 := blk_frozen BK430.out 3
     have hcz21_0 : w5.cell? ⟨gb431, 0, none⟩ = some (.int .i64 a1_0) := (blk_cell BK431.out 0).trans rfl
     have hcz21_1 : w5.cell? ⟨gb431, 1, none⟩ = some (.slice A1_1 l1_1.length c1_1) := (blk_cell BK431.out 1).trans rfl
     have hcz21_2 : w5.cell? ⟨gb431, 2, none⟩ = some (.slice A1_2 l1_2.length c1_2) := (blk_cell BK431.out 2).trans rfl
     have hcz21_3 : w5.cell? ⟨gb431, 3, none⟩ = some (.slice A1_3 l1_3.length c1_3) := (blk_cell BK431.out 3).trans rfl
     have hfz21_0 := blk_frozen BK431.out 0
     have hfz21_1 := blk_frozen BK431.out 1
     have hfz21_2 := blk_frozen BK431.out 2
     have hfz21_3 := blk_frozen BK431.out 3
     go_wp2_with (first | ((with_reducible refine gate_callee (f := 17) rfl ?_); refine goesL_ (some 14) rfl rfl Try.func17 (by kernel_rfl) rfl #[.slice A0_1 l0_1.length c0_1, .slice A1_1 l1_1.length c1_1] rfl (by (try simp only [List.map_toArray, List.map_cons, List.map_nil]); first | done | rfl | (simp only [List.length_drop, List.length_take]; rfl)) ?_; (with_reducible refine (laws_eqIntS.calls k _ _ l0_1 _ _ l1_1 true _ ?side1 ?side2 ?side3 ?side4 A10.out).mono ?_); (case side1 => exact kc_ HR0_1.out HB.out); (case side2 => exact HC0_1.out); (case side3 => exact kc_ HR1_1.out HB.out); (case side4 => exact HC1_1.out); rintro e w' ⟨rfl, ⟨nd, rfl⟩⟩; refine ⟨_, rfl, ?_⟩) | ((with_reducible refine gate_callee (f := 17) rfl ?_); refine goesL_ (some 20) rfl rfl Try.func17 (by kernel_rfl) rfl #[.slice A0_2 l0_2.length c0_2, .slice A1_2 l1_2.length c1_2] rfl (by (try simp only [List.map_toArray, List.map_cons, List.map_nil]); first | done | rfl | (simp only [List.length_drop, List.length_take]; rfl)) ?_; (with_reducible refine (laws_eqIntS.calls k _ _ l0_2 _ _ l1_2 true _ ?side1 ?side2 ?side3 ?side4 A12.out).mono ?_); (case side1 => repeat (first | exact (Kd.C_below HR0_2.out (bw2_ HB.out GE430.out GE431.out)) | (with_reducible refine Kd.C_alloc ?_ _) | (with_reducible refine Kd.C_drewN ?_ _) | (with_reducible refine Kd.C_drew ?_))); (case side2 => exact HC0_2.out); (case side3 => repeat (first | exact (Kd.C_below HR1_2.out (bw2_ HB.out GE430.out GE431.out)) | (with_reducible refine Kd.C_alloc ?_ _) | (with_reducible refine Kd.C_drewN ?_ _) | (with_reducible refine Kd.C_drew ?_))); (case side4 => exact HC1_2.out); rintro e w' ⟨rfl, ⟨nd, rfl⟩⟩; refine ⟨_, rfl, ?_⟩) | ((with_reducible refine gate_callee (f := 65) rfl ?_); refine goesL_ (some 26) rfl rfl Try.func65 (by kernel_rfl) rfl #[.slice A0_3 l0_3.length c0_3, .slice A1_3 l1_3.length c1_3] rfl (by (try simp only [List.map_toArray, List.map_cons, List.map_nil]); first | done | rfl | (simp only [List.length_drop, List.length_take]; rfl)) ?_; (with_reducible refine (laws_eqBoolS.calls k _ _ l0_3 _ _ l1_3 false _ ?side1 ?side2 ?side3 ?side4 A14.out).mono ?_); (case side1 => repeat (first | exact (Kd.C_below HR0_3.out (bw2_ HB.out GE430.out GE431.out)) | (with_reducible refine Kd.C_alloc ?_ _) | (with_reducible refine Kd.C_drewN ?_ _) | (with_reducible refine Kd.C_drew ?_))); (case side2 => exact HC0_3.out); (case side3 => repeat (first | exact (Kd.C_below HR1_3.out (bw2_ HB.out GE430.out GE431.out)) | (with_reducible refine Kd.C_alloc ?_ _) | (with_reducible refine Kd.C_drewN ?_ _) | (with_reducible refine Kd.C_drew ?_))); (case side4 => exact HC1_3.out); rintro e w' ⟨rfl, ⟨nd, rfl⟩⟩; refine ⟨_, rfl, ?_⟩))
     go_ret
     exact ⟨an_, bw2_ HB.out GE430.out GE431.out⟩
   ·replace c13 := Bool.eq_false_iff.mpr c13
    subst c13
    have H1 : (some false) = some r := by rw [if_neg (show ¬ (false = true) by decide)] at H; exact H
    clear H
    have H := H1
    clear H1
    obtain rfl := Option.some.inj H
    have hnb22 := NB430_431.out
    have hnc22 := NB431_430.out
    have hcz23_0 : w5.cell? ⟨gb430, 0, none⟩ = some (.int .i64 a0_0) := (blk_cell BK430.out 0).trans rfl
    have hcz23_1 : w5.cell? ⟨gb430, 1, none⟩ = some (.slice A0_1 l0_1.length c0_1) := (blk_cell BK430.out 1).trans rfl
    have hcz23_2 : w5.cell? ⟨gb430, 2, none⟩ = some (.slice A0_2 l0_2.length c0_2) := (blk_cell BK430.out 2).trans rfl
    have hcz23_3 : w5.cell? ⟨gb430, 3, none⟩ = some (.slice A0_3 l0_3.length c0_3) := (blk_cell BK430.out 3).trans rfl
    have hfz23_0 := blk_frozen BK430.out 0
    have hfz23_1 := blk_frozen BK430.out 1
    have hfz23_2 := blk_frozen BK430.out 2
    have hfz23_3 := blk_frozen BK430.out 3
    have hcz24_0 : w5.cell? ⟨gb431, 0, none⟩ = some (.int .i64 a1_0) := (blk_cell BK431.out 0).trans rfl
    have hcz24_1 : w5.cell? ⟨gb431, 1, none⟩ = some (.slice A1_1 l1_1.length c1_1) := (blk_cell BK431.out 1).trans rfl
    have hcz24_2 : w5.cell? ⟨gb431, 2, none⟩ = some (.slice A1_2 l1_2.length c1_2) := (blk_cell BK431.out 2).trans rfl
    have hcz24_3 : w5.cell? ⟨gb431, 3, none⟩ = some (.slice A1_3 l1_3.length c1_3) := (blk_cell BK431.out 3).trans rfl
    have hfz24_0 := blk_frozen BK431.out 0
    have hfz24_1 := blk_frozen BK431.out 1
    have hfz24_2 := blk_frozen BK431.out 2
    have hfz24_3 := blk_frozen BK431.out 3
    go_wp2_with (first | ((with_reducible refine gate_callee (f := 17) rfl ?_); refine goesL_ (some 14) rfl rfl Try.func17 (by kernel_rfl) rfl #[.slice A0_1 l0_1.length c0_1, .slice A1_1 l1_1.length c1_1] rfl (by (try simp only [List.map_toArray, List.map_cons, List.map_nil]); first | done | rfl | (simp only [List.length_drop, List.length_take]; rfl)) ?_; (with_reducible refine (laws_eqIntS.calls k _ _ l0_1 _ _ l1_1 true _ ?side1 ?side2 ?side3 ?side4 A10.out).mono ?_); (case side1 => exact kc_ HR0_1.out HB.out); (case side2 => exact HC0_1.out); (case side3 => exact kc_ HR1_1.out HB.out); (case side4 => exact HC1_1.out); rintro e w' ⟨rfl, ⟨nd, rfl⟩⟩; refine ⟨_, rfl, ?_⟩) | ((with_reducible refine gate_callee (f := 17) rfl ?_); refine goesL_ (some 20) rfl rfl Try.func17 (by kernel_rfl) rfl #[.slice A0_2 l0_2.length c0_2, .slice A1_2 l1_2.length c1_2] rfl (by (try simp only [List.map_toArray, List.map_cons, List.map_nil]); first | done | rfl | (simp only [List.length_drop, List.length_take]; rfl)) ?_; (with_reducible refine (laws_eqIntS.calls k _ _ l0_2 _ _ l1_2 false _ ?side1 ?side2 ?side3 ?side4 A12.out).mono ?_); (case side1 => repeat (first | exact (Kd.C_below HR0_2.out (bw2_ HB.out GE430.out GE431.out)) | (with_reducible refine Kd.C_alloc ?_ _) | (with_reducible refine Kd.C_drewN ?_ _) | (with_reducible refine Kd.C_drew ?_))); (case side2 => exact HC0_2.out); (case side3 => repeat (first | exact (Kd.C_below HR1_2.out (bw2_ HB.out GE430.out GE431.out)) | (with_reducible refine Kd.C_alloc ?_ _) | (with_reducible refine Kd.C_drewN ?_ _) | (with_reducible refine Kd.C_drew ?_))); (case side4 => exact HC1_2.out); rintro e w' ⟨rfl, ⟨nd, rfl⟩⟩; refine ⟨_, rfl, ?_⟩))
    go_ret
    exact ⟨an_, bw2_ HB.out GE430.out GE431.out⟩
  ·replace c11 := Bool.eq_false_iff.mpr c11
   subst c11
   have H1 : (some false) = some r := by rw [if_neg (show ¬ (false = true) by decide)] at H; exact H
   clear H
   have H := H1
   clear H1
   obtain rfl := Option.some.inj H
   have hnb25 := NB430_431.out
   have hnc25 := NB431_430.out
   have hcz26_0 : w5.cell? ⟨gb430, 0, none⟩ = some (.int .i64 a0_0) := (blk_cell BK430.out 0).trans rfl
   have hcz26_1 : w5.cell? ⟨gb430, 1, none⟩ = some (.slice A0_1 l0_1.length c0_1) := (blk_cell BK430.out 1).trans rfl
   have hcz26_2 : w5.cell? ⟨gb430, 2, none⟩ = some (.slice A0_2 l0_2.length c0_2) := (blk_cell BK430.out 2).trans rfl
   have hcz26_3 : w5.cell? ⟨gb430, 3, none⟩ = some (.slice A0_3 l0_3.length c0_3) := (blk_cell BK430.out 3).trans rfl
   have hfz26_0 := blk_frozen BK430.out 0
   have hfz26_1 := blk_frozen BK430.out 1
   have hfz26_2 := blk_frozen BK430.out 2
   have hfz26_3 := blk_frozen BK430.out 3
   have hcz27_0 : w5.cell? ⟨gb431, 0, none⟩ = some (.int .i64 a1_0) := (blk_cell BK431.out 0).trans rfl
   have hcz27_1 : w5.cell? ⟨gb431, 1, none⟩ = some (.slice A1_1 l1_1.length c1_1) := (blk_cell BK431.out 1).trans rfl
   have hcz27_2 : w5.cell? ⟨gb431, 2, none⟩ = some (.slice A1_2 l1_2.length c1_2) := (blk_cell BK431.out 2).trans rfl
   have hcz27_3 : w5.cell? ⟨gb431, 3, none⟩ = some (.slice A1_3 l1_3.length c1_3) := (blk_cell BK431.out 3).trans rfl
   have hfz27_0 := blk_frozen BK431.out 0
   have hfz27_1 := blk_frozen BK431.out 1
   have hfz27_2 := blk_frozen BK431.out 2
   have hfz27_3 := blk_frozen BK431.out 3
   go_wp2_with (first | ((with_reducible refine gate_callee (f := 17) rfl ?_); refine goesL_ (some 14) rfl rfl Try.func17 (by kernel_rfl) rfl #[.slice A0_1 l0_1.length c0_1, .slice A1_1 l1_1.length c1_1] rfl (by (try simp only [List.map_toArray, List.map_cons, List.map_nil]); first | done | rfl | (simp only [List.length_drop, List.length_take]; rfl)) ?_; (with_reducible refine (laws_eqIntS.calls k _ _ l0_1 _ _ l1_1 false _ ?side1 ?side2 ?side3 ?side4 A10.out).mono ?_); (case side1 => exact kc_ HR0_1.out HB.out); (case side2 => exact HC0_1.out); (case side3 => exact kc_ HR1_1.out HB.out); (case side4 => exact HC1_1.out); rintro e w' ⟨rfl, ⟨nd, rfl⟩⟩; refine ⟨_, rfl, ?_⟩))
   go_ret
   exact ⟨an_, bw2_ HB.out GE430.out GE431.out⟩
 ·rw [if_neg c9] at H
  have c9b0 : (a0_0 == a1_0) = false := beq_eq_false_iff_ne.mpr c9
  have c9b1 : (a0_0 != a1_0) = true := bne_iff_ne.mpr c9
  (first | rw [c9b0] | (simp only [i64_w, i32_w]; rw [c9b0]) | skip)
  obtain rfl := Option.some.inj H
  go_wp2
  go_ret
  exact ⟨an_, bw2_ HB.out GE430.out GE431.out⟩


/-! ### impl_shape: function 56 -/
def impl_shape.f (a0 : Int) : Option (Int × Int) := (impl_within.f a0 0 2).bind fun t140 => (if t140 = true then (some (a0, (-1))) else ((impl_within.f a0 3 18).bind fun t141 => (if t141 = true then (some (3, wrap64 (a0 - 3))) else ((impl_within.f a0 19 34).bind fun t142 => (if t142 = true then (some (4, wrap64 (a0 - 19))) else (if a0 = 35 then (some (3, (-1))) else (if a0 = 36 then (some (4, (-1))) else (some (5, (-1))))))))))
set_option maxHeartbeats 8000000 in
set_option maxRecDepth 100000 in
theorem impl_shape.calls (a0 : Int) (r1 : Int) (r2 : Int) (w : World) (h : impl_shape.f a0 = some (r1, r2)) :
  Calls Try.prog 56 #[.int .i64 a0] w fun e w' => e = .returned (.tuple #[.int .i64 r1, .int .i64 r2]) ∧ Drawn0 w w' := by
 have H : ((impl_within.f a0 0 2).bind fun t140 => (if t140 = true then (some (a0, (-1))) else ((impl_within.f a0 3 18).bind fun t141 => (if t141 = true then (some (3, wrap64 (a0 - 3))) else ((impl_within.f a0 19 34).bind fun t142 => (if t142 = true then (some (4, wrap64 (a0 - 19))) else (if a0 = 35 then (some (3, (-1))) else (if a0 = 36 then (some (4, (-1))) else (some (5, (-1))))))))))) = some (r1, r2) := h
 clear h
 replace H := Option.bind_eq_some_iff.mp H
 obtain ⟨t140, A20, H⟩ := H
 try dsimp only at H
 have A2 := sd_ A20
 clear A20
 by_cases c3 : t140 = true
 ·subst c3
  have H1 : (some (a0, (-1))) = some (r1, r2) := by rw [if_pos rfl] at H; exact H
  clear H
  have H := H1
  clear H1
  simp only [Option.some.injEq, Prod.mk.injEq] at H
  obtain ⟨rfl, rfl⟩ := H
  go_enter Try.func56, Try.ntmps56
  go_wp2_with (first | ((with_reducible refine gate_callee (f := 85) rfl ?_); refine goesL_ (some 6) rfl rfl Try.func85 (by kernel_rfl) rfl #[.int .i64 a0, .int .i64 0, .int .i64 2] rfl (by (try simp only [List.map_toArray, List.map_cons, List.map_nil]); first | done | rfl | (simp only [List.length_drop, List.length_take]; rfl)) ?_; (with_reducible refine (impl_within.calls a0 0 2 true _ A2.out).mono ?_); rintro e w' ⟨rfl, ⟨nd, rfl⟩⟩; refine ⟨_, rfl, ?_⟩))
  go_ret2
  exact ⟨by first | rfl | (simp; done) | (simp [*]; done), by repeat (first | exact Drawn0.refl _ | apply Drawn0.step)⟩
 ·replace c3 := Bool.eq_false_iff.mpr c3
  subst c3
  have H1 : ((impl_within.f a0 3 18).bind fun t141 => (if t141 = true then (some (3, wrap64 (a0 - 3))) else ((impl_within.f a0 19 34).bind fun t142 => (if t142 = true then (some (4, wrap64 (a0 - 19))) else (if a0 = 35 then (some (3, (-1))) else (if a0 = 36 then (some (4, (-1))) else (some (5, (-1))))))))) = some (r1, r2) := by rw [if_neg (show ¬ (false = true) by decide)] at H; exact H
  clear H
  have H := H1
  clear H1
  replace H := Option.bind_eq_some_iff.mp H
  obtain ⟨t141, A40, H⟩ := H
  try dsimp only at H
  have A4 := sd_ A40
  clear A40
  by_cases c5 : t141 = true
  ·subst c5
   have H1 : (some (3, wrap64 (a0 - 3))) = some (r1, r2) := by rw [if_pos rfl] at H; exact H
   clear H
   have H := H1
   clear H1
   simp only [Option.some.injEq, Prod.mk.injEq] at H
   obtain ⟨rfl, rfl⟩ := H
   go_enter Try.func56, Try.ntmps56
   go_wp2_with (first | ((with_reducible refine gate_callee (f := 85) rfl ?_); refine goesL_ (some 6) rfl rfl Try.func85 (by kernel_rfl) rfl #[.int .i64 a0, .int .i64 0, .int .i64 2] rfl (by (try simp only [List.map_toArray, List.map_cons, List.map_nil]); first | done | rfl | (simp only [List.length_drop, List.length_take]; rfl)) ?_; (with_reducible refine (impl_within.calls a0 0 2 false _ A2.out).mono ?_); rintro e w' ⟨rfl, ⟨nd, rfl⟩⟩; refine ⟨_, rfl, ?_⟩) | ((with_reducible refine gate_callee (f := 85) rfl ?_); refine goesL_ (some 10) rfl rfl Try.func85 (by kernel_rfl) rfl #[.int .i64 a0, .int .i64 3, .int .i64 18] rfl (by (try simp only [List.map_toArray, List.map_cons, List.map_nil]); first | done | rfl | (simp only [List.length_drop, List.length_take]; rfl)) ?_; (with_reducible refine (impl_within.calls a0 3 18 true _ A4.out).mono ?_); rintro e w' ⟨rfl, ⟨nd, rfl⟩⟩; refine ⟨_, rfl, ?_⟩))
   go_ret2
   exact ⟨by first | rfl | (simp; done) | (simp [*]; done), by repeat (first | exact Drawn0.refl _ | apply Drawn0.step)⟩
  ·replace c5 := Bool.eq_false_iff.mpr c5
   subst c5
   have H1 : ((impl_within.f a0 19 34).bind fun t142 => (if t142 = true then (some (4, wrap64 (a0 - 19))) else (if a0 = 35 then (some (3, (-1))) else (if a0 = 36 then (some (4, (-1))) else (some (5, (-1))))))) = some (r1, r2) := by rw [if_neg (show ¬ (false = true) by decide)] at H; exact H
   clear H
   have H := H1
   clear H1
   replace H := Option.bind_eq_some_iff.mp H
   obtain ⟨t142, A60, H⟩ := H
   try dsimp only at H
   have A6 := sd_ A60
   clear A60
   by_cases c7 : t142 = true
   ·subst c7
    have H1 : (some (4, wrap64 (a0 - 19))) = some (r1, r2) := by rw [if_pos rfl] at H; exact H
    clear H
    have H := H1
    clear H1
    simp only [Option.some.injEq, Prod.mk.injEq] at H
    obtain ⟨rfl, rfl⟩ := H
    go_enter Try.func56, Try.ntmps56
    go_wp2_with (first | ((with_reducible refine gate_callee (f := 85) rfl ?_); refine goesL_ (some 6) rfl rfl Try.func85 (by kernel_rfl) rfl #[.int .i64 a0, .int .i64 0, .int .i64 2] rfl (by (try simp only [List.map_toArray, List.map_cons, List.map_nil]); first | done | rfl | (simp only [List.length_drop, List.length_take]; rfl)) ?_; (with_reducible refine (impl_within.calls a0 0 2 false _ A2.out).mono ?_); rintro e w' ⟨rfl, ⟨nd, rfl⟩⟩; refine ⟨_, rfl, ?_⟩) | ((with_reducible refine gate_callee (f := 85) rfl ?_); refine goesL_ (some 10) rfl rfl Try.func85 (by kernel_rfl) rfl #[.int .i64 a0, .int .i64 3, .int .i64 18] rfl (by (try simp only [List.map_toArray, List.map_cons, List.map_nil]); first | done | rfl | (simp only [List.length_drop, List.length_take]; rfl)) ?_; (with_reducible refine (impl_within.calls a0 3 18 false _ A4.out).mono ?_); rintro e w' ⟨rfl, ⟨nd, rfl⟩⟩; refine ⟨_, rfl, ?_⟩) | ((with_reducible refine gate_callee (f := 85) rfl ?_); refine goesL_ (some 15) rfl rfl Try.func85 (by kernel_rfl) rfl #[.int .i64 a0, .int .i64 19, .int .i64 34] rfl (by (try simp only [List.map_toArray, List.map_cons, List.map_nil]); first | done | rfl | (simp only [List.length_drop, List.length_take]; rfl)) ?_; (with_reducible refine (impl_within.calls a0 19 34 true _ A6.out).mono ?_); rintro e w' ⟨rfl, ⟨nd, rfl⟩⟩; refine ⟨_, rfl, ?_⟩))
    go_ret2
    exact ⟨by first | rfl | (simp; done) | (simp [*]; done), by repeat (first | exact Drawn0.refl _ | apply Drawn0.step)⟩
   ·replace c7 := Bool.eq_false_iff.mpr c7
    subst c7
    have H1 : (if a0 = 35 then (some (3, (-1))) else (if a0 = 36 then (some (4, (-1))) else (some (5, (-1))))) = some (r1, r2) := by rw [if_neg (show ¬ (false = true) by decide)] at H; exact H
    clear H
    have H := H1
    clear H1
    by_cases c8 : a0 = 35
    ·rw [if_pos c8] at H
     have c8b0 : (a0 == 35) = true := beq_iff_eq.mpr c8
     have c8b1 : (a0 != 35) = false := bne_eq_false_iff_eq.mpr c8
     clear c8
     simp only [Option.some.injEq, Prod.mk.injEq] at H
     obtain ⟨rfl, rfl⟩ := H
     go_enter Try.func56, Try.ntmps56
     go_wp2_with (first | ((with_reducible refine gate_callee (f := 85) rfl ?_); refine goesL_ (some 6) rfl rfl Try.func85 (by kernel_rfl) rfl #[.int .i64 a0, .int .i64 0, .int .i64 2] rfl (by (try simp only [List.map_toArray, List.map_cons, List.map_nil]); first | done | rfl | (simp only [List.length_drop, List.length_take]; rfl)) ?_; (with_reducible refine (impl_within.calls a0 0 2 false _ A2.out).mono ?_); rintro e w' ⟨rfl, ⟨nd, rfl⟩⟩; refine ⟨_, rfl, ?_⟩) | ((with_reducible refine gate_callee (f := 85) rfl ?_); refine goesL_ (some 10) rfl rfl Try.func85 (by kernel_rfl) rfl #[.int .i64 a0, .int .i64 3, .int .i64 18] rfl (by (try simp only [List.map_toArray, List.map_cons, List.map_nil]); first | done | rfl | (simp only [List.length_drop, List.length_take]; rfl)) ?_; (with_reducible refine (impl_within.calls a0 3 18 false _ A4.out).mono ?_); rintro e w' ⟨rfl, ⟨nd, rfl⟩⟩; refine ⟨_, rfl, ?_⟩) | ((with_reducible refine gate_callee (f := 85) rfl ?_); refine goesL_ (some 15) rfl rfl Try.func85 (by kernel_rfl) rfl #[.int .i64 a0, .int .i64 19, .int .i64 34] rfl (by (try simp only [List.map_toArray, List.map_cons, List.map_nil]); first | done | rfl | (simp only [List.length_drop, List.length_take]; rfl)) ?_; (with_reducible refine (impl_within.calls a0 19 34 false _ A6.out).mono ?_); rintro e w' ⟨rfl, ⟨nd, rfl⟩⟩; refine ⟨_, rfl, ?_⟩))
     go_ret2
     exact ⟨by first | rfl | (simp; done) | (simp [*]; done), by repeat (first | exact Drawn0.refl _ | apply Drawn0.step)⟩
    ·rw [if_neg c8] at H
     have c8b0 : (a0 == 35) = false := beq_eq_false_iff_ne.mpr c8
     have c8b1 : (a0 != 35) = true := bne_iff_ne.mpr c8
     by_cases c9 : a0 = 36
     ·rw [if_pos c9] at H
      have c9b0 : (a0 == 36) = true := beq_iff_eq.mpr c9
      have c9b1 : (a0 != 36) = false := bne_eq_false_iff_eq.mpr c9
      clear c9
      simp only [Option.some.injEq, Prod.mk.injEq] at H
      obtain ⟨rfl, rfl⟩ := H
      go_enter Try.func56, Try.ntmps56
      go_wp2_with (first | ((with_reducible refine gate_callee (f := 85) rfl ?_); refine goesL_ (some 6) rfl rfl Try.func85 (by kernel_rfl) rfl #[.int .i64 a0, .int .i64 0, .int .i64 2] rfl (by (try simp only [List.map_toArray, List.map_cons, List.map_nil]); first | done | rfl | (simp only [List.length_drop, List.length_take]; rfl)) ?_; (with_reducible refine (impl_within.calls a0 0 2 false _ A2.out).mono ?_); rintro e w' ⟨rfl, ⟨nd, rfl⟩⟩; refine ⟨_, rfl, ?_⟩) | ((with_reducible refine gate_callee (f := 85) rfl ?_); refine goesL_ (some 10) rfl rfl Try.func85 (by kernel_rfl) rfl #[.int .i64 a0, .int .i64 3, .int .i64 18] rfl (by (try simp only [List.map_toArray, List.map_cons, List.map_nil]); first | done | rfl | (simp only [List.length_drop, List.length_take]; rfl)) ?_; (with_reducible refine (impl_within.calls a0 3 18 false _ A4.out).mono ?_); rintro e w' ⟨rfl, ⟨nd, rfl⟩⟩; refine ⟨_, rfl, ?_⟩) | ((with_reducible refine gate_callee (f := 85) rfl ?_); refine goesL_ (some 15) rfl rfl Try.func85 (by kernel_rfl) rfl #[.int .i64 a0, .int .i64 19, .int .i64 34] rfl (by (try simp only [List.map_toArray, List.map_cons, List.map_nil]); first | done | rfl | (simp only [List.length_drop, List.length_take]; rfl)) ?_; (with_reducible refine (impl_within.calls a0 19 34 false _ A6.out).mono ?_); rintro e w' ⟨rfl, ⟨nd, rfl⟩⟩; refine ⟨_, rfl, ?_⟩))
      go_ret2
      exact ⟨by first | rfl | (simp; done) | (simp [*]; done), by repeat (first | exact Drawn0.refl _ | apply Drawn0.step)⟩
     ·rw [if_neg c9] at H
      have c9b0 : (a0 == 36) = false := beq_eq_false_iff_ne.mpr c9
      have c9b1 : (a0 != 36) = true := bne_iff_ne.mpr c9
      simp only [Option.some.injEq, Prod.mk.injEq] at H
      obtain ⟨rfl, rfl⟩ := H
      go_enter Try.func56, Try.ntmps56
      go_wp2_with (first | ((with_reducible refine gate_callee (f := 85) rfl ?_); refine goesL_ (some 6) rfl rfl Try.func85 (by kernel_rfl) rfl #[.int .i64 a0, .int .i64 0, .int .i64 2] rfl (by (try simp only [List.map_toArray, List.map_cons, List.map_nil]); first | done | rfl | (simp only [List.length_drop, List.length_take]; rfl)) ?_; (with_reducible refine (impl_within.calls a0 0 2 false _ A2.out).mono ?_); rintro e w' ⟨rfl, ⟨nd, rfl⟩⟩; refine ⟨_, rfl, ?_⟩) | ((with_reducible refine gate_callee (f := 85) rfl ?_); refine goesL_ (some 10) rfl rfl Try.func85 (by kernel_rfl) rfl #[.int .i64 a0, .int .i64 3, .int .i64 18] rfl (by (try simp only [List.map_toArray, List.map_cons, List.map_nil]); first | done | rfl | (simp only [List.length_drop, List.length_take]; rfl)) ?_; (with_reducible refine (impl_within.calls a0 3 18 false _ A4.out).mono ?_); rintro e w' ⟨rfl, ⟨nd, rfl⟩⟩; refine ⟨_, rfl, ?_⟩) | ((with_reducible refine gate_callee (f := 85) rfl ?_); refine goesL_ (some 15) rfl rfl Try.func85 (by kernel_rfl) rfl #[.int .i64 a0, .int .i64 19, .int .i64 34] rfl (by (try simp only [List.map_toArray, List.map_cons, List.map_nil]); first | done | rfl | (simp only [List.length_drop, List.length_take]; rfl)) ?_; (with_reducible refine (impl_within.calls a0 19 34 false _ A6.out).mono ?_); rintro e w' ⟨rfl, ⟨nd, rfl⟩⟩; refine ⟨_, rfl, ?_⟩))
      go_ret2
      exact ⟨by first | rfl | (simp; done) | (simp [*]; done), by repeat (first | exact Drawn0.refl _ | apply Drawn0.step)⟩


/-! ### spec_l2Box: function 83 -/
def spec_l2Box.f (a0 : Int) : Option (Bool) := (spec_l1In.f a0 19 34).bind fun t102 => (if t102 = true then (some true) else (some (a0 == 36)))
set_option maxHeartbeats 8000000 in
set_option maxRecDepth 100000 in
theorem spec_l2Box.calls (a0 : Int) (r : Bool) (w : World) (h : spec_l2Box.f a0 = some r) :
  Calls Try.prog 83 #[.int .i64 a0] w fun e w' => e = .returned (.bool r) ∧ Drawn0 w w' := by
 have H : ((spec_l1In.f a0 19 34).bind fun t102 => (if t102 = true then (some true) else (some (a0 == 36)))) = some r := h
 clear h
 replace H := Option.bind_eq_some_iff.mp H
 obtain ⟨t102, A20, H⟩ := H
 try dsimp only at H
 have A2 := sd_ A20
 clear A20
 by_cases c3 : t102 = true
 ·subst c3
  have H1 : (some true) = some r := by rw [if_pos rfl] at H; exact H
  clear H
  have H := H1
  clear H1
  obtain rfl := Option.some.inj H
  go_enter Try.func83, Try.ntmps83
  go_wp2_with (first | ((with_reducible refine gate_callee (f := 80) rfl ?_); refine goesL_ (some 4) rfl rfl Try.func80 (by kernel_rfl) rfl #[.int .i64 a0, .int .i64 19, .int .i64 34] rfl (by (try simp only [List.map_toArray, List.map_cons, List.map_nil]); first | done | rfl | (simp only [List.length_drop, List.length_take]; rfl)) ?_; (with_reducible refine (spec_l1In.calls a0 19 34 true _ A2.out).mono ?_); rintro e w' ⟨rfl, ⟨nd, rfl⟩⟩; refine ⟨_, rfl, ?_⟩))
  go_ret
  exact ⟨by first | rfl | (simp; done) | (simp [*]; done), by repeat (first | exact Drawn0.refl _ | apply Drawn0.step)⟩
 ·replace c3 := Bool.eq_false_iff.mpr c3
  subst c3
  have H1 : (some (a0 == 36)) = some r := by rw [if_neg (show ¬ (false = true) by decide)] at H; exact H
  clear H
  have H := H1
  clear H1
  obtain rfl := Option.some.inj H
  go_enter Try.func83, Try.ntmps83
  go_wp2_with (first | ((with_reducible refine gate_callee (f := 80) rfl ?_); refine goesL_ (some 4) rfl rfl Try.func80 (by kernel_rfl) rfl #[.int .i64 a0, .int .i64 19, .int .i64 34] rfl (by (try simp only [List.map_toArray, List.map_cons, List.map_nil]); first | done | rfl | (simp only [List.length_drop, List.length_take]; rfl)) ?_; (with_reducible refine (spec_l1In.calls a0 19 34 false _ A2.out).mono ?_); rintro e w' ⟨rfl, ⟨nd, rfl⟩⟩; refine ⟨_, rfl, ?_⟩))
  go_ret
  exact ⟨by first | rfl | (simp; done) | (simp [*]; done), by repeat (first | exact Drawn0.refl _ | apply Drawn0.step)⟩

end Go.Proofs.Ytnokgkhkmnldeaa.P
end
