/- Terms: copies, sizes, comparisons. -/
import Derived.Test.YtnokgkhkmnldeaaPf31
import Derived.Test.YtnokgkhkmnldeaaPf33
import Derived.Test.YtnokgkhkmnldeaaPf35
import Derived.Test.YtnokgkhkmnldeaaB0
set_option linter.unusedSimpArgs false
set_option linter.unusedVariables false
namespace Go.Proofs.Ytnokgkhkmnldeaa.Pure
open Go.RowKit Go.Proofs.Ytnokgkhkmnldeaa.P Go.Proofs.YtnokgkhkmnldeaaW.PrintWords Go.Proofs.YtnokgkhkmnldeaaW.PrintLast
/-! ## Terms of the laws and of the program -/
theorem kid_lt {x y : S43} (h : y ∈ x.f3) : SizeOf.sizeOf y < SizeOf.sizeOf x := by
  have := List.sizeOf_lt_of_mem h
  cases x
  simp at this ⊢
  omega
theorem kid_ltI {x y : S48} (h : y ∈ x.f3) : SizeOf.sizeOf y < SizeOf.sizeOf x := by
  have := List.sizeOf_lt_of_mem h
  cases x
  simp at this ⊢
  omega
theorem indL {P : S43 → Prop} (h : ∀ x, (∀ y ∈ x.f3, P y) → P x) : ∀ (n : Nat) (x : S43), SizeOf.sizeOf x < n → P x
  | 0, x, hn => absurd hn (by omega)
  | n + 1, x, hn => h x fun y hy => indL h n y (by have := kid_lt hy; omega)
theorem indI {P : S48 → Prop} (h : ∀ x, (∀ y ∈ x.f3, P y) → P x) : ∀ (n : Nat) (x : S48), SizeOf.sizeOf x < n → P x
  | 0, x, hn => absurd hn (by omega)
  | n + 1, x, hn => h x fun y hy => indI h n y (by have := kid_ltI hy; omega)
def conv (x : S43) : S48 := ⟨x.f0, x.f1, x.f2, x.f3.attach.map fun y => conv y.1⟩
termination_by SizeOf.sizeOf x
decreasing_by exact kid_lt y.2
theorem conv_eq (x : S43) : conv x = ⟨x.f0, x.f1, x.f2, x.f3.map conv⟩ := by
  rw [conv]
  congr 1
  rw [List.attach_map_val (f := conv)]
inductive Small : S48 → Prop
  | mk (a b : Int) (t : List Int) (ks : List S48) : t.length ≤ 1048576 → ks.length ≤ 1048576 → (∀ y ∈ ks, Small y) → Small ⟨a, b, t, ks⟩
theorem Small.out {x : S48} (h : Small x) : x.f2.length ≤ 1048576 ∧ x.f3.length ≤ 1048576 ∧ ∀ y ∈ x.f3, Small y := by
  cases h with
  | mk _ _ _ _ h1 h2 h3 => exact ⟨h1, h2, h3⟩
theorem small_of {x : S48} (h1 : x.f2.length ≤ 1048576) (h2 : x.f3.length ≤ 1048576) (h3 : ∀ y ∈ x.f3, Small y) : Small x := by
  cases x; exact .mk _ _ _ _ h1 h2 h3
theorem rdL_get {l : List S43} {i : Nat} (h : i < l.length) : rd_T43 l (i : Int) = l[i] := by
  unfold rd_T43; rw [Int.toNat_natCast, List.getD_eq_getElem?_getD, List.getElem?_eq_getElem h]; rfl
theorem rdI_get {l : List S48} {i : Nat} (h : i < l.length) : rd_T48 l (i : Int) = l[i] := by
  unfold rd_T48; rw [Int.toNat_natCast, List.getD_eq_getElem?_getD, List.getElem?_eq_getElem h]; rfl
theorem maxLen_le : maxLen ≤ 9223372036854775807 := by decide
theorem szIntS_ev (l : List Int) (a : Int) (ha : 0 ≤ a) (hb : a ≤ 1048576) (hl : l.length ≤ maxLen) : ∃ v, laws_szIntS.f l a = some v ∧ -1 ≤ v ∧ v ≤ a ∧ (0 ≤ v → l.length ≤ 1048576) := by
  have := maxLen_le
  unfold laws_szIntS.f
  rw [w64 (x := a - (l.length : Int)) (by omega) (by omega)]
  by_cases c : a - (l.length : Int) < 0
  · rw [if_pos c]; exact ⟨-1, rfl, by omega, by omega, by omega⟩
  · rw [if_neg c]; exact ⟨_, rfl, by omega, by omega, by omega⟩
theorem szTermE (x : S43) (hw : Wf43 x) : ∀ a : Int, 0 ≤ a → a ≤ 1048576 → ∃ v, Ev (fun k => laws_szTerm.f k x.f0 x.f1 x.f2 x.f3 a) v ∧ -1 ≤ v ∧ v ≤ a ∧ (0 ≤ v → Small (conv x)) := by
  revert hw
  refine indL (P := fun x => Wf43 x → ∀ a : Int, 0 ≤ a → a ≤ 1048576 → ∃ v, Ev (fun k => laws_szTerm.f k x.f0 x.f1 x.f2 x.f3 a) v ∧ -1 ≤ v ∧ v ≤ a ∧ (0 ≤ v → Small (conv x))) ?_ (SizeOf.sizeOf x + 1) x (by omega)
  clear x
  intro x ih hw a ha hb
  have hm := maxLen_le
  obtain ⟨_, _, ⟨_, w2⟩, wk, w3⟩ := hw.out
  obtain ⟨v, e1, v1, v2, v3⟩ := szIntS_ev x.f2 a ha hb w2
  have step : ∀ {r : Int}, Ev (fun k => if v < 0 then some (-1) else (laws_szTermS.f k x.f3 v).bind fun t => if t < 0 then some (-1) else some t) r → Ev (fun k => laws_szTerm.f k x.f0 x.f1 x.f2 x.f3 a) r := fun h => Ev.step (fun k => by simp only [laws_szTerm.f, e1, Option.bind_some]) h
  by_cases c : v < 0
  · exact ⟨-1, step (by simpa [c] using Ev.now (-1 : Int)), by omega, by omega, by omega⟩
  · have lp : ∀ (m i : Nat) (acc : Int), i + m = x.f3.length → 0 ≤ acc → acc ≤ v - x.f3.length → ∃ u, Ev (fun k => laws_szTermS.l0 k x.f3 acc (i : Int)) u ∧ -1 ≤ u ∧ u ≤ acc ∧ (0 ≤ u → ∀ y ∈ x.f3.drop i, Small (conv y)) := by
      intro m
      induction m with
      | zero =>
        intro i acc hi h0 h1
        refine ⟨acc, Ev.step (f := fun _ => some acc) (fun k => ?_) (Ev.now _), by omega, by omega, fun _ y hy => ?_⟩
        · simp only [laws_szTermS.l0]; rw [if_neg (by omega)]
        · rw [List.drop_eq_nil_of_le (by omega)] at hy; cases hy
      | succ m ihm =>
        intro i acc hi h0 h1
        have hmem : x.f3[i] ∈ x.f3 := List.getElem_mem _
        obtain ⟨u, hu, u1, u2, u3⟩ := ih _ hmem (wk _ hmem) acc h0 (by omega)
        have st : ∀ {r : Int}, Ev (fun k => if u < 0 then some (-1) else laws_szTermS.l0 k x.f3 u ((i + 1 : Nat) : Int)) r → Ev (fun k => laws_szTermS.l0 k x.f3 acc (i : Int)) r := fun h => by
          refine Ev.step (f := fun k => (laws_szTerm.f k x.f3[i].f0 x.f3[i].f1 x.f3[i].f2 x.f3[i].f3 acc).bind fun t => if t < 0 then some (-1) else laws_szTermS.l0 k x.f3 t ((i + 1 : Nat) : Int)) (fun k => ?_) (Ev.bind hu h)
          simp only [laws_szTermS.l0, rdL_get (show i < x.f3.length by omega)]
          rw [if_pos (by omega), if_pos (by omega), w64 (x := (i : Int) + 1) (by omega) (by omega)]; rfl
        by_cases cu : u < 0
        · exact ⟨-1, st (by simpa [cu] using Ev.now (-1 : Int)), by omega, by omega, by omega⟩
        · obtain ⟨z, hz, z1, z2, z3⟩ := ihm (i + 1) u (by omega) (by omega) (by omega)
          refine ⟨z, st (by simpa [cu] using hz), z1, by omega, fun h y hy => ?_⟩
          rw [List.drop_eq_getElem_cons (by omega)] at hy
          rcases List.mem_cons.mp hy with rfl | hy
          · exact u3 (by omega)
          · exact z3 h y hy
    have st2 : ∀ {r : Int}, Ev (fun k => (laws_szTermS.f k x.f3 v).bind fun t => if t < 0 then some (-1) else some t) r → Ev (fun k => laws_szTerm.f k x.f0 x.f1 x.f2 x.f3 a) r := fun h => step (by simpa [c] using h)
    by_cases c2 : v - (x.f3.length : Int) < 0
    · refine ⟨-1, st2 (Ev.bind (a := -1) (Ev.step (f := fun _ => some (-1)) (fun k => ?_) (Ev.now _)) (by simpa using Ev.now (-1 : Int))), by omega, by omega, by omega⟩
      simp only [laws_szTermS.f]; rw [w64 (x := v - (x.f3.length : Int)) (by omega) (by omega), if_pos c2]
    · obtain ⟨u, hu, u1, u2, u3⟩ := lp x.f3.length 0 (v - x.f3.length) (by omega) (by omega) (by omega)
      have hS : Ev (fun k => laws_szTermS.f k x.f3 v) u := by
        refine Ev.step (fun k => ?_) hu
        simp only [laws_szTermS.f]; rw [w64 (x := v - (x.f3.length : Int)) (by omega) (by omega), if_neg c2]; rfl
      by_cases cu : u < 0
      · exact ⟨-1, st2 (Ev.bind hS (by simpa [cu] using Ev.now (-1 : Int))), by omega, by omega, by omega⟩
      · refine ⟨u, st2 (Ev.bind hS (by simpa [cu] using Ev.now u)), u1, by omega, fun h => ?_⟩
        rw [conv_eq]
        refine .mk _ _ _ _ (v3 (by omega)) (by simp; omega) fun y hy => ?_
        obtain ⟨y', hy', rfl⟩ := List.mem_map.mp hy
        exact u3 h y' (by simpa using hy')
theorem toTermE (x : S43) (hs : Small (conv x)) : Ev (fun k => laws_toTerm.f k x.f0 x.f1 x.f2 x.f3) ((conv x).f0, (conv x).f1, (conv x).f2, (conv x).f3) := by
  revert hs
  refine indL (P := fun x => Small (conv x) → Ev (fun k => laws_toTerm.f k x.f0 x.f1 x.f2 x.f3) ((conv x).f0, (conv x).f1, (conv x).f2, (conv x).f3)) ?_ (SizeOf.sizeOf x + 1) x (by omega)
  clear x
  intro x ih hs
  rw [conv_eq] at hs
  obtain ⟨s2, s3, sk⟩ := hs.out
  simp only [List.length_map] at s3
  rw [conv_eq]
  have lp : ∀ (m i : Nat) (pre rest : List S48), i + m = x.f3.length → pre.length = i → rest.length = m → Ev (fun k => laws_toTermS.l0 k x.f3 (pre ++ rest) (i : Int)) (pre ++ (x.f3.drop i).map conv) := by
    intro m
    induction m with
    | zero =>
      intro i pre rest hi hp hr
      obtain rfl : rest = [] := List.length_eq_zero_iff.mp hr
      rw [List.drop_eq_nil_of_le (by omega)]
      refine Ev.step (f := fun _ => some (pre ++ [])) (fun k => ?_) (by simpa using Ev.now pre)
      simp only [laws_toTermS.l0]; rw [if_neg (by omega)]
    | succ m ihm =>
      intro i pre rest hi hp hr
      obtain ⟨z, zs, rfl⟩ : ∃ z zs, rest = z :: zs := by cases rest with | nil => cases hr | cons z zs => exact ⟨z, zs, rfl⟩
      have hmem : x.f3[i] ∈ x.f3 := List.getElem_mem _
      have h1 := ih _ hmem (sk _ (List.mem_map.mpr ⟨_, hmem, rfl⟩))
      have h2 := ihm (i + 1) (pre ++ [conv x.f3[i]]) zs (by omega) (by simp [hp]) (by simpa using hr)
      have e1 : (pre ++ z :: zs).set i (conv x.f3[i]) = (pre ++ [conv x.f3[i]]) ++ zs := by subst hp; simp
      have e2 : pre ++ (x.f3.drop i).map conv = (pre ++ [conv x.f3[i]]) ++ (x.f3.drop (i + 1)).map conv := by
        rw [List.drop_eq_getElem_cons (show i < x.f3.length by omega), List.map_cons, List.append_assoc]; rfl
      rw [e2]
      refine Ev.step (f := fun k => (laws_toTerm.f k x.f3[i].f0 x.f3[i].f1 x.f3[i].f2 x.f3[i].f3).bind fun b => laws_toTermS.l0 k x.f3 ((pre ++ z :: zs).set i ⟨b.1, b.2.1, b.2.2.1, b.2.2.2⟩) ((i + 1 : Nat) : Int)) (fun k => ?_) (Ev.bind h1 ?_)
      · simp only [laws_toTermS.l0, rdL_get (show i < x.f3.length by omega)]
        have ln : (i : Int) < ((pre ++ z :: zs).length : Int) := by simp; omega
        rw [if_pos (by omega), if_pos (by omega), w64 (x := (i : Int) + 1) (by omega) (by omega)]
        simp only [if_pos ln, Int.toNat_natCast]
        congr 1
      · have eta : (⟨(conv x.f3[i]).f0, (conv x.f3[i]).f1, (conv x.f3[i]).f2, (conv x.f3[i]).f3⟩ : S48) = conv x.f3[i] := by cases conv x.f3[i]; rfl
        simp only [eta]
        rw [e1]; exact h2
  have hS : Ev (fun k => laws_toTermS.f k x.f3) (x.f3.map conv) := by
    have := lp x.f3.length 0 [] (List.replicate x.f3.length z48) (by omega) rfl (by simp)
    simp only [List.nil_append, List.drop_zero] at this
    refine Ev.step (fun k => ?_) this
    simp only [laws_toTermS.f]
    rw [if_pos (by omega), if_pos (by omega), Int.toNat_natCast]; rfl
  refine Ev.step (f := fun k => (laws_toIntS.f k x.f2).bind fun u => (laws_toTermS.f k x.f3).bind fun v => some (x.f0, x.f1, u, v)) (fun k => by simp only [laws_toTerm.f]) ?_
  refine Ev.bind (toIntS x.f2 s2) ?_
  refine Ev.bind hS ?_
  exact Ev.now _
theorem eqTermE (x : S48) (hs : Small x) : Ev (fun k => laws_eqTerm.f k x.f0 x.f1 x.f2 x.f3 x.f0 x.f1 x.f2 x.f3) true := by
  revert hs
  refine indI (P := fun x => Small x → Ev (fun k => laws_eqTerm.f k x.f0 x.f1 x.f2 x.f3 x.f0 x.f1 x.f2 x.f3) true) ?_ (SizeOf.sizeOf x + 1) x (by omega)
  clear x
  intro x ih hs
  obtain ⟨s2, s3, sk⟩ := hs.out
  have hS : Ev (fun k => laws_eqTermS.f k x.f3 x.f3) true := by
    refine Ev.step (f := fun k => laws_eqTermS.l0 k x.f3 x.f3 0) (fun k => by simp only [laws_eqTermS.f, if_true]) ?_
    have hh : (findO (fun _ => (none : Option Bool)) 0 (x.f3.length : Int).toNat).getD true = true := by rw [findO_nil]; rfl
    rw [← hh]
    refine loop0 (F := fun k i => laws_eqTermS.l0 k x.f3 x.f3 i) (n := (x.f3.length : Int)) (g := fun _ => none) (e := true) (by omega) ?_ ?_
    · refine Ev.step (f := fun _ => some true) (fun k => ?_) (Ev.now _)
      simp only [laws_eqTermS.l0]; rw [if_neg (by omega)]
    · intro i h0 h1 r hr
      obtain ⟨j, rfl⟩ : ∃ j : Nat, i = j := ⟨i.toNat, by omega⟩
      have hmem : x.f3[j]'(by omega) ∈ x.f3 := List.getElem_mem _
      have h2 := ih _ hmem (sk _ hmem)
      refine Ev.step (f := fun k => (laws_eqTerm.f k (x.f3[j]'(by omega)).f0 (x.f3[j]'(by omega)).f1 (x.f3[j]'(by omega)).f2 (x.f3[j]'(by omega)).f3 (x.f3[j]'(by omega)).f0 (x.f3[j]'(by omega)).f1 (x.f3[j]'(by omega)).f2 (x.f3[j]'(by omega)).f3).bind fun t => if t = true then laws_eqTermS.l0 k x.f3 x.f3 ((j : Int) + 1) else some false) (fun k => ?_) (Ev.bind h2 (by simpa using hr))
      simp only [laws_eqTermS.l0, rdI_get (show j < x.f3.length by omega)]
      rw [if_pos h1, if_pos h0, if_pos h1, w64 (x := (j : Int) + 1) (by omega) (by omega)]
  refine Ev.step (f := fun k => (laws_eqIntS.f k x.f2 x.f2).bind fun t => if t = true then ((laws_eqTermS.f k x.f3 x.f3).bind fun t => if t = true then some true else some false) else some false) (fun k => by simp only [laws_eqTerm.f, if_true]) ?_
  refine Ev.bind (eqIntS x.f2 s2) ?_
  simp only [if_true]
  refine Ev.bind hS ?_
  simp only [if_true]
  exact Ev.now _
end Go.Proofs.Ytnokgkhkmnldeaa.Pure
