/- FnExactUsesOf: the pure statement. -/
import Derived.Test.YtnokgkhkmnldeaaPf9
import Derived.Test.YtnokgkhkmnldeaaB10
set_option linter.unusedSimpArgs false
set_option linter.unusedVariables false
namespace Go.Proofs.Ytnokgkhkmnldeaa.Pure
open Go.RowKit Go.Proofs.Ytnokgkhkmnldeaa.P Go.Proofs.YtnokgkhkmnldeaaW.PrintWords Go.Proofs.YtnokgkhkmnldeaaW.PrintLast
theorem ev_one {α : Type} {g : Nat → Option α} {a b : α} (h : Ev g a) (k : Ev g b) : a = b := by
  obtain ⟨K, h⟩ := h
  obtain ⟨L, k⟩ := k
  have := (h (max K L) (by omega)).symm.trans (k (max K L) (by omega))
  exact Option.some.inj this
theorem usesBoth (x : S48) (hs : Small x) : ∀ a : Int, ∃ v : Int, Ev (fun k => spec_l2Uses.f k x.f0 x.f1 x.f2 x.f3 a) v ∧ Ev (fun k => impl_uses.f k x.f0 x.f1 x.f2 x.f3 a) v := by
  revert hs
  refine indI (P := fun x => Small x → ∀ a : Int, ∃ v : Int, Ev (fun k => spec_l2Uses.f k x.f0 x.f1 x.f2 x.f3 a) v ∧ Ev (fun k => impl_uses.f k x.f0 x.f1 x.f2 x.f3 a) v) ?_ (SizeOf.sizeOf x + 1) x (by omega)
  clear x
  intro x ih hs a
  obtain ⟨s2, s3, sk⟩ := hs.out
  by_cases c : x.f0 = 0
  · refine ⟨if x.f1 = a then 1 else 0, ?_, ?_⟩
    · refine Ev.step (f := fun _ => some (if x.f1 = a then 1 else 0)) (fun k => ?_) (Ev.now _)
      simp only [spec_l2Uses.f, if_pos c]; split <;> rfl
    · refine Ev.step (f := fun _ => some (if x.f1 = a then 1 else 0)) (fun k => ?_) (Ev.now _)
      simp only [impl_uses.f, if_pos c]; split <;> rfl
  · have lp : ∀ (m i : Nat) (acc : Int), i + m = x.f3.length → ∃ v : Int, Ev (fun k => spec_l2Uses.l0 k a acc (i : Int) x.f0 x.f1 x.f2 x.f3) v ∧ Ev (fun k => impl_uses.l0 k a acc x.f3 (x.f3.length : Int) (i : Int) x.f0 x.f1 x.f2 x.f3) v := by
      intro m
      induction m with
      | zero =>
        intro i acc hi
        refine ⟨acc, Ev.step (f := fun _ => some acc) (fun k => ?_) (Ev.now _), Ev.step (f := fun _ => some acc) (fun k => ?_) (Ev.now _)⟩
        · simp only [spec_l2Uses.l0]; rw [if_neg (by omega)]
        · simp only [impl_uses.l0]; rw [if_neg (by omega)]
      | succ m ihm =>
        intro i acc hi
        have hmem : x.f3[i] ∈ x.f3 := List.getElem_mem _
        obtain ⟨v, h1, h2⟩ := ih _ hmem (sk _ hmem) (wrap64 (a + addsV x.f0 i))
        obtain ⟨u, u1, u2⟩ := ihm (i + 1) (wrap64 (acc + v)) (by omega)
        have i1 : (i : Int) < (x.f3.length : Int) := by omega
        have i0 : 0 ≤ (i : Int) := by omega
        have up : wrap64 ((i : Int) + 1) = ((i + 1 : Nat) : Int) := by rw [w64 (by omega) (by omega)]; omega
        refine ⟨u, ?_, ?_⟩
        · obtain ⟨K, hK⟩ := Ev.bind (f := fun k t => spec_l2Uses.l0 k a (wrap64 (acc + t)) ((i + 1 : Nat) : Int) x.f0 x.f1 x.f2 x.f3) h1 u1
          refine ⟨K + 2, fun k hk => ?_⟩
          obtain ⟨k, rfl⟩ : ∃ q, k = q + 2 := ⟨k - 2, by omega⟩
          have := hK (k + 1) (by omega)
          show spec_l2Uses.l0 (k + 1 + 1) a acc (i : Int) x.f0 x.f1 x.f2 x.f3 = _
          simp only [spec_l2Uses.l0, rdI_get (show i < x.f3.length by omega)]
          rw [if_pos i1, if_pos i0, specAdds, Option.bind_some, up]
          exact this
        · obtain ⟨K, hK⟩ := Ev.bind (f := fun k t => impl_uses.l0 k a (wrap64 (acc + t)) x.f3 (x.f3.length : Int) ((i + 1 : Nat) : Int) x.f0 x.f1 x.f2 x.f3) h2 u2
          refine ⟨K + 3, fun k hk => ?_⟩
          obtain ⟨k, rfl⟩ : ∃ q, k = q + 3 := ⟨k - 3, by omega⟩
          have := hK (k + 2) (by omega)
          show impl_uses.l0 (k + 2 + 1) a acc x.f3 (x.f3.length : Int) (i : Int) x.f0 x.f1 x.f2 x.f3 = _
          simp only [impl_uses.l0, rdI_get (show i < x.f3.length by omega)]
          rw [if_pos i1, if_pos i0, if_pos i1, implAdds, Option.bind_some, up]
          exact this
    obtain ⟨v, v1, v2⟩ := lp x.f3.length 0 0 (by omega)
    exact ⟨v, Ev.step (fun k => by simp only [spec_l2Uses.f, if_neg c]; rfl) v1, Ev.step (fun k => by simp only [impl_uses.f, if_neg c]; rfl) v2⟩
theorem nodes_pos (x : S48) : 1 ≤ nodes x := by rw [nodes_eq]; omega
theorem nodes_kid {x y : S48} (h : y ∈ x.f3) : nodes y + 1 ≤ nodes x := by
  rw [nodes_eq x]
  have : ∀ (l : List S48), y ∈ l → nodes y ≤ (l.map nodes).sum := by
    intro l
    induction l with
    | nil => intro h; cases h
    | cons z zs ih =>
      intro h
      rw [List.map_cons, List.sum_cons]
      rcases List.mem_cons.mp h with rfl | h
      · omega
      · have := ih h; omega
  have := this x.f3 h
  omega
theorem usesNone (x : S48) (hs : Small x) : ∀ d a : Int, Fine x d → 0 ≤ d → d + 2 * nodes x ≤ 2097152 → -9223372036854775808 ≤ a → a ≤ 9223372036854775807 → (d ≤ a ∨ a + 2 * nodes x < 0) → Ev (fun k => spec_l2Uses.f k x.f0 x.f1 x.f2 x.f3 a) 0 := by
  revert hs
  refine indI (P := fun x => Small x → ∀ d a : Int, Fine x d → 0 ≤ d → d + 2 * nodes x ≤ 2097152 → -9223372036854775808 ≤ a → a ≤ 9223372036854775807 → (d ≤ a ∨ a + 2 * nodes x < 0) → Ev (fun k => spec_l2Uses.f k x.f0 x.f1 x.f2 x.f3 a) 0) ?_ (SizeOf.sizeOf x + 1) x (by omega)
  clear x
  intro x ih hs d a hf h0 h1 ha hb hi
  obtain ⟨s2, s3, sk⟩ := hs.out
  have hp := nodes_pos x
  cases hf with
  | mk _ _ f0 fl fk =>
  by_cases c : x.f0 = 0
  · have := f0 c
    rw [w64 (x := d - 1) (by omega) (by omega)] at this
    have := (inV_iff _ _ _).mp this
    refine Ev.step (f := fun _ => some 0) (fun k => ?_) (Ev.now _)
    simp only [spec_l2Uses.f, if_pos c]
    rw [if_neg (by omega)]
  · have lp : ∀ (m i : Nat), i + m = x.f3.length → Ev (fun k => spec_l2Uses.l0 k a 0 (i : Int) x.f0 x.f1 x.f2 x.f3) 0 := by
      intro m
      induction m with
      | zero =>
        intro i hi'
        refine Ev.step (f := fun _ => some 0) (fun k => ?_) (Ev.now _)
        simp only [spec_l2Uses.l0]; rw [if_neg (by omega)]
      | succ m ihm =>
        intro i hi'
        have hmem : x.f3[i] ∈ x.f3 := List.getElem_mem _
        have hk := nodes_kid hmem
        have hd := adds_le x.f0 i
        have fk' := fk i (by omega)
        have ed : wrap64 (d + addsV x.f0 i) = d + addsV x.f0 i := w64 (by omega) (by omega)
        rw [ed] at fk'
        have rng : -9223372036854775808 ≤ wrap64 (a + addsV x.f0 i) ∧ wrap64 (a + addsV x.f0 i) ≤ 9223372036854775807 := by unfold wrap64; omega
        have inv' : d + addsV x.f0 i ≤ wrap64 (a + addsV x.f0 i) ∨ wrap64 (a + addsV x.f0 i) + 2 * nodes x.f3[i] < 0 := by
          by_cases w : a + addsV x.f0 i ≤ 9223372036854775807
          · rw [w64 (by omega) w]
            rcases hi with h | h
            · left; omega
            · right; omega
          · right
            have : wrap64 (a + addsV x.f0 i) = a + addsV x.f0 i - 18446744073709551616 := by unfold wrap64; omega
            rw [this]; omega
        have h2 := ih _ hmem (sk _ hmem) (d + addsV x.f0 i) (wrap64 (a + addsV x.f0 i)) fk' (by omega) (by omega) rng.1 rng.2 inv'
        have u1 := ihm (i + 1) (by omega)
        have i1 : (i : Int) < (x.f3.length : Int) := by omega
        have i0 : 0 ≤ (i : Int) := by omega
        have up : wrap64 ((i : Int) + 1) = ((i + 1 : Nat) : Int) := by rw [w64 (by omega) (by omega)]; omega
        obtain ⟨K, hK⟩ := Ev.bind (f := fun k t => spec_l2Uses.l0 k a (wrap64 (0 + t)) ((i + 1 : Nat) : Int) x.f0 x.f1 x.f2 x.f3) (r := 0) h2 (by rw [w64 (x := (0 : Int) + 0) (by omega) (by omega)]; exact u1)
        refine ⟨K + 2, fun k hk => ?_⟩
        obtain ⟨k, rfl⟩ : ∃ q, k = q + 2 := ⟨k - 2, by omega⟩
        have := hK (k + 1) (by omega)
        show spec_l2Uses.l0 (k + 1 + 1) a 0 (i : Int) x.f0 x.f1 x.f2 x.f3 = _
        simp only [spec_l2Uses.l0, rdI_get (show i < x.f3.length by omega)]
        rw [if_pos i1, if_pos i0, specAdds, Option.bind_some, up]
        exact this
    exact Ev.step (fun k => by simp only [spec_l2Uses.f, if_neg c]; rfl) (lp x.f3.length 0 (by omega))
theorem FnExactUsesOf : laws_FnExactUsesOf.Pure := by
  intro p0 p1 p2 p3 a h0 h1 h2 h3 ha
  refine evRounds ?_
  unfold laws_FnExactUsesOf.f
  have hw : Wf43 ⟨p0, p1, p2, p3⟩ := .mk _ _ _ _ h0 h1 h2 h3.1 h3.2
  obtain ⟨s, es, s1, s2, s3⟩ := szTermE ⟨p0, p1, p2, p3⟩ hw 1048576 (by decide) (by decide)
  refine Ev.bind es ?_
  by_cases c : s < 0
  · simp only [if_pos c]; exact Ev.now _
  · simp only [if_neg c]
    have hs := s3 (by omega)
    have tt := toTermE ⟨p0, p1, p2, p3⟩ hs
    have te := eqTermE _ hs
    generalize conv ⟨p0, p1, p2, p3⟩ = x at hs tt te
    obtain ⟨v, hv0, hv1, hv2, hv3⟩ := writtenBoth x hs
    have hi0 : Ev (fun k => impl_IsWritten.f k x.f0 x.f1 x.f2 x.f3) v := by
      unfold impl_IsWritten.f
      refine Ev.bind hv2 ?_
      cases v
      · simpa using Ev.now false
      · simp only [if_true, decide_eq_true (show (nodes x : Int) ≤ 400 by have := hv3 rfl; omega)]
        exact Ev.now _
    have hr := wf_range ha
    obtain ⟨b, hb1, hb2⟩ : ∃ b : Int, (v = true → 0 ≤ a → Ev (fun k => spec_l2Uses.f k x.f0 x.f1 x.f2 x.f3 a) b) ∧ (v = true → 0 ≤ a → Ev (fun k => impl_uses.f k x.f0 x.f1 x.f2 x.f3 (mn a 1048576)) b) := by
      by_cases cb : a ≤ 1048576
      · obtain ⟨b, h1, h2⟩ := usesBoth x hs a
        refine ⟨b, fun _ _ => h1, fun _ _ => ?_⟩
        rw [show mn a 1048576 = a by unfold mn; split <;> omega]
        exact h2
      · refine ⟨0, fun hv h0 => ?_, fun hv h0 => ?_⟩
        · have hn := hv3 hv
          exact usesNone x hs 8 a (hv0 hv) (by omega) (by omega) hr.1 hr.2 (Or.inl (by omega))
        · have hn := hv3 hv
          rw [show mn a 1048576 = 1048576 by unfold mn; split <;> omega]
          obtain ⟨b, h1, h2⟩ := usesBoth x hs 1048576
          have := usesNone x hs 8 1048576 (hv0 hv) (by omega) (by omega) (by omega) (by omega) (Or.inl (by omega))
          rw [ev_one this h1]
          exact h2
    have hsp : Ev (fun k => spec_UsesOf.f k x.f0 x.f1 x.f2 x.f3 a) (if v = true then (if a < 0 then -1 else b) else -1) := by
      unfold spec_UsesOf.f
      refine Ev.bind hv1 ?_
      cases v
      · simpa using Ev.now (-1 : Int)
      · by_cases cn : a < 0
        · simpa [cn] using Ev.now (-1 : Int)
        · simp only [if_true, if_neg cn, Option.bind_fun_some]
          exact hb1 rfl (by omega)
    have hi : Ev (fun k => impl_UsesOf.f k x.f0 x.f1 x.f2 x.f3 a) (if v = true then (if a < 0 then -1 else b) else -1) := by
      unfold impl_UsesOf.f
      refine Ev.bind hi0 ?_
      cases v
      · simpa using Ev.now (-1 : Int)
      · by_cases cn : a < 0
        · simpa [cn] using Ev.now (-1 : Int)
        · simp only [if_true, if_neg cn, Option.bind_fun_some]
          exact hb2 rfl (by omega)
    refine Ev.bind tt ?_
    refine Ev.bind (hsp) ?_
    refine Ev.bind tt ?_
    refine Ev.bind (hi) ?_
    simp only [bne_self_eq_false, Bool.false_eq_true, if_false, if_true, eq_self]
    refine Ev.bind tt ?_
    refine Ev.bind te ?_
    simp only [if_true]
    exact Ev.now _
end Go.Proofs.Ytnokgkhkmnldeaa.Pure
