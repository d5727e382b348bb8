-- Several texts in one (wip/tools/merge.py).
import Derived.Test.YtjjkagnbdfofbaaPf4
import Derived.Test.YtjjkagnbdfofbaaM14
import Derived.Test.YtjjkagnbdfofbaaM17
import Derived.Test.YtjjkagnbdfofbaaM15
section
/- Maps one behind the other; what a map shows of a view. -/
set_option linter.unusedSimpArgs false
set_option linter.unusedVariables false
namespace Go.Proofs.Ytjjkagnbdfofbaa.Pure
open Go.RowKit Go.Proofs.Ytjjkagnbdfofbaa.P Go.Proofs.YtjjkagnbdfofbaaW.PrintWords Go.Proofs.YtjjkagnbdfofbaaW.PrintLast
/-- What a map is. -/
structure MapF (n : Int) (p t : List Int) (b : List Bool) (n' : Int) (p' t' : List Int) (b' : List Bool) (xs : List Int) : Prop where
  s1 : sysV n p t b = true
  s2 : sysV n' p' t' b' = true
  ln : (xs.length : Int) = n
  rg : ∀ x, Rg n x → Rg n' (rd xs x)
  ok : ∀ x y, Rg n x → Rg n y → mOk n p t b n' p' t' b' xs x y = true
  en : ends xs = true
section
variable {n : Int} {p t : List Int} {b : List Bool} {n' : Int} {p' t' : List Int} {b' : List Bool} {xs : List Int}
theorem map_facts (h : mapV n p t b n' p' t' b' xs = true) : MapF n p t b n' p' t' b' xs := by
  unfold mapV pre at h
  split at h
  · rename_i c
    rw [Bool.and_eq_true, Bool.and_eq_true, decide_eq_true_eq] at c
    split at h
    · cases h
    · rename_i hb
      split at h
      · rename_i hf
        have o := sysV_ok c.1
        have o' := sysV_ok c.2.1
        have hb2 : xs.any (bad n') = false := by simpa using hb
        have h1 := o.lo
        refine ⟨c.1, c.2.1, c.2.2, fun x hx => ?_, fun x y hx hy => ?_, h⟩
        · have h3 : x.toNat < xs.length := by have := hx.1; have := hx.2; omega
          have := (List.any_eq_false.mp hb2) xs[x.toNat] (List.getElem_mem h3)
          have e : rd xs x = xs[x.toNat] := by have := rd_get h3; rwa [Int.toNat_of_nonneg hx.1] at this
          rw [e]
          unfold bad at this
          exact (inV_Rg o').mp (by simpa using this)
        · have := findO_none _ _ hf x hx.1 (by have := hx.2; omega)
          have := findO_none _ _ this y hy.1 (by have := hy.2; omega)
          unfold m1 at this
          split at this
          · assumption
          · cases this
      · cases h
  · cases h
theorem map_of (h : MapF n p t b n' p' t' b' xs) : mapV n p t b n' p' t' b' xs = true := by
  have o := sysV_ok h.s1
  have o' := sysV_ok h.s2
  have h1 := o.lo
  have nb : xs.any (bad n') = false := by
    rw [List.any_eq_false]
    intro x hx
    obtain ⟨q, hq, rfl⟩ := List.mem_iff_getElem.mp hx
    have := h.rg (q : Int) ⟨by omega, by have := h.ln; omega⟩
    rw [rd_get hq] at this
    unfold bad
    rw [(inV_Rg o').mpr this]; simp
  have nf : findO (m0 n p t b n' p' t' b' xs) 0 n.toNat = none := by
    have : findO (m0 n p t b n' p' t' b' xs) 0 n.toNat = findO (fun _ => none) 0 n.toNat := findO_congr _ _ fun x x0 x1 => by
      unfold m0
      have : findO (m1 n p t b n' p' t' b' xs x) 0 n.toNat = findO (fun _ => none) 0 n.toNat := findO_congr _ _ fun y y0 y1 => by
        unfold m1
        rw [if_pos (h.ok x y ⟨x0, by omega⟩ ⟨y0, by omega⟩)]
      rw [this, findO_nil]
    rw [this, findO_nil]
  unfold mapV pre
  rw [h.s1, h.s2, decide_eq_true h.ln]
  simp only [Bool.and_self, if_true]
  rw [nb, if_neg (by simp), if_pos nf, h.en]
theorem ends_iff (xs : List Int) : ends xs = true ↔ rd xs 0 = 0 ∧ rd xs 1 = 1 := by
  unfold ends
  rw [Bool.and_eq_true, decide_eq_true_eq, beq_iff_eq]
/-- Maps one behind the other are a map. -/
theorem map_comp {n2 : Int} {p2 t2 : List Int} {b2 : List Bool} {ys zs : List Int} (h : MapF n p t b n' p' t' b' xs) (k : MapF n' p' t' b' n2 p2 t2 b2 ys) (ln : (zs.length : Int) = n) (e : ∀ x, Rg n x → rd zs x = rd ys (rd xs x)) : MapF n p t b n2 p2 t2 b2 zs := by
  have o := sysV_ok h.s1
  have z := Rg_zero o
  have on := Rg_one o
  refine ⟨h.s1, k.s2, ln, fun x hx => ?_, fun x y hx hy => ?_, ?_⟩
  · rw [e x hx]; exact k.rg _ (h.rg x hx)
  · have h1 := h.ok x y hx hy
    have k1 := k.ok _ _ (h.rg x hx) (h.rg y hy)
    unfold mOk at h1 k1 ⊢
    simp only [Bool.and_eq_true, decide_eq_true_eq, Bool.or_eq_true, Bool.not_eq_true'] at h1 k1 ⊢
    rw [e x hx, e y hy, e _ (A_in o hx hy), e _ (M_in o hx hy), h1.1.1, h1.1.2]
    refine ⟨⟨k1.1.1, k1.1.2⟩, ?_⟩
    rcases h1.2 with q | q
    · exact Or.inl q
    · rcases k1.2 with r | r
      · rw [q] at r; cases r
      · exact Or.inr r
  · rw [ends_iff]
    have h1 := (ends_iff xs).mp h.en
    have k1 := (ends_iff ys).mp k.en
    rw [e 0 z, e 1 on, h1.1, h1.2]
    exact k1
end
def hL (f g : List Int) : Nat → List Int
  | 0 => []
  | m + 1 => hL f g m ++ [rd g (rd f (m : Int))]
def vL (f g : List Int) : Nat → List Int
  | 0 => []
  | m + 1 => if rd g (rd f (m : Int)) = 1 then vL f g m ++ [(m : Int)] else vL f g m
theorem hL_len (f g : List Int) : ∀ m, (hL f g m).length = m
  | 0 => rfl
  | m + 1 => by simp [hL, hL_len f g m]
theorem hL_get (f g : List Int) : ∀ (m q : Nat), q < m → rd (hL f g m) (q : Int) = rd g (rd f (q : Int))
  | 0, q, h => by omega
  | m + 1, q, h => by
    have l := hL_len f g m
    have hq : q < (hL f g m ++ [rd g (rd f (m : Int))]).length := by rw [List.length_append, l]; exact h
    show rd (hL f g m ++ [rd g (rd f (m : Int))]) (q : Int) = _
    rw [rd_get hq]
    rcases Nat.lt_or_ge q m with c | c
    · have c' : q < (hL f g m).length := by omega
      rw [List.getElem_append_left c', ← rd_get c']
      exact hL_get f g m q c
    · obtain rfl : q = m := by omega
      rw [List.getElem_append_right (by omega)]
      simp [l]
theorem vL_len (f g : List Int) : ∀ m, (vL f g m).length ≤ m
  | 0 => Nat.le_refl _
  | m + 1 => by
    have := vL_len f g m
    unfold vL
    split
    · simp; omega
    · omega
theorem vL_mem (f g : List Int) : ∀ (m : Nat) (x : Int), x ∈ vL f g m ↔ ∃ q : Nat, q < m ∧ x = (q : Int) ∧ rd g (rd f (q : Int)) = 1
  | 0, x => by simp [vL]
  | m + 1, x => by
    unfold vL
    split
    · rename_i c
      rw [List.mem_append, vL_mem f g m x, List.mem_singleton]
      constructor
      · rintro (⟨q, h1, h2, h3⟩ | rfl)
        · exact ⟨q, by omega, h2, h3⟩
        · exact ⟨m, by omega, rfl, c⟩
      · rintro ⟨q, h1, h2, h3⟩
        rcases Nat.lt_or_ge q m with d | d
        · exact Or.inl ⟨q, d, h2, h3⟩
        · obtain rfl : q = m := by omega
          exact Or.inr h2
    · rename_i c
      rw [vL_mem f g m x]
      constructor
      · rintro ⟨q, h1, h2, h3⟩
        exact ⟨q, by omega, h2, h3⟩
      · rintro ⟨q, h1, h2, h3⟩
        rcases Nat.lt_or_ge q m with d | d
        · exact ⟨q, d, h2, h3⟩
        · obtain rfl : q = m := by omega
          exact absurd h3 c
theorem vL_up {n : Int} (f g : List Int) : ∀ m : Nat, (m : Int) ≤ n → Up n (vL f g m) (vL f g m).length
  | 0, _ => fun j hj => by simp [vL] at hj
  | m + 1, hm => by
    have ih := vL_up (n := n) f g m (by omega)
    have low : ∀ j, j < (vL f g m).length → rd (vL f g m) (j : Int) < (m : Int) := fun j hj => by
      obtain ⟨q, h1, h2, _⟩ := (vL_mem f g m _).mp (show rd (vL f g m) (j : Int) ∈ vL f g m by rw [rd_get hj]; exact List.getElem_mem hj)
      omega
    unfold vL
    split
    · intro j hj
      have old : ∀ i, i < (vL f g m).length → rd (vL f g m ++ [(m : Int)]) (i : Int) = rd (vL f g m) (i : Int) := fun i hi => by
        rw [rd_get (by simp; omega), rd_get hi, List.getElem_append_left hi]
      have new : rd (vL f g m ++ [(m : Int)]) ((vL f g m).length : Int) = (m : Int) := by
        rw [rd_get (by simp), List.getElem_append_right (Nat.le_refl _)]; simp
      simp at hj
      rcases Nat.lt_or_ge j (vL f g m).length with c | c
      · rw [old j c]
        refine ⟨(ih j c).1, fun h0 => ?_⟩
        rw [old (j - 1) (by omega)]
        exact (ih j c).2 h0
      · obtain rfl : j = (vL f g m).length := by omega
        rw [new]
        refine ⟨⟨by omega, by omega⟩, fun h0 => ?_⟩
        rw [old _ (by omega)]
        exact low _ (by omega)
    · exact ih
section
variable {n : Int} {p t : List Int} {b : List Bool}
/-- IsView of a list that goes up. -/
theorem listV_up (o : OK n p t b) {v : List Int} (hv : v.length ≤ 1048576) (hu : Up n v v.length) : ∃ z, Marked n v v.length z ∧ listV n p t b v v.length 0 (List.replicate n.toNat false) = markV n p t b z := by
  have h1 := o.lo
  have go : ∀ (m i : Nat) (s : List Bool), i + m = v.length → Marked n v i s → ∃ z, Marked n v v.length z ∧ listV n p t b v m (i : Int) s = markV n p t b z := by
    intro m
    induction m with
    | zero =>
      intro i s hi hs
      obtain rfl : i = v.length := by omega
      exact ⟨s, hs, rfl⟩
    | succ m ih =>
      intro i s hi hs
      obtain ⟨rg, up⟩ := hu i (by omega)
      obtain ⟨z, hz, e⟩ := ih (i + 1) _ (by omega) (marked_succ hs rg)
      refine ⟨z, hz, ?_⟩
      rw [← e]
      show (if inV (rd v (i : Int)) 0 (wrap64 (n - 1)) = true then (if (i : Int) > 0 ∧ rd v (i : Int) ≤ rd v ((i : Int) - 1) then false else listV n p t b v m ((i : Int) + 1) (s.set (rd v (i : Int)).toNat true)) else false) = _
      rw [if_pos ((inV_Rg o).mpr rg), if_neg]
      · rfl
      · rintro ⟨q1, q2⟩
        have := up (by omega)
        rw [show ((i - 1 : Nat) : Int) = (i : Int) - 1 by omega] at this
        omega
  exact go v.length 0 _ (by omega) (marked_zero (by omega) v)
/-- What a map to the levels 1 shows is a view. -/
theorem shown_view {g : List Int} (h : MapF n p t b lv1.1 lv1.2.1 lv1.2.2.1 lv1.2.2.2 g) {v : List Int} (hu : Up n v v.length) (hv : v.length ≤ 1048576) (e : ∀ x, Rg n x → (x ∈ v ↔ rd g x = 1)) :
    listV n p t b v v.length 0 (List.replicate n.toNat false) = true := by
  have o := sysV_ok h.s1
  have h1 := o.lo
  obtain ⟨z, hz, q⟩ := listV_up o hv hu
  rw [q]
  have mm := markMap (sys_of h.s1) hz
  have same : shL v n.toNat = g := by
    refine List.ext_getElem (by rw [shL_len]; have := h.ln; omega) fun j j1 j2 => ?_
    have hj : Rg n (j : Int) := ⟨by omega, by have := h.ln; omega⟩
    have a := shL_get v n.toNat j (by rw [shL_len] at j1; exact j1)
    rw [rd_get j1] at a
    rw [a]
    have r := h.rg (j : Int) hj
    rw [← rd_get j2]
    unfold sh1
    by_cases c : (j : Int) ∈ v
    · rw [if_pos c]; exact ((e _ hj).mp c).symm
    · rw [if_neg c]
      have nq : ¬ rd g (j : Int) = 1 := fun q => c ((e _ hj).mpr q)
      obtain ⟨r1, r2⟩ := r
      have r2' : rd g (j : Int) < 2 := r2
      omega
  rw [same, map_of h, h.s1, Bool.true_and] at mm
  exact mm.symm
end
end Go.Proofs.Ytjjkagnbdfofbaa.Pure
end

section
/- FnMapsGoOn: the pure statement. -/
set_option linter.unusedSimpArgs false
set_option linter.unusedVariables false
namespace Go.Proofs.Ytjjkagnbdfofbaa.Pure
open Go.RowKit Go.Proofs.Ytjjkagnbdfofbaa.P Go.Proofs.YtjjkagnbdfofbaaW.PrintWords Go.Proofs.YtjjkagnbdfofbaaW.PrintLast
abbrev S9 := Int × List Int × List Int × List Bool × Int × List Int × List Int × List Bool × List Int
def Ln9 (r : S9) : Prop := r.2.2.2.2.2.2.2.2.length ≤ 1048576
theorem specHas (v : List Int) (hv : v.length ≤ 1048576) (x : Int) : ∃ r, Ev (fun k => spec_l1Has.f k v x) r := by
  have go : ∀ m i : Nat, i + m = v.length → ∃ r, Ev (fun k => spec_l1Has.l0 k v x (i : Int)) r := by
    intro m
    induction m with
    | zero =>
      intro i hi
      refine ⟨false, Ev.step (f := fun _ => some false) (fun k => ?_) (Ev.now _)⟩
      simp only [spec_l1Has.l0]; rw [if_neg (by omega)]
    | succ m ih =>
      intro i hi
      by_cases c : rd v (i : Int) = x
      · refine ⟨true, Ev.step (f := fun _ => some true) (fun k => ?_) (Ev.now _)⟩
        simp only [spec_l1Has.l0]; rw [if_pos (by omega), if_pos (by omega), if_pos c]
      · obtain ⟨r, e⟩ := ih (i + 1) (by omega)
        refine ⟨r, Ev.step (fun k => ?_) e⟩
        simp only [spec_l1Has.l0]; rw [if_pos (by omega), if_pos (by omega), if_neg c, w64 (by omega) (by omega)]; rfl
  exact go v.length 0 (by omega)
section
variable {c : List Int} (hc : c.length ≤ 1048576)
include hc
omit hc in
theorem marksE (n : Nat) (hn : n ≤ 256) (v : List Int) (hv : v.length ≤ 1048576) (p t : List Int) (b : List Bool) (n' : Int) (p' t' : List Int) (b' : List Bool) :
    ∀ (m i : Nat) (f : List Int), i + m = n → f.length = n → ∃ r, Ev (fun k => spec_DrawIsMap.l1 k f v (i : Int) (n : Int) p t b n' p' t' b') r ∧ Ln9 r := by
  intro m
  induction m with
  | zero =>
    intro i f hi hf
    refine ⟨((n : Int), p, t, b, n', p', t', b', f), Ev.step (f := fun _ => some ((n : Int), p, t, b, n', p', t', b', f)) (fun k => ?_) (Ev.now _), ?_⟩
    · simp only [spec_DrawIsMap.l1]; rw [if_neg (by omega)]
    · show f.length ≤ 1048576; omega
  | succ m ih =>
    intro i f hi hf
    obtain ⟨q, e⟩ := specHas v hv (i : Int)
    have up : wrap64 ((i : Int) + 1) = ((i + 1 : Nat) : Int) := by rw [w64 (by omega) (by omega)]; omega
    obtain ⟨r1, e1, l1⟩ := ih (i + 1) ((f.set ((i : Int)).toNat 0).set ((i : Int)).toNat 1) (by omega) (by simp; exact hf)
    obtain ⟨r2, e2, l2⟩ := ih (i + 1) (f.set ((i : Int)).toNat 0) (by omega) (by simp; exact hf)
    cases q with
    | true =>
      refine ⟨r1, Ev.step (f := fun k => (spec_l1Has.f k v (i : Int)).bind fun t743 => if t743 = true then spec_DrawIsMap.l1 k ((f.set ((i : Int)).toNat 0).set ((i : Int)).toNat 1) v ((i + 1 : Nat) : Int) (n : Int) p t b n' p' t' b' else spec_DrawIsMap.l1 k (f.set ((i : Int)).toNat 0) v ((i + 1 : Nat) : Int) (n : Int) p t b n' p' t' b') (fun k => ?_) (Ev.bind e ?_), l1⟩
      · simp only [spec_DrawIsMap.l1, Option.bind_some]; rw [if_pos (by omega), if_pos (by omega), if_pos (by omega), up]
      · simp only [if_true]; exact e1
    | false =>
      refine ⟨r2, Ev.step (f := fun k => (spec_l1Has.f k v (i : Int)).bind fun t743 => if t743 = true then spec_DrawIsMap.l1 k ((f.set ((i : Int)).toNat 0).set ((i : Int)).toNat 1) v ((i + 1 : Nat) : Int) (n : Int) p t b n' p' t' b' else spec_DrawIsMap.l1 k (f.set ((i : Int)).toNat 0) v ((i + 1 : Nat) : Int) (n : Int) p t b n' p' t' b') (fun k => ?_) (Ev.bind e ?_), l2⟩
      · simp only [spec_DrawIsMap.l1, Option.bind_some]; rw [if_pos (by omega), if_pos (by omega), if_pos (by omega), up]
      · simp only [Bool.false_eq_true, if_false]; exact e2
theorem lastE (n : Nat) (h2 : 2 ≤ n) (hn : n ≤ 256) (v : List Int) (hv : v.length ≤ 1048576) (x : Int) (i h : Int) (h0 : 0 ≤ i) (p t : List Int) (b : List Bool) (n' : Int) (p' t' : List Int) (b' : List Bool) (f : List Int) (hf : f.length = n) :
    ∃ r, Ev (fun k => spec_DrawIsMap.l0 k f v x (n : Int) c i h (n : Int) p t b n' p' t' b') r ∧ Ln9 r := by
  obtain ⟨q, i1, h1, e1, q0, q1, hi1⟩ := belowE hc i h 5 h0 (by omega)
  have step : ∀ (g : Nat → Option S9) (r : S9), (∀ k, spec_DrawIsMap.l0 (k + 1) f v x (n : Int) c i h (n : Int) p t b n' p' t' b' = g k) → Ev g r → Ev (fun k => spec_DrawIsMap.l0 k f v x (n : Int) c i h (n : Int) p t b n' p' t' b') r := fun g r a e => Ev.step a e
  by_cases a0 : q = 0
  · obtain ⟨m, hm, e2, _⟩ := levelE 1 (by omega) (by omega)
    obtain rfl : m = 1 := by omega
    obtain ⟨r, e3, l3⟩ := marksE n hn v hv p t b (sL 1).1 (sL 1).2.1 (sL 1).2.2.1 (sL 1).2.2.2 n 0 f (by omega) hf
    refine ⟨r, step (fun k => (spec_LevelSystem.f k ((1 : Nat) : Int)).bind fun s => spec_DrawIsMap.l1 k f v ((0 : Nat) : Int) (n : Int) p t b s.1 s.2.1 s.2.2.1 s.2.2.2) r (fun k => ?_) (Ev.bind e2 e3), l3⟩
    simp only [spec_DrawIsMap.l0]; rw [if_neg (by omega), e1]; simp only [Option.bind_some]; rw [if_pos a0]; rfl
  by_cases a1 : q = 1
  · obtain ⟨y, i2, h2', e2, y0, y1, hi2⟩ := belowE hc i1 h1 (f.length : Int) hi1 (by omega)
    obtain ⟨g, i3, h3, e3, _⟩ := gradeE hc i2 h2' hi2 (n : Int) p t b (by omega)
    have yl := y1 (by omega)
    refine ⟨((n : Int), p, t, b, (n : Int), p, t, b, f.set y.toNat g), step (fun _ => some ((n : Int), p, t, b, (n : Int), p, t, b, f.set y.toNat g)) _ (fun k => ?_) (Ev.now _), ?_⟩
    · simp only [spec_DrawIsMap.l0]; rw [if_neg (by omega), e1]; simp only [Option.bind_some]; rw [if_neg a0, if_pos a1, e2]; simp only [Option.bind_some]; rw [e3]; simp only [Option.bind_some]; rw [if_pos y0, if_pos yl]
    · show (f.set y.toNat g).length ≤ 1048576; rw [List.length_set]; omega
  by_cases a2 : q = 2
  · have w : wrap64 ((f.length : Int) - 1) = (f.length : Int) - 1 := w64 (by omega) (by omega)
    refine ⟨((n : Int), p, t, b, n', p', t', b', f.set ((f.length : Int) - 1).toNat x), step (fun _ => some ((n : Int), p, t, b, n', p', t', b', f.set ((f.length : Int) - 1).toNat x)) _ (fun k => ?_) (Ev.now _), ?_⟩
    · simp only [spec_DrawIsMap.l0]; rw [if_neg (by omega), e1]; simp only [Option.bind_some]; rw [if_neg a0, if_neg a1, if_pos a2, w, if_pos (by omega), if_pos (by omega)]
    · show (f.set ((f.length : Int) - 1).toNat x).length ≤ 1048576; rw [List.length_set]; omega
  by_cases a3 : q = 3
  · obtain ⟨y, i2, h2', e2, y0, y1, hi2⟩ := belowE hc i1 h1 2 hi1 (by omega)
    have yl := y1 (by omega)
    obtain ⟨m, hm, e3, _⟩ := boundE (1 + y) (by omega) (by omega)
    obtain ⟨m', hm', e4, _⟩ := countE 2 (by omega) (by omega)
    obtain rfl : m' = 2 := by omega
    have w : wrap64 (1 + y) = (m : Int) := by rw [w64 (by omega) (by omega)]; exact hm
    refine ⟨_, step (fun k => (spec_BoundSystem.f k (m : Int)).bind fun bt756 => ((spec_CountSystem.f k ((2 : Nat) : Int)).bind fun bt766 => some (bt766.1, bt766.2.1, bt766.2.2.1, bt766.2.2.2, bt756.1, bt756.2.1, bt756.2.2.1, bt756.2.2.2, ([0, 1, 2, wrap64 (bt756.1 - 1)] : List Int)))) _ (fun k => ?_) (Ev.bind e3 (Ev.bind e4 (Ev.now _))), ?_⟩
    · simp only [spec_DrawIsMap.l0]; rw [if_neg (by omega), e1]; simp only [Option.bind_some]; rw [if_neg a0, if_neg a1, if_neg a2, if_pos a3, e2]; simp only [Option.bind_some]; rw [w]; rfl
    · show ([0, 1, 2, _] : List Int).length ≤ 1048576; simp
  · refine ⟨((n : Int), p, t, b, n', p', t', b', f), step (fun _ => some ((n : Int), p, t, b, n', p', t', b', f)) _ (fun k => ?_) (Ev.now _), ?_⟩
    · simp only [spec_DrawIsMap.l0]; rw [if_neg (by omega), e1]; simp only [Option.bind_some]; rw [if_neg a0, if_neg a1, if_neg a2, if_neg a3]
    · show f.length ≤ 1048576; omega
theorem buildE (n : Nat) (h2 : 2 ≤ n) (hn : n ≤ 256) (v : List Int) (hv : v.length ≤ 1048576) (x : Int) (i h : Int) (h0 : 0 ≤ i) (p t : List Int) (b : List Bool) (n' : Int) (p' t' : List Int) (b' : List Bool) :
    ∀ (m : Nat) (f : List Int), f.length + m = n → ∃ r, Ev (fun k => spec_DrawIsMap.l0 k f v x (f.length : Int) c i h (n : Int) p t b n' p' t' b') r ∧ Ln9 r := by
  intro m
  induction m with
  | zero =>
    intro f hf
    have := lastE hc n h2 hn v hv x i h h0 p t b n' p' t' b' f (by omega)
    rw [show (f.length : Int) = (n : Int) by omega]
    exact this
  | succ m ih =>
    intro f hf
    obtain ⟨y, ey⟩ : ∃ y, spec_l1Min.f (f.length : Int) (wrap64 (n' - 1)) = some y := by
      unfold spec_l1Min.f; split <;> exact ⟨_, rfl⟩
    obtain ⟨r, e, l⟩ := ih (f ++ [y]) (by simp; omega)
    refine ⟨r, Ev.step (fun k => ?_) e, l⟩
    simp only [spec_DrawIsMap.l0]
    rw [if_pos (by omega), ey]
    simp only [Option.bind_some]
    rw [if_pos (by omega), w64 (by omega) (by omega), List.length_append]; rfl
theorem drawM : ∃ r, Ev (fun k => spec_DrawIsMap.f k c) r ∧ Ln9 r := by
  obtain ⟨h, e⟩ := newE (c := c)
  obtain ⟨⟨n, p, t, b, i1, h1⟩, e1, g, hi1⟩ := dSystemE hc 0 h (by omega)
  obtain ⟨⟨n', p', t', b', i2, h2⟩, e2, g', hi2⟩ := dSystemE hc i1 h1 hi1
  obtain ⟨v, i3, h3, e3, hi3, hv⟩ := viewE hc n p t b g i2 h2 hi2
  simp only [gd, Bool.and_eq_true, decide_eq_true_eq] at g g'
  have o := sysV_ok g.2
  obtain ⟨x, i4, h4, e4, _, _, hi4⟩ := belowE hc i3 h3 n' hi3 (by have := g'.1; omega)
  obtain ⟨N, rfl⟩ := Int.eq_ofNat_of_zero_le (show 0 ≤ n by have := o.lo; omega)
  obtain ⟨r, e5, l5⟩ := buildE hc N (by have := o.lo; omega) (by have := g.1; omega) v hv x i4 h4 hi4 p t b n' p' t' b' N [] (by simp)
  refine ⟨r, ?_, l5⟩
  unfold spec_DrawIsMap.f
  refine Ev.bind e (Ev.bind e1 (Ev.bind e2 (Ev.bind e3 ?_)))
  simp only [e4, Option.bind_some]
  exact e5
end
section
variable {n : Int} {p t : List Int} {b : List Bool} {n' : Int} {p' t' : List Int} {b' : List Bool} {f : List Int}
/-- A view leads to the levels 1. -/
theorem member_map (s : sysV n p t b = true) {u : List Int} (hu : u ∈ sortL (viewsL (markV n p t b) (n - 2).toNat [false, true])) : u.length ≤ 16 ∧ MapF n p t b lv1.1 lv1.2.1 lv1.2.2.1 lv1.2.2.2 (shL u n.toNat) := by
  have o := sysV_ok s
  have h1 := o.lo; have h2 := o.hi
  rw [sortL_mem] at hu
  refine ⟨by have := viewsL_mem hu; simp at this; omega, ?_⟩
  unfold viewsL at hu
  rw [List.mem_filterMap] at hu
  obtain ⟨w, hw, e⟩ := hu
  have lw := allM_length _ _ hw
  split at e
  · rename_i hm
    obtain rfl := Option.some.inj e
    have hz : Marked n (memL ([false, true] ++ w) 0) (memL ([false, true] ++ w) 0).length ([false, true] ++ w) := by
      refine ⟨by simp; omega, fun x hx => ?_⟩
      rw [up_mem, memL_in]
      obtain ⟨q, rfl⟩ := Int.eq_ofNat_of_zero_le hx.1
      have hq : q < ([false, true] ++ w).length := by have := hx.2; simp; omega
      rw [rdB_get hq]
      constructor
      · intro h
        exact ⟨q, hq, by rw [List.getElem?_eq_getElem hq, h], by omega⟩
      · rintro ⟨r, r1, r2, r3⟩
        obtain rfl : r = q := by omega
        rw [List.getElem?_eq_getElem hq] at r2
        exact Option.some.inj r2
    have mm := markMap (sys_of s) hz
    rw [s, hm] at mm
    exact map_facts mm
  · cases e
theorem innerE (M : MapF n p t b n' p' t' b' f) (W : List (List Int)) (x7 : Int) {g : List Int} (hg : (g.length : Int) = n') (nx : Ev (fun k => laws_FnMapsGoOn.l1 k f W x7 g (hL f g n.toNat) (vL f g n.toNat) n n p t b n' p' t' b') true) :
    ∀ m j : Nat, j + m = n.toNat → Ev (fun k => laws_FnMapsGoOn.l1 k f W x7 g (hL f g j) (vL f g j) (j : Int) n p t b n' p' t' b') true := by
  have o := sysV_ok M.s1
  have h1 := o.lo; have h2 := o.hi
  intro m
  induction m with
  | zero =>
    intro j hj
    obtain rfl : j = n.toNat := by omega
    rw [show ((n.toNat : Nat) : Int) = n by omega]
    exact nx
  | succ m ih =>
    intro j hj
    have e := ih (j + 1) (by omega)
    have rg := M.rg (j : Int) ⟨by omega, by omega⟩
    have l1 : (hL f g j).length < 17592186044416 := by rw [hL_len]; omega
    have l2 : (vL f g j).length < 17592186044416 := by have := vL_len f g j; omega
    have up : wrap64 ((j : Int) + 1) = ((j + 1 : Nat) : Int) := by rw [w64 (by omega) (by omega)]; omega
    have ln := M.ln
    have r1 := rg.1; have r2 := rg.2
    refine Ev.step (fun k => ?_) e
    simp only [laws_FnMapsGoOn.l1]
    rw [if_pos (by omega), if_pos (by omega), if_pos (by omega), if_pos r1, if_pos (by omega), if_pos l1, up]
    simp only [Option.bind_some]
    by_cases c : rd g (rd f (j : Int)) = 1
    · rw [if_pos c, if_pos l2]
      show _ = laws_FnMapsGoOn.l1 k f W x7 g (hL f g j ++ [rd g (rd f (j : Int))]) (if rd g (rd f (j : Int)) = 1 then vL f g j ++ [(j : Int)] else vL f g j) ((j + 1 : Nat) : Int) n p t b n' p' t' b'
      rw [if_pos c]
    · rw [if_neg c]
      show _ = laws_FnMapsGoOn.l1 k f W x7 g (hL f g j ++ [rd g (rd f (j : Int))]) (if rd g (rd f (j : Int)) = 1 then vL f g j ++ [(j : Int)] else vL f g j) ((j + 1 : Nat) : Int) n p t b n' p' t' b'
      rw [if_neg c]
theorem outerE (M : MapF n p t b n' p' t' b' f) (W : List (List Int)) (hW : W = sortL (viewsL (markV n' p' t' b') (n' - 2).toNat [false, true])) :
    ∀ m i : Nat, i + m = W.length → Ev (fun k => laws_FnMapsGoOn.l0 k f W (i : Int) n p t b n' p' t' b') true := by
  have o := sysV_ok M.s1
  have h1 := o.lo; have h2 := o.hi
  have o' := sysV_ok M.s2
  have h1' := o'.lo; have h2' := o'.hi
  have hl : W.length ≤ 65536 := by
    rw [hW, sortL_len]
    refine Nat.le_trans (viewsL_len _ _ _) ?_
    have g : 2 ^ (n' - 2).toNat ≤ 2 ^ 16 := Nat.pow_le_pow_right (by decide) (by omega)
    exact g
  intro m
  induction m with
  | zero =>
    intro i hi
    refine Ev.step (f := fun _ => some true) (fun k => ?_) (Ev.now _)
    simp only [laws_FnMapsGoOn.l0]; rw [if_neg (by omega)]
  | succ m ih =>
    intro i hi
    have hq : i < W.length := by omega
    have er : rd_L3 W (i : Int) = W[i] := by unfold rd_L3; rw [Int.toNat_natCast, List.getD_eq_getElem?_getD, List.getElem?_eq_getElem hq]; rfl
    obtain ⟨u16, mu⟩ := member_map M.s2 (u := W[i]) (by rw [← hW]; exact List.getElem_mem hq)
    have sh := shownE (p := p') (t := t') (b := b') W[i] (by omega) n'.toNat (by omega) n'.toNat 0 (by omega)
    rw [show ((n'.toNat : Nat) : Int) = n' by omega] at sh
    have e := ih (i + 1) (by omega)
    have up : wrap64 ((i : Int) + 1) = ((i + 1 : Nat) : Int) := by rw [w64 (by omega) (by omega)]; omega
    have fl := M.ln
    have mc := map_comp M mu (zs := hL f (shL W[i] n'.toNat) n.toNat) (by rw [hL_len]; omega) (fun x hx => by
      obtain ⟨q, rfl⟩ := Int.eq_ofNat_of_zero_le hx.1
      exact hL_get f _ n.toNat q (by have := hx.2; omega))
    have im := implMap (n := n) (p := p) (t := t) (b := b) (n' := lv1.1) (p' := lv1.2.1) (t' := lv1.2.2.1) (b' := lv1.2.2.2) (xs := hL f (shL W[i] n'.toNat) n.toNat) (by rw [hL_len]; omega)
    rw [map_of mc] at im
    have vl := vL_len f (shL W[i] n'.toNat) n.toNat
    have iv := implView (n := n) (p := p) (t := t) (b := b) (xs := vL f (shL W[i] n'.toNat) n.toNat) (by omega)
    rw [if_pos M.s1, shown_view mc (vL_up f _ n.toNat (by omega)) (by omega) (fun x hx => by
      obtain ⟨q, rfl⟩ := Int.eq_ofNat_of_zero_le hx.1
      have q1 : q < n.toNat := by have := hx.2; omega
      rw [vL_mem, hL_get f _ n.toNat q q1]
      constructor
      · rintro ⟨r, r1, r2, r3⟩
        obtain rfl : r = q := by omega
        exact r3
      · intro h
        exact ⟨q, q1, rfl, h⟩)] at iv
    refine Ev.step (f := fun k => (laws_shown.f k n' p' t' b' W[i]).bind fun g => laws_FnMapsGoOn.l1 k f W (i : Int) g [] [] 0 n p t b n' p' t' b') (fun k => ?_) (Ev.bind sh ?_)
    · simp only [laws_FnMapsGoOn.l0]; rw [if_pos (by omega), if_pos (by omega)]
      have er' : rd_L3 W (i : Int) = W[i] := er
      rw [er']
    · refine innerE M W (i : Int) (g := shL W[i] n'.toNat) (by rw [shL_len]; omega) ?_ n.toNat 0 (by omega)
      refine Ev.step (f := fun k => (impl_LevelSystem.f k 1).bind fun bt => (impl_IsMap.f k n p t b bt.1 bt.2.1 bt.2.2.1 bt.2.2.2 (hL f (shL W[i] n'.toNat) n.toNat)).bind fun q => if q = true then ((impl_IsView.f k n p t b (vL f (shL W[i] n'.toNat) n.toNat)).bind fun q' => if q' = true then laws_FnMapsGoOn.l0 k f W ((i + 1 : Nat) : Int) n p t b n' p' t' b' else some false) else some false) (fun k => ?_) (Ev.bind lv1E (Ev.bind im ?_))
      · simp only [laws_FnMapsGoOn.l1]; rw [if_neg (by omega), up]
      · simp only [if_true]
        refine Ev.bind iv ?_
        simp only [if_true]
        exact e
end
theorem FnMapsGoOn : laws_FnMapsGoOn.Pure := by
  intro l hl
  refine evRounds ?_
  unfold laws_FnMapsGoOn.f
  by_cases c : (l.length : Int) > 1048576
  · simp only [laws_big.f, Option.bind_some, decide_eq_true c, if_true]
    exact Ev.now _
  · simp only [laws_big.f, Option.bind_some, decide_eq_false c, Bool.false_eq_true, if_false]
    obtain ⟨⟨n, p, t, b, n', p', t', b', f⟩, er, hf⟩ := drawM (c := l) (by omega)
    have hf' : f.length ≤ 1048576 := hf
    have im := implMap (n := n) (p := p) (t := t) (b := b) (n' := n') (p' := p') (t' := t') (b' := b') (xs := f) hf'
    have sm := specV (n := n) (p := p) (t := t) (b := b) (n' := n') (p' := p') (t' := t') (b' := b') (xs := f) hf'
    refine Ev.bind er (Ev.bind im ?_)
    cases m : mapV n p t b n' p' t' b' f with
    | true =>
      simp only [if_true]
      have M := map_facts m
      have vs := implViews n' p' t' b'
      rw [if_pos M.s2] at vs
      refine Ev.bind vs ?_
      exact outerE M _ rfl (sortL (viewsL (markV n' p' t' b') (n' - 2).toNat [false, true])).length 0 (by omega)
    | false =>
      simp only [Bool.false_eq_true, if_false]
      rw [m] at sm
      exact Ev.bind sm (Ev.now _)
end Go.Proofs.Ytjjkagnbdfofbaa.Pure
end
