/- FnViewMaps: the pure statement. -/
import Derived.Test.YtjjkagnbdfofbaaPf3
import Derived.Test.YtjjkagnbdfofbaaM15
import Derived.Test.YtjjkagnbdfofbaaC46
set_option linter.unusedSimpArgs false
set_option linter.unusedVariables false
namespace Go.Proofs.Ytjjkagnbdfofbaa.Pure
open Go.RowKit Go.Proofs.Ytjjkagnbdfofbaa.P Go.Proofs.YtjjkagnbdfofbaaW.PrintWords Go.Proofs.YtjjkagnbdfofbaaW.PrintLast
theorem intsE (x y : List Int) (hx : x.length ≤ 1048576) (hl : x.length = y.length) : ∀ (m i : Nat), i + m = x.length → (∀ j, j < i → rd x (j : Int) = rd y (j : Int)) → Ev (fun k => laws_ints.l0 k x y (i : Int)) (decide (x = y)) := by
  intro m
  induction m with
  | zero =>
    intro i hi hn
    have : decide (x = y) = true := decide_eq_true (List.ext_getElem hl fun j h1 h2 => by
      have := hn j (by omega)
      rwa [rd_get h1, rd_get h2] at this)
    rw [this]
    refine Ev.step (f := fun _ => some true) (fun k => ?_) (Ev.now _)
    simp only [laws_ints.l0]; rw [if_neg (by omega)]
  | succ m ih =>
    intro i hi hn
    by_cases c : rd x (i : Int) = rd y (i : Int)
    · refine Ev.step (fun k => ?_) (ih (i + 1) (by omega) fun j hj => ?_)
      · simp only [laws_ints.l0]; rw [if_pos (by omega), if_pos (by omega), if_pos (by omega), if_pos c, w64 (by omega) (by omega)]; rfl
      · rcases Nat.lt_or_ge j i with q | q
        · exact hn j q
        · obtain rfl : j = i := by omega
          exact c
    · have : decide (x = y) = false := decide_eq_false fun h => c (by rw [h])
      rw [this]
      refine Ev.step (f := fun _ => some false) (fun k => ?_) (Ev.now _)
      simp only [laws_ints.l0]; rw [if_pos (by omega), if_pos (by omega), if_pos (by omega), if_neg c]
theorem ints (x y : List Int) (hx : x.length ≤ 1048576) : Ev (fun k => laws_ints.f k x y) (decide (x = y)) := by
  unfold laws_ints.f
  by_cases c : x.length = y.length
  · refine evCongr (fun k => if_pos (by omega)) ?_
    exact intsE x y hx c x.length 0 (by omega) (fun j hj => by omega)
  · have : decide (x = y) = false := decide_eq_false fun h => c (by rw [h])
    rw [this]
    refine evCongr (fun k => if_neg (by omega)) (Ev.now _)
theorem drawE {l : List Int} (hl : l.length ≤ 1048576) : ∃ n p t b v, Ev (fun k => spec_DrawIsView.f k l) (n, p, t, b, v) ∧ sysV n p t b = true ∧ v.length ≤ 1048576 := by
  obtain ⟨h, e⟩ := newE (c := l)
  obtain ⟨⟨n, p, t, b, i1, h1⟩, e1, g, hi1⟩ := dSystemE hl 0 h (by omega)
  obtain ⟨v, i2, h2, e2, hi2, hv⟩ := viewE hl n p t b g i1 h1 hi1
  obtain ⟨x, i3, h3, e3, _⟩ := onceE hl i2 h2 3 hi2 (by omega)
  simp only [gd, Bool.and_eq_true] at g
  unfold spec_DrawIsView.f
  have fin : ∀ w, (x = true → (v.length : Int) > 0 → w = v.drop 1) → (¬ (x = true ∧ (v.length : Int) > 0) → w = v) → ∃ n p t b v, Ev (fun k => (spec_l1New.f k l).bind fun bt465 => ((spec_dSystem.f k bt465.1 bt465.2.1 bt465.2.2).bind fun bt469 => ((spec_dView.f k bt465.1 bt469.2.2.2.2.1 bt469.2.2.2.2.2 bt469.1 bt469.2.1 bt469.2.2.1 bt469.2.2.2.1).bind fun bt482 => ((spec_l1Once.f bt465.1 bt482.2.1 bt482.2.2 3).bind fun bt487 => (if bt487.1 = true then (if (bt482.1.length : Int) > 0 then (if 1 ≤ (bt482.1.length : Int) then (some (bt469.1, bt469.2.1, bt469.2.2.1, bt469.2.2.2.1, (bt482.1.drop (1 : Int).toNat))) else (none)) else (some (bt469.1, bt469.2.1, bt469.2.2.1, bt469.2.2.2.1, bt482.1))) else (some (bt469.1, bt469.2.1, bt469.2.2.1, bt469.2.2.2.1, bt482.1))))))) (n, p, t, b, v) ∧ sysV n p t b = true ∧ v.length ≤ 1048576 := by
    intro w w1 w2
    refine ⟨n, p, t, b, w, Ev.bind e (Ev.bind e1 (Ev.bind e2 ?_)), g.2, ?_⟩
    · simp only [e3, Option.bind_some]
      by_cases cx : x = true
      · by_cases cv : (v.length : Int) > 0
        · simp only [if_pos cx, if_pos cv]
          rw [w1 cx cv]
          refine evCongr (fun k => if_pos (by omega)) (Ev.now _)
        · simp only [if_pos cx, if_neg cv]
          rw [w2 (fun h => cv h.2)]
          exact Ev.now _
      · simp only [if_neg cx]
        rw [w2 (fun h => cx h.1)]
        exact Ev.now _
    · by_cases cx : x = true ∧ (v.length : Int) > 0
      · rw [w1 cx.1 cx.2]; simp; omega
      · rw [w2 cx]; exact hv
  by_cases cx : x = true ∧ (v.length : Int) > 0
  · exact fin (v.drop 1) (fun _ _ => rfl) (fun h => absurd cx h)
  · exact fin v (fun a b => absurd ⟨a, b⟩ cx) (fun _ => rfl)
section
variable {n : Int} {p t : List Int} {b : List Bool} {v : List Int}
theorem foundE (h : sysV n p t b = true) (hv : v.length ≤ 1048576) {z : List Bool} (hz : Marked n v v.length z) (hu : Up n v v.length) (W : List (List Int)) (hW : W = sortL (viewsL (markV n p t b) (n - 2).toNat [false, true]))
    (iv : Ev (fun k => impl_IsView.f k n p t b v) (markV n p t b z)) : ∀ (m i : Nat), i + m = W.length → Ev (fun k => laws_FnViewMaps.l1 k v W (decide (v ∈ W.take i)) (i : Int) n p t b) true := by
  have o := sysV_ok h
  have h1 := o.lo; have h2 := o.hi
  have hl : W.length ≤ 65536 := by
    rw [hW, sortL_len]
    refine Nat.le_trans (viewsL_len _ _ _) ?_
    have g : 2 ^ (n - 2).toNat ≤ 2 ^ 16 := Nat.pow_le_pow_right (by decide) (by omega)
    exact g
  have he : ∀ a ∈ W, a.length ≤ 16 := fun a ha => by
    rw [hW] at ha
    have := viewsL_mem (sortL_mem.mp ha)
    simp at this
    omega
  intro m
  induction m with
  | zero =>
    intro i hi
    have ht : W.take i = W := List.take_of_length_le (by omega)
    have hf : decide (v ∈ W.take i) = markV n p t b z := by
      rw [ht, Bool.eq_iff_iff, decide_eq_true_eq, hW]
      exact view_in o hu hz
    rw [hf]
    have sh := shownE (p := p) (t := t) (b := b) v hv n.toNat (by omega) n.toNat 0 (by omega)
    have mp := implMap (n := n) (p := p) (t := t) (b := b) (n' := lv1.1) (p' := lv1.2.1) (t' := lv1.2.2.1) (b' := lv1.2.2.2) (xs := shL v n.toNat) (by rw [shL_len]; omega)
    rw [markMap (sys_of h) hz, h, Bool.true_and] at mp
    refine Ev.step (fun k => by simp only [laws_FnViewMaps.l1]; rw [if_neg (by omega)]) ?_
    refine Ev.bind iv (Ev.bind lv1E ?_)
    rw [show ((n.toNat : Nat) : Int) = n by omega] at sh
    refine Ev.bind sh (Ev.bind mp ?_)
    simp only [beq_self_eq_true, if_true]
    refine Ev.bind iv ?_
    rw [beq_self_eq_true]
    exact Ev.now _
  | succ m ih =>
    intro i hi
    have hq : i < W.length := by omega
    have er : rd_L3 W (i : Int) = W[i] := by unfold rd_L3; rw [Int.toNat_natCast, List.getD_eq_getElem?_getD, List.getElem?_eq_getElem hq]; rfl
    have tk : W.take (i + 1) = W.take i ++ [W[i]] := by rw [List.take_add_one, List.getElem?_eq_getElem hq]; rfl
    have nx := ih (i + 1) (by omega)
    by_cases c : v ∈ W.take i
    · rw [decide_eq_true c]
      rw [decide_eq_true (by rw [tk]; exact List.mem_append_left _ c)] at nx
      refine Ev.step (fun k => ?_) nx
      simp only [laws_FnViewMaps.l1, if_true]; rw [if_pos (by omega), w64 (by omega) (by omega)]; rfl
    · rw [decide_eq_false c]
      have ie := ints W[i] v (by have := he _ (List.getElem_mem hq); omega)
      have e2 : decide (v ∈ W.take (i + 1)) = decide (W[i] = v) := by
        rw [tk]
        exact decide_eq_decide.mpr ⟨fun hm => by
          rcases List.mem_append.mp hm with hm | hm
          · exact absurd hm c
          · exact (List.mem_singleton.mp hm).symm, fun hm => List.mem_append_right _ (by rw [hm]; exact List.mem_singleton_self _)⟩
      rw [e2] at nx
      refine Ev.step (f := fun k => (laws_ints.f k W[i] v).bind fun q => laws_FnViewMaps.l1 k v W q ((i + 1 : Nat) : Int) n p t b) (fun k => ?_) (Ev.bind ie nx)
      simp only [laws_FnViewMaps.l1]; simp only [Bool.false_eq_true, if_false]; rw [if_pos (by omega), if_pos (by omega), er, w64 (by omega) (by omega)]; rfl
theorem lawE (h : sysV n p t b = true) (hv : v.length ≤ 1048576) : ∀ (m i : Nat) (s : List Bool), i + m = v.length → Up n v i → Marked n v i s → listV n p t b v v.length 0 (List.replicate n.toNat false) = listV n p t b v m (i : Int) s → Ev (fun k => laws_FnViewMaps.l0 k v (i : Int) n p t b) true := by
  have o := sysV_ok h
  have h1 := o.lo; have h2 := o.hi
  have iv := implView (n := n) (p := p) (t := t) (b := b) hv
  rw [if_pos h] at iv
  intro m
  induction m with
  | zero =>
    intro i s hi hu hs e
    obtain rfl : i = v.length := by omega
    rw [e] at iv
    have vs := implViews n p t b
    rw [if_pos h] at vs
    refine Ev.step (fun k => by simp only [laws_FnViewMaps.l0]; rw [if_neg (by omega)]) ?_
    refine Ev.bind vs ?_
    have := foundE h hv hs hu _ rfl iv (sortL (viewsL (markV n p t b) (n - 2).toNat [false, true])).length 0 (by omega)
    simpa using this
  | succ m ih =>
    intro i s hi hu hs e
    have i0 : (i : Int) < (v.length : Int) := by omega
    have i1 : (0 : Int) ≤ (i : Int) := by omega
    have fail : listV n p t b v (m + 1) (i : Int) s = false → Ev (fun k => (impl_IsView.f k n p t b v).bind fun q => some (!q)) true := by
      intro hf
      rw [hf] at e
      rw [e] at iv
      exact Ev.bind iv (Ev.now _)
    have ls : listV n p t b v (m + 1) (i : Int) s = (if inV (rd v (i : Int)) 0 (wrap64 (n - 1)) = true then (if (i : Int) > 0 ∧ rd v (i : Int) ≤ rd v ((i : Int) - 1) then false else listV n p t b v m (((i + 1 : Nat)) : Int) (s.set (rd v (i : Int)).toNat true)) else false) := rfl
    rw [ls] at fail e
    by_cases c1 : rd v (i : Int) < 0
    · refine Ev.step (fun k => by simp only [laws_FnViewMaps.l0]; rw [if_pos i0, if_pos i1, if_pos c1]) (fail ?_)
      rw [if_neg (fun hh => by have := (inV_Rg o).mp hh; unfold Rg at this; omega)]
    · by_cases c2 : rd v (i : Int) ≥ n
      · refine Ev.step (fun k => by simp only [laws_FnViewMaps.l0]; rw [if_pos i0, if_pos i1, if_neg c1, if_pos c2]) (fail ?_)
        rw [if_neg (fun hh => by have := (inV_Rg o).mp hh; unfold Rg at this; omega)]
      · have rg : Rg n (rd v (i : Int)) := ⟨by omega, by omega⟩
        rw [if_pos ((inV_Rg o).mpr rg)] at fail e
        have e1 : wrap64 ((i : Int) - 1) = (i : Int) - 1 := w64 (by omega) (by omega)
        have e2 : wrap64 ((i : Int) + 1) = ((i + 1 : Nat) : Int) := by rw [w64 (by omega) (by omega)]; omega
        by_cases c3 : (i : Int) > 0
        · by_cases c4 : rd v (i : Int) ≤ rd v ((i : Int) - 1)
          · refine Ev.step (fun k => by simp only [laws_FnViewMaps.l0]; rw [if_pos i0, if_pos i1, if_neg c1, if_neg c2, if_pos c3, e1, if_pos (by omega), if_pos (by omega), if_pos c4]) (fail ?_)
            rw [if_pos ⟨c3, c4⟩]
          · rw [if_neg (fun hh => c4 hh.2)] at e
            refine Ev.step (fun k => by simp only [laws_FnViewMaps.l0]; rw [if_pos i0, if_pos i1, if_neg c1, if_neg c2, if_pos c3, e1, if_pos (by omega), if_pos (by omega), if_neg c4, e2]) (ih (i + 1) _ (by omega) (fun j hj => ?_) (marked_succ hs rg) e)
            rcases Nat.lt_or_ge j i with q | q
            · exact hu j q
            · obtain rfl : j = i := by omega
              refine ⟨rg, fun _ => ?_⟩
              rw [show ((j - 1 : Nat) : Int) = (j : Int) - 1 by omega]
              omega
        · rw [if_neg (fun hh => c3 hh.1)] at e
          refine Ev.step (fun k => by simp only [laws_FnViewMaps.l0]; rw [if_pos i0, if_pos i1, if_neg c1, if_neg c2, if_neg c3, e2]) (ih (i + 1) _ (by omega) (fun j hj => ?_) (marked_succ hs rg) e)
          rcases Nat.lt_or_ge j i with q | q
          · exact hu j q
          · obtain rfl : j = i := by omega
            exact ⟨rg, fun _ => by omega⟩
end
theorem lv1V : Ev (fun k => impl_IsView.f k lv1.1 lv1.2.1 lv1.2.2.1 lv1.2.2.2 [1]) true := by
  have := implView (n := lv1.1) (p := lv1.2.1) (t := lv1.2.2.1) (b := lv1.2.2.2) (xs := [1]) (by decide)
  rwa [show (if sysV lv1.1 lv1.2.1 lv1.2.2.1 lv1.2.2.2 = true then listV lv1.1 lv1.2.1 lv1.2.2.1 lv1.2.2.2 [1] ([1] : List Int).length 0 (List.replicate (lv1.1).toNat false) else false) = true by decide +kernel] at this
theorem FnViewMaps : laws_FnViewMaps.Pure := by
  intro l hl
  refine evRounds ?_
  unfold laws_FnViewMaps.f
  by_cases c : (l.length : Int) > 1048576
  · simp only [laws_big.f, Option.bind_some, decide_eq_true c, if_true]
    exact Ev.now _
  · simp only [laws_big.f, Option.bind_some, decide_eq_false c, Bool.false_eq_true, if_false]
    obtain ⟨n, p, t, b, v, er, hs, hv⟩ := drawE (l := l) (by omega)
    have n0 : 0 ≤ n := by have := (sysV_ok hs).lo; omega
    refine Ev.bind er (Ev.bind lv1E (Ev.bind lv1V ?_))
    simp only [if_true]
    exact lawE hs hv v.length 0 _ (by omega) (fun j hj => by omega) (marked_zero n0 v) rfl
end Go.Proofs.Ytjjkagnbdfofbaa.Pure
