-- Several texts in one (wip/tools/merge.py).
import Derived.Test.YtmcepfimcedocaaDoorB1
import Derived.Test.YtmcepfimcedocaaDoorM16
section
/- What a system's laws say. -/
set_option linter.unusedSimpArgs false
set_option linter.unusedVariables false
namespace Go.Proofs.YtmcepfimcedocaaDoor.Pure
open Go.RowKit Go.Proofs.YtmcepfimcedocaaDoor.P Go.Proofs.YtmcepfimcedocaaDoorW.PrintWords Go.Proofs.YtmcepfimcedocaaDoorW.PrintLast
theorem findO_false {g : Int → Option Bool} (hg : ∀ x v, g x = some v → v = false) : ∀ (m : Nat) (x : Int) (v : Bool), findO g x m = some v → v = false
  | 0, x, v, h => by cases h
  | m + 1, x, v, h => by
    have h' : (g x).or (findO g (x + 1) m) = some v := h
    cases c : g x with
    | none => rw [c] at h'; exact findO_false hg m (x + 1) v h'
    | some u => rw [c] at h'; obtain rfl : u = v := Option.some.inj h'; exact hg x u c
theorem findO_all {g : Int → Option Bool} (hg : ∀ x v, g x = some v → v = false) {m : Nat} {x : Int} : (findO g x m).getD true = true ↔ ∀ y, x ≤ y → y < x + m → g y = none := by
  constructor
  · intro h
    cases c : findO g x m with
    | none => exact findO_none m x c
    | some v => rw [c] at h; have := findO_false hg m x v c; subst this; cases h
  · intro h
    have : findO g x m = findO (fun _ => none) x m := findO_congr m x h
    rw [this, findO_nil]; rfl
section
variable {n : Int} {p t : List Int} {b : List Bool}
theorem g2_false {x y : Int} : ∀ z v, g2 n p t b x y z = some v → v = false := by
  intro z v h
  unfold g2 at h
  split at h
  · cases h
  · exact (Option.some.inj h).symm
theorem g1_false {x : Int} : ∀ y v, g1 n p t b x y = some v → v = false := by
  intro y v h
  unfold g1 at h
  split at h
  · exact findO_false g2_false _ _ _ h
  · exact (Option.some.inj h).symm
theorem g0_false : ∀ x v, g0 n p t b x = some v → v = false := by
  intro x v h
  unfold g0 at h
  split at h
  · exact findO_false g1_false _ _ _ h
  · exact (Option.some.inj h).symm
theorem sys_laws (h : sysV n p t b = true) : (∀ x, Rg n x → oneV n p t b x = true) ∧ (∀ x y, Rg n x → Rg n y → twoV n p b x y = true) ∧ (∀ x y z, Rg n x → Rg n y → Rg n z → threeV n p t b x y z = true) := by
  have o := sysV_ok h
  have hn : ((n.toNat : Nat) : Int) = n := by have := o.lo; omega
  unfold sysV at h
  split at h
  · split at h
    · unfold lawsV at h
      have h0 := (findO_all g0_false).mp h
      have one : ∀ x, Rg n x → oneV n p t b x = true ∧ findO (g1 n p t b x) 0 n.toNat = none := fun x hx => by
        have := h0 x hx.1 (by have := hx.2; omega)
        unfold g0 at this
        split at this
        · exact ⟨by assumption, this⟩
        · cases this
      have two : ∀ x y, Rg n x → Rg n y → twoV n p b x y = true ∧ findO (g2 n p t b x y) 0 n.toNat = none := fun x y hx hy => by
        have := findO_none _ _ (one x hx).2 y hy.1 (by have := hy.2; omega)
        unfold g1 at this
        split at this
        · exact ⟨by assumption, this⟩
        · cases this
      refine ⟨fun x hx => (one x hx).1, fun x y hx hy => (two x y hx hy).1, fun x y z hx hy hz => ?_⟩
      have := findO_none _ _ (two x y hx hy).2 z hz.1 (by have := hz.2; omega)
      unfold g2 at this
      split at this
      · assumption
      · cases this
    · cases h
  · cases h
/-- The laws, one by one. -/
structure Sys (n : Int) (p t : List Int) (b : List Bool) : Prop where
  ok : OK n p t b
  a0 : ∀ x, Rg n x → A n p 0 x = x
  m1 : ∀ x, Rg n x → A n t 1 x = x
  m0 : ∀ x, Rg n x → A n t 0 x = 0
  mz : ∀ x, Rg n x → A n t x 0 = 0
  rf : ∀ x, Rg n x → L n b x x = true
  ac : ∀ x y, Rg n x → Rg n y → A n p x y = A n p y x
  an : ∀ x y, Rg n x → Rg n y → L n b x y = true → L n b y x = true → x = y
  jo : ∀ x y, Rg n x → Rg n y → joinV n b x y ≥ 0
  di : ∀ x y z, Rg n x → Rg n y → Rg n z → A n t x (A n p y z) = A n p (A n t x y) (A n t x z)
  tr : ∀ x y z, Rg n x → Rg n y → Rg n z → L n b x y = true → L n b y z = true → L n b x z = true
theorem sys_of (h : sysV n p t b = true) : Sys n p t b := by
  obtain ⟨h1, h2, h3⟩ := sys_laws h
  have o := sysV_ok h
  unfold oneV at h1
  unfold twoV at h2
  unfold threeV at h3
  simp only [Bool.and_eq_true, decide_eq_true_eq, Bool.not_eq_true', Bool.or_eq_true] at h1 h2 h3
  refine ⟨o, fun x hx => (h1 x hx).1.1.1.1.1, fun x hx => (h1 x hx).1.1.1.1.2, fun x hx => (h1 x hx).1.1.2, fun x hx => (h1 x hx).1.2, fun x hx => (h1 x hx).2, fun x y hx hy => (h2 x y hx hy).1.1, fun x y hx hy l1 l2 => ?_, fun x y hx hy => (h2 x y hx hy).2, fun x y z hx hy hz => (h3 x y z hx hy hz).1.1.2, fun x y z hx hy hz l1 l2 => ?_⟩
  · have := (h2 x y hx hy).1.2
    by_cases e : x = y
    · exact e
    · rw [l1, l2] at this
      simp [e] at this
  · have := (h3 x y z hx hy hz).2
    rw [l1, l2] at this
    simp at this
    exact this.1.1.1
theorem jAll_iff (h : OK n p t b) {x y z : Int} : jAll n b x y z 0 n.toNat = true ↔ ∀ w, Rg n w → L n b x w = true → L n b y w = true → L n b z w = true := by
  have go : ∀ (m : Nat) (a : Int), jAll n b x y z a m = true ↔ ∀ w, a ≤ w → w < a + m → L n b x w = true → L n b y w = true → L n b z w = true := by
    intro m
    induction m with
    | zero => intro a; exact ⟨fun _ w h1 h2 => by omega, fun _ => rfl⟩
    | succ m ih =>
      intro a
      show ((!(L n b x a && L n b y a) || L n b z a) && jAll n b x y z (a + 1) m) = true ↔ _
      rw [Bool.and_eq_true, ih]
      constructor
      · rintro ⟨h1, h2⟩ w hw1 hw2 l1 l2
        by_cases e : w = a
        · subst e; rw [l1, l2] at h1; simpa using h1
        · exact h2 w (by omega) (by omega) l1 l2
      · intro hh
        refine ⟨?_, fun w h1 h2 => hh w (by omega) (by omega)⟩
        cases c1 : L n b x a
        · rfl
        · cases c2 : L n b y a
          · rfl
          · rw [hh a (by omega) (by omega) c1 c2]; rfl
  have hn : ((n.toNat : Nat) : Int) = n := by have := h.lo; omega
  rw [go]
  exact ⟨fun hh w hw => hh w hw.1 (by have := hw.2; omega), fun hh w h1 h2 => hh w ⟨h1, by omega⟩⟩
theorem findO_some {g : Int → Option Int} (hg : ∀ x v, g x = some v → v = x) : ∀ (m : Nat) (x v : Int), findO g x m = some v → g v = some v ∧ x ≤ v ∧ v < x + m
  | 0, x, v, h => by cases h
  | m + 1, x, v, h => by
    have h' : (g x).or (findO g (x + 1) m) = some v := h
    cases c : g x with
    | none => rw [c] at h'; obtain ⟨h1, h2, h3⟩ := findO_some hg m (x + 1) v h'; exact ⟨h1, by omega, by omega⟩
    | some u => rw [c] at h'; obtain rfl : u = v := Option.some.inj h'; have := hg x u c; subst this; exact ⟨c, by omega, by omega⟩
/-- A join is the least that both are below. -/
theorem join_is (s : Sys n p t b) {x y : Int} (hx : Rg n x) (hy : Rg n y) : Rg n (joinV n b x y) ∧ L n b x (joinV n b x y) = true ∧ L n b y (joinV n b x y) = true ∧ ∀ w, Rg n w → L n b x w = true → L n b y w = true → L n b (joinV n b x y) w = true := by
  have h := s.jo x y hx hy
  have hn : ((n.toNat : Nat) : Int) = n := by have := s.ok.lo; omega
  unfold joinV at h ⊢
  cases c : findO (jg n b x y) 0 n.toNat with
  | none => rw [c] at h; exact absurd h (by decide)
  | some v =>
    obtain ⟨h1, h2, h3⟩ := findO_some (fun x' v' h' => by unfold jg at h'; split at h' <;> simp at h'; exact h'.symm) _ _ _ c
    unfold jg at h1
    split at h1
    · rename_i hh
      rw [Bool.and_eq_true, Bool.and_eq_true] at hh
      show Rg n v ∧ L n b x v = true ∧ L n b y v = true ∧ ∀ w, Rg n w → L n b x w = true → L n b y w = true → L n b v w = true
      exact ⟨⟨h2, by omega⟩, hh.1.1, hh.1.2, (jAll_iff s.ok).mp hh.2⟩
    · cases h1
end
end Go.Proofs.YtmcepfimcedocaaDoor.Pure
end

section
/- Systems by their operations; numbers, levels, products of systems are systems. -/
set_option linter.unusedSimpArgs false
set_option linter.unusedVariables false
namespace Go.Proofs.YtmcepfimcedocaaDoor.Pure
open Go.RowKit Go.Proofs.YtmcepfimcedocaaDoor.P Go.Proofs.YtmcepfimcedocaaDoorW.PrintWords Go.Proofs.YtmcepfimcedocaaDoorW.PrintLast
/-- The laws of a system, by its operations. -/
structure Lw (n : Int) (P T : Int → Int → Int) (U : Int → Int → Bool) : Prop where
  lo : 2 ≤ n
  pin : ∀ x y, Rg n x → Rg n y → Rg n (P x y)
  tin : ∀ x y, Rg n x → Rg n y → Rg n (T x y)
  p0 : ∀ x, Rg n x → P 0 x = x
  t1 : ∀ x, Rg n x → T 1 x = x
  t1' : ∀ x, Rg n x → T x 1 = x
  t0 : ∀ x, Rg n x → T 0 x = 0
  t0' : ∀ x, Rg n x → T x 0 = 0
  rf : ∀ x, Rg n x → U x x = true
  cm : ∀ x y, Rg n x → Rg n y → P x y = P y x
  an : ∀ x y, Rg n x → Rg n y → U x y = true → U y x = true → x = y
  jo : ∀ x y, Rg n x → Rg n y → ∃ z, Rg n z ∧ U x z = true ∧ U y z = true ∧ ∀ w, Rg n w → U x w = true → U y w = true → U z w = true
  pa : ∀ x y z, Rg n x → Rg n y → Rg n z → P (P x y) z = P x (P y z)
  ta : ∀ x y z, Rg n x → Rg n y → Rg n z → T (T x y) z = T x (T y z)
  dl : ∀ x y z, Rg n x → Rg n y → Rg n z → T x (P y z) = P (T x y) (T x z)
  dr : ∀ x y z, Rg n x → Rg n y → Rg n z → T (P x y) z = P (T x z) (T y z)
  tr : ∀ x y z, Rg n x → Rg n y → Rg n z → U x y = true → U y z = true → U x z = true
  mp : ∀ x y z, Rg n x → Rg n y → Rg n z → U x y = true → U (P x z) (P y z) = true
  mt : ∀ x y z, Rg n x → Rg n y → Rg n z → U x y = true → U (T x z) (T y z) = true
  mu : ∀ x y z, Rg n x → Rg n y → Rg n z → U x y = true → U (T z x) (T z y) = true
theorem Lw.of_sys {n : Int} {p t : List Int} {b : List Bool} (h : sysV n p t b = true) : Lw n (A n p) (A n t) (L n b) := by
  have s := sys_of h
  obtain ⟨h1, h2, h3⟩ := sys_laws h
  have o := s.ok
  unfold oneV at h1
  unfold threeV at h3
  simp only [Bool.and_eq_true, decide_eq_true_eq, Bool.not_eq_true', Bool.or_eq_true] at h1 h3
  have six : ∀ x y z, Rg n x → Rg n y → Rg n z → L n b x y = true → ((L n b (A n p x z) (A n p y z) = true ∧ L n b (A n t x z) (A n t y z) = true) ∧ L n b (A n t z x) (A n t z y) = true) := fun x y z hx hy hz l => by
    have := (h3 x y z hx hy hz).2
    rw [l] at this
    simp only [Bool.true_eq_false, false_or] at this
    exact ⟨⟨this.1.1.2, this.1.2⟩, this.2⟩
  exact ⟨o.lo, fun x y hx hy => A_in o hx hy, fun x y hx hy => M_in o hx hy, s.a0, s.m1, fun x hx => (h1 x hx).1.1.1.2, s.m0, s.mz, s.rf, s.ac, s.an, fun x y hx hy => ⟨_, join_is s hx hy⟩, fun x y z hx hy hz => (h3 x y z hx hy hz).1.1.1.1, fun x y z hx hy hz => (h3 x y z hx hy hz).1.1.1.2, s.di, fun x y z hx hy hz => (h3 x y z hx hy hz).1.2, s.tr, fun x y z hx hy hz l => (six x y z hx hy hz l).1.1, fun x y z hx hy hz l => (six x y z hx hy hz l).1.2, fun x y z hx hy hz l => (six x y z hx hy hz l).2⟩
/-! ## Tables of operations -/
theorem tab_get {α : Type} {m : Nat} {g : Int → Int → α} {x y : Int} (hx : Rg m x) (hy : Rg m y) : (tab m g)[(x * m + y).toNat]? = some (g x y) := by
  obtain ⟨i, rfl⟩ := Int.eq_ofNat_of_zero_le hx.1
  obtain ⟨j, rfl⟩ := Int.eq_ofNat_of_zero_le hy.1
  have h1 := hx.2
  have h2 := hy.2
  rw [show (i : Int) * (m : Int) + (j : Int) = ((i * m + j : Nat) : Int) by push_cast; rfl, Int.toNat_natCast]
  have := tabF_get m g m 0 i j (by omega) (by omega)
  rw [show (0 : Int) + (i : Int) = (i : Int) by omega] at this
  exact this
theorem tab_A {m : Nat} {g : Int → Int → Int} {x y : Int} (hx : Rg m x) (hy : Rg m y) : A m (tab m g) x y = g x y := by
  show (tab m g).getD (x * m + y).toNat 0 = _
  rw [List.getD_eq_getElem?_getD, tab_get hx hy]; rfl
theorem tab_L {m : Nat} {g : Int → Int → Bool} {x y : Int} (hx : Rg m x) (hy : Rg m y) : L m (tab m g) x y = g x y := by
  show (tab m g).getD (x * m + y).toNat false = _
  rw [List.getD_eq_getElem?_getD, tab_get hx hy]; rfl
theorem tab_rd {m : Nat} {g : Int → Int → Int} {i : Int} (h0 : 0 ≤ i) (h1 : i < (m : Int) * m) : ∃ x y, Rg m x ∧ Rg m y ∧ rd (tab m g) i = g x y := by
  obtain ⟨j, rfl⟩ := Int.eq_ofNat_of_zero_le h0
  have h2 : j < m * m := by have : ((m * m : Nat) : Int) = (m : Int) * m := by push_cast; rfl
                            omega
  have hm : 0 < m := by
    cases m with
    | zero => simp at h2
    | succ m => omega
  have hx : Rg m ((j / m : Nat) : Int) := ⟨Int.natCast_nonneg _, by have := (Nat.div_lt_iff_lt_mul hm).mpr h2; exact Int.ofNat_lt.mpr this⟩
  have hy : Rg m ((j % m : Nat) : Int) := ⟨Int.natCast_nonneg _, by have := Nat.mod_lt j hm; exact Int.ofNat_lt.mpr this⟩
  refine ⟨_, _, hx, hy, ?_⟩
  have := tab_A (g := g) hx hy
  unfold A at this
  rw [show ((j / m : Nat) : Int) * (m : Int) + ((j % m : Nat) : Int) = (j : Int) by
    have := Nat.div_add_mod j m
    rw [Nat.mul_comm] at this
    calc _ = (((j / m) * m + j % m : Nat) : Int) := by push_cast; rfl
      _ = (j : Int) := by rw [this]] at this
  exact this
theorem findO_nn {α : Type} {g : Int → Option α} {m : Nat} {x : Int} (h : ∀ y, x ≤ y → y < x + m → g y = none) : findO g x m = none :=
  (findO_congr m x h).trans (findO_nil m x)
theorem sys_tab {m : Nat} {P T : Int → Int → Int} {U : Int → Int → Bool} (h16 : m ≤ 16) (h : Lw m P T U) : sysV m (tab m P) (tab m T) (tab m U) = true := by
  have lo := h.lo
  have lm : ((m * m : Nat) : Int) = (m : Int) * m := by push_cast; rfl
  have hm : m * m ≤ 16 * 16 := Nat.mul_le_mul h16 h16
  have o : OK m (tab m P) (tab m T) (tab m U) := ⟨lo, by omega, by rw [tab_len]; exact lm, by rw [tab_len]; exact lm, by rw [tab_len]; exact lm, fun i h0 h1 => by
    obtain ⟨x, y, hx, hy, e⟩ := tab_rd (g := P) h0 h1
    rw [e]; exact h.pin x y hx hy, fun i h0 h1 => by
    obtain ⟨x, y, hx, hy, e⟩ := tab_rd (g := T) h0 h1
    rw [e]; exact h.tin x y hx hy⟩
  have hn : (((m : Int).toNat : Nat) : Int) = (m : Int) := by omega
  have pre : preV m (tab m P) (tab m T) (tab m U) = true := by
    unfold preV inV
    rw [tab_len, tab_len, tab_len, lm, w64 (by omega) (by omega)]
    simp only [Bool.and_eq_true, decide_eq_true_eq]
    exact ⟨⟨lo, by omega⟩, ⟨trivial, trivial⟩, trivial⟩
  have gn : findO (gt m (tab m P) (tab m T)) 0 (tab m P).length = none := findO_nn fun y h0 h1 => by
    unfold gt
    rw [tab_len] at h1
    rw [if_pos]
    rw [Bool.and_eq_true]
    exact ⟨(inV_Rg o).mpr (o.rp y h0 (by omega)), (inV_Rg o).mpr (o.rt y h0 (by omega))⟩
  have z : Rg m 0 := Rg_zero o
  have e1 : Rg m 1 := Rg_one o
  unfold sysV
  rw [if_pos pre, if_pos gn]
  unfold lawsV
  rw [findO_nn]
  · rfl
  intro x x0 x1
  have hx : Rg m x := ⟨x0, by omega⟩
  have one : oneV m (tab m P) (tab m T) (tab m U) x = true := by
    unfold oneV
    rw [tab_A z hx, tab_A e1 hx, tab_A hx e1, tab_A z hx, tab_A hx z, tab_L hx hx, h.p0 x hx, h.t1 x hx, h.t1' x hx, h.t0 x hx, h.t0' x hx, h.rf x hx]
    simp
  unfold g0
  rw [if_pos one]
  refine findO_nn fun y y0 y1 => ?_
  have hy : Rg m y := ⟨y0, by omega⟩
  have two : twoV m (tab m P) (tab m U) x y = true := by
    unfold twoV
    rw [tab_A hx hy, tab_A hy hx, tab_L hx hy, tab_L hy hx, h.cm x y hx hy]
    simp only [decide_true, Bool.true_and, Bool.and_eq_true, decide_eq_true_eq, Bool.not_eq_true']
    refine ⟨?_, ?_⟩
    · by_cases e : x = y
      · rw [decide_eq_false (by simpa using e)]; rfl
      · cases c : U x y with
        | false => simp
        | true =>
          cases d : U y x with
          | false => simp
          | true => exact absurd (h.an x y hx hy c d) e
    · obtain ⟨w, hw, l1, l2, l3⟩ := h.jo x y hx hy
      unfold joinV
      cases c : findO (jg m (tab m U) x y) 0 (m : Int).toNat with
      | none =>
        have := findO_none _ _ c w hw.1 (by have := hw.2; omega)
        unfold jg at this
        rw [if_pos] at this
        · cases this
        · rw [tab_L hx hw, tab_L hy hw, l1, l2, (jAll_iff o).mpr]
          · rfl
          intro v hv
          rw [tab_L hx hv, tab_L hy hv, tab_L hw hv]
          exact l3 v hv
      | some v =>
        obtain ⟨h1, h2, h3⟩ := findO_some (fun x' v' h' => by unfold jg at h'; split at h' <;> simp at h'; exact h'.symm) _ _ _ c
        exact h2
  unfold g1
  rw [if_pos two]
  refine findO_nn fun w w0 w1 => ?_
  have hz : Rg m w := ⟨w0, by omega⟩
  have three : threeV m (tab m P) (tab m T) (tab m U) x y w = true := by
    unfold threeV
    have a1 := h.pin x y hx hy; have a2 := h.pin y w hy hz; have a3 := h.pin x w hx hz
    have b1 := h.tin x y hx hy; have b2 := h.tin y w hy hz; have b3 := h.tin x w hx hz
    have b4 := h.tin w x hz hx; have b5 := h.tin w y hz hy
    rw [tab_A hx hy, tab_A hy hz, tab_A hx hz, tab_A a1 hz, tab_A hx a2, tab_A hx hy, tab_A hy hz, tab_A hx hz, tab_A b1 hz, tab_A hx b2, tab_A hx a2, tab_A b1 b3, tab_A a1 hz, tab_A b3 b2, tab_A hz hx, tab_A hz hy, tab_L hx hy, tab_L hy hz, tab_L hx hz, tab_L a3 a2, tab_L b3 b2, tab_L b4 b5,
      h.pa x y w hx hy hz, h.ta x y w hx hy hz, h.dl x y w hx hy hz, h.dr x y w hx hy hz]
    simp only [decide_true, Bool.true_and]
    cases c : U x y with
    | false => rfl
    | true =>
      rw [h.mp x y w hx hy hz c, h.mt x y w hx hy hz c, h.mu x y w hx hy hz c]
      cases d : U y w with
      | false => rfl
      | true => rw [h.tr x y w hx hy hz c d]; rfl
  unfold g2
  rw [if_pos three]
/-! ## Products -/
structure Bij (a b c : Int) (f1 f2 : Int → Int) (pr : Int → Int → Int) : Prop where
  lo : 2 ≤ c
  i1 : ∀ g, Rg c g → Rg a (f1 g)
  i2 : ∀ g, Rg c g → Rg b (f2 g)
  e : ∀ g, Rg c g → pr (f1 g) (f2 g) = g
  ip : ∀ x y, Rg a x → Rg b y → Rg c (pr x y)
  e1 : ∀ x y, Rg a x → Rg b y → f1 (pr x y) = x
  e2 : ∀ x y, Rg a x → Rg b y → f2 (pr x y) = y
  z : pr 0 0 = 0
  o : pr 1 1 = 1
def two (f1 f2 : Int → Int) (pr : Int → Int → Int) (F G : Int → Int → Int) (x y : Int) : Int := pr (F (f1 x) (f1 y)) (G (f2 x) (f2 y))
def both (f1 f2 : Int → Int) (U V : Int → Int → Bool) (x y : Int) : Bool := U (f1 x) (f1 y) && V (f2 x) (f2 y)
theorem Lw.prod {a b c : Int} {f1 f2 : Int → Int} {pr : Int → Int → Int} {P T P' T' : Int → Int → Int} {U U' : Int → Int → Bool} (B : Bij a b c f1 f2 pr) (h : Lw a P T U) (k : Lw b P' T' U') :
    Lw c (two f1 f2 pr P P') (two f1 f2 pr T T') (both f1 f2 U U') := by
  have za : Rg a 0 := ⟨by omega, by have := h.lo; omega⟩
  have zb : Rg b 0 := ⟨by omega, by have := k.lo; omega⟩
  have oa : Rg a 1 := ⟨by omega, by have := h.lo; omega⟩
  have ob : Rg b 1 := ⟨by omega, by have := k.lo; omega⟩
  have z1 : f1 0 = 0 := by have := B.e1 0 0 za zb; rwa [B.z] at this
  have z2 : f2 0 = 0 := by have := B.e2 0 0 za zb; rwa [B.z] at this
  have o1 : f1 1 = 1 := by have := B.e1 1 1 oa ob; rwa [B.o] at this
  have o2 : f2 1 = 1 := by have := B.e2 1 1 oa ob; rwa [B.o] at this
  have p1 : ∀ x y, Rg c x → Rg c y → f1 (two f1 f2 pr P P' x y) = P (f1 x) (f1 y) := fun x y hx hy => B.e1 _ _ (h.pin _ _ (B.i1 x hx) (B.i1 y hy)) (k.pin _ _ (B.i2 x hx) (B.i2 y hy))
  have p2 : ∀ x y, Rg c x → Rg c y → f2 (two f1 f2 pr P P' x y) = P' (f2 x) (f2 y) := fun x y hx hy => B.e2 _ _ (h.pin _ _ (B.i1 x hx) (B.i1 y hy)) (k.pin _ _ (B.i2 x hx) (B.i2 y hy))
  have t1 : ∀ x y, Rg c x → Rg c y → f1 (two f1 f2 pr T T' x y) = T (f1 x) (f1 y) := fun x y hx hy => B.e1 _ _ (h.tin _ _ (B.i1 x hx) (B.i1 y hy)) (k.tin _ _ (B.i2 x hx) (B.i2 y hy))
  have t2 : ∀ x y, Rg c x → Rg c y → f2 (two f1 f2 pr T T' x y) = T' (f2 x) (f2 y) := fun x y hx hy => B.e2 _ _ (h.tin _ _ (B.i1 x hx) (B.i1 y hy)) (k.tin _ _ (B.i2 x hx) (B.i2 y hy))
  have pin : ∀ x y, Rg c x → Rg c y → Rg c (two f1 f2 pr P P' x y) := fun x y hx hy => B.ip _ _ (h.pin _ _ (B.i1 x hx) (B.i1 y hy)) (k.pin _ _ (B.i2 x hx) (B.i2 y hy))
  have tin : ∀ x y, Rg c x → Rg c y → Rg c (two f1 f2 pr T T' x y) := fun x y hx hy => B.ip _ _ (h.tin _ _ (B.i1 x hx) (B.i1 y hy)) (k.tin _ _ (B.i2 x hx) (B.i2 y hy))
  have le : ∀ x y, both f1 f2 U U' x y = true ↔ U (f1 x) (f1 y) = true ∧ U' (f2 x) (f2 y) = true := fun x y => Bool.and_eq_true _ _ ▸ Iff.rfl
  refine ⟨B.lo, pin, tin, fun x hx => ?_, fun x hx => ?_, fun x hx => ?_, fun x hx => ?_, fun x hx => ?_, fun x hx => ?_, fun x y hx hy => ?_, fun x y hx hy l1 l2 => ?_, fun x y hx hy => ?_, fun x y z hx hy hz => ?_, fun x y z hx hy hz => ?_, fun x y z hx hy hz => ?_, fun x y z hx hy hz => ?_, fun x y z hx hy hz l1 l2 => ?_, fun x y z hx hy hz l => ?_, fun x y z hx hy hz l => ?_, fun x y z hx hy hz l => ?_⟩
  · unfold two; rw [z1, z2, h.p0 _ (B.i1 x hx), k.p0 _ (B.i2 x hx), B.e x hx]
  · unfold two; rw [o1, o2, h.t1 _ (B.i1 x hx), k.t1 _ (B.i2 x hx), B.e x hx]
  · unfold two; rw [o1, o2, h.t1' _ (B.i1 x hx), k.t1' _ (B.i2 x hx), B.e x hx]
  · unfold two; rw [z1, z2, h.t0 _ (B.i1 x hx), k.t0 _ (B.i2 x hx), B.z]
  · unfold two; rw [z1, z2, h.t0' _ (B.i1 x hx), k.t0' _ (B.i2 x hx), B.z]
  · exact (le x x).mpr ⟨h.rf _ (B.i1 x hx), k.rf _ (B.i2 x hx)⟩
  · unfold two; rw [h.cm _ _ (B.i1 x hx) (B.i1 y hy), k.cm _ _ (B.i2 x hx) (B.i2 y hy)]
  · obtain ⟨a1, a2⟩ := (le _ _).mp l1
    obtain ⟨a3, a4⟩ := (le _ _).mp l2
    rw [← B.e x hx, ← B.e y hy, h.an _ _ (B.i1 x hx) (B.i1 y hy) a1 a3, k.an _ _ (B.i2 x hx) (B.i2 y hy) a2 a4]
  · obtain ⟨u, hu, u1, u2, u3⟩ := h.jo _ _ (B.i1 x hx) (B.i1 y hy)
    obtain ⟨v, hv, v1, v2, v3⟩ := k.jo _ _ (B.i2 x hx) (B.i2 y hy)
    refine ⟨pr u v, B.ip u v hu hv, ?_, ?_, fun w hw l1 l2 => ?_⟩
    · rw [le, B.e1 u v hu hv, B.e2 u v hu hv]; exact ⟨u1, v1⟩
    · rw [le, B.e1 u v hu hv, B.e2 u v hu hv]; exact ⟨u2, v2⟩
    · rw [le] at l1 l2
      rw [le, B.e1 u v hu hv, B.e2 u v hu hv]
      exact ⟨u3 _ (B.i1 w hw) l1.1 l2.1, v3 _ (B.i2 w hw) l1.2 l2.2⟩
  · show pr (P (f1 (two f1 f2 pr P P' x y)) (f1 z)) (P' (f2 (two f1 f2 pr P P' x y)) (f2 z)) = pr (P (f1 x) (f1 (two f1 f2 pr P P' y z))) (P' (f2 x) (f2 (two f1 f2 pr P P' y z)))
    rw [p1 x y hx hy, p2 x y hx hy, p1 y z hy hz, p2 y z hy hz, h.pa _ _ _ (B.i1 x hx) (B.i1 y hy) (B.i1 z hz), k.pa _ _ _ (B.i2 x hx) (B.i2 y hy) (B.i2 z hz)]
  · show pr (T (f1 (two f1 f2 pr T T' x y)) (f1 z)) (T' (f2 (two f1 f2 pr T T' x y)) (f2 z)) = pr (T (f1 x) (f1 (two f1 f2 pr T T' y z))) (T' (f2 x) (f2 (two f1 f2 pr T T' y z)))
    rw [t1 x y hx hy, t2 x y hx hy, t1 y z hy hz, t2 y z hy hz, h.ta _ _ _ (B.i1 x hx) (B.i1 y hy) (B.i1 z hz), k.ta _ _ _ (B.i2 x hx) (B.i2 y hy) (B.i2 z hz)]
  · show pr (T (f1 x) (f1 (two f1 f2 pr P P' y z))) (T' (f2 x) (f2 (two f1 f2 pr P P' y z))) = pr (P (f1 (two f1 f2 pr T T' x y)) (f1 (two f1 f2 pr T T' x z))) (P' (f2 (two f1 f2 pr T T' x y)) (f2 (two f1 f2 pr T T' x z)))
    rw [p1 y z hy hz, p2 y z hy hz, t1 x y hx hy, t2 x y hx hy, t1 x z hx hz, t2 x z hx hz, h.dl _ _ _ (B.i1 x hx) (B.i1 y hy) (B.i1 z hz), k.dl _ _ _ (B.i2 x hx) (B.i2 y hy) (B.i2 z hz)]
  · show pr (T (f1 (two f1 f2 pr P P' x y)) (f1 z)) (T' (f2 (two f1 f2 pr P P' x y)) (f2 z)) = pr (P (f1 (two f1 f2 pr T T' x z)) (f1 (two f1 f2 pr T T' y z))) (P' (f2 (two f1 f2 pr T T' x z)) (f2 (two f1 f2 pr T T' y z)))
    rw [p1 x y hx hy, p2 x y hx hy, t1 x z hx hz, t2 x z hx hz, t1 y z hy hz, t2 y z hy hz, h.dr _ _ _ (B.i1 x hx) (B.i1 y hy) (B.i1 z hz), k.dr _ _ _ (B.i2 x hx) (B.i2 y hy) (B.i2 z hz)]
  · rw [le] at l1 l2 ⊢
    exact ⟨h.tr _ _ _ (B.i1 x hx) (B.i1 y hy) (B.i1 z hz) l1.1 l2.1, k.tr _ _ _ (B.i2 x hx) (B.i2 y hy) (B.i2 z hz) l1.2 l2.2⟩
  · rw [le] at l
    rw [le, p1 x z hx hz, p2 x z hx hz, p1 y z hy hz, p2 y z hy hz]
    exact ⟨h.mp _ _ _ (B.i1 x hx) (B.i1 y hy) (B.i1 z hz) l.1, k.mp _ _ _ (B.i2 x hx) (B.i2 y hy) (B.i2 z hz) l.2⟩
  · rw [le] at l
    rw [le, t1 x z hx hz, t2 x z hx hz, t1 y z hy hz, t2 y z hy hz]
    exact ⟨h.mt _ _ _ (B.i1 x hx) (B.i1 y hy) (B.i1 z hz) l.1, k.mt _ _ _ (B.i2 x hx) (B.i2 y hy) (B.i2 z hz) l.2⟩
  · rw [le] at l
    rw [le, t1 z x hz hx, t2 z x hz hx, t1 z y hz hy, t2 z y hz hy]
    exact ⟨h.mu _ _ _ (B.i1 x hx) (B.i1 y hy) (B.i1 z hz) l.1, k.mu _ _ _ (B.i2 x hx) (B.i2 y hy) (B.i2 z hz) l.2⟩
end Go.Proofs.YtmcepfimcedocaaDoor.Pure
end

section
/- The systems of one part are systems. -/
set_option linter.unusedSimpArgs false
set_option linter.unusedVariables false
namespace Go.Proofs.YtmcepfimcedocaaDoor.Pure
open Go.RowKit Go.Proofs.YtmcepfimcedocaaDoor.P Go.Proofs.YtmcepfimcedocaaDoorW.PrintWords Go.Proofs.YtmcepfimcedocaaDoorW.PrintLast
/-! ## Numbers -/
def sat (M v : Nat) : Nat := if v < M then v else M
theorem sat_le (M v : Nat) : sat M v ≤ M := by unfold sat; split <;> omega
theorem sat_lt {M v : Nat} (h : v ≤ M) : sat M v = v := by unfold sat; split <;> omega
theorem sat_ge {M v : Nat} (h : M ≤ v) : sat M v = M := by unfold sat; split <;> omega
theorem sat_mono {M u v : Nat} (h : u ≤ v) : sat M u ≤ sat M v := by unfold sat; split <;> split <;> omega
theorem sat_add (M u w : Nat) : sat M (sat M u + w) = sat M (u + w) := by
  by_cases h : u ≤ M
  · rw [sat_lt h]
  · rw [sat_ge (show M ≤ u by omega), sat_ge (show M ≤ M + w by omega), sat_ge (show M ≤ u + w by omega)]
theorem sat_mul (M u w : Nat) : sat M (sat M u * w) = sat M (u * w) := by
  by_cases h : u ≤ M
  · rw [sat_lt h]
  · cases w with
    | zero => rfl
    | succ w =>
      have h1 : M * 1 ≤ M * (w + 1) := Nat.mul_le_mul_left M (by omega)
      have h2 : M * (w + 1) ≤ u * (w + 1) := Nat.mul_le_mul_right (w + 1) (by omega)
      rw [sat_ge (show M ≤ u by omega), sat_ge (show M ≤ M * (w + 1) by omega), sat_ge (show M ≤ u * (w + 1) by omega)]
theorem cP_nat (M i j : Nat) : cP (M : Int) (i : Int) (j : Int) = ((sat M (i + j) : Nat) : Int) := by
  unfold cP sat
  by_cases h : i + j < M
  · rw [if_pos h, if_pos (by omega)]; push_cast; rfl
  · rw [if_neg h, if_neg (by omega)]
theorem cT_nat (M i j : Nat) : cT (M : Int) (i : Int) (j : Int) = ((sat M (i * j) : Nat) : Int) := by
  have e : (i : Int) * (j : Int) = ((i * j : Nat) : Int) := by push_cast; rfl
  unfold cT sat
  rw [e]
  by_cases h : i * j < M
  · rw [if_pos h, if_pos (by omega)]
  · rw [if_neg h, if_neg (by omega)]
theorem cB_nat (bd : Bool) (M i j : Nat) : cB bd (M : Int) (i : Int) (j : Int) = true ↔ i = j ∨ j = M ∨ (bd = true ∧ i ≤ j) := by
  unfold cB
  simp only [Bool.or_eq_true, Bool.and_eq_true, decide_eq_true_eq]
  constructor
  · rintro (h | h | ⟨h1, h2⟩)
    · exact Or.inl (by omega)
    · exact Or.inr (Or.inl (by omega))
    · exact Or.inr (Or.inr ⟨h1, by omega⟩)
  · rintro (h | h | ⟨h1, h2⟩)
    · exact Or.inl (by omega)
    · exact Or.inr (Or.inl (by omega))
    · exact Or.inr (Or.inr ⟨h1, by omega⟩)
theorem rgN {M : Nat} {x : Int} (h : Rg ((M + 1 : Nat) : Int) x) : ∃ i : Nat, x = (i : Int) ∧ i ≤ M := by
  obtain ⟨h1, h2⟩ := h
  obtain ⟨i, rfl⟩ := Int.eq_ofNat_of_zero_le h1
  exact ⟨i, rfl, by omega⟩
theorem Lw.num (bd : Bool) (M : Nat) (h1 : 1 ≤ M) : Lw ((M + 1 : Nat) : Int) (cP (M : Int)) (cT (M : Int)) (cB bd (M : Int)) := by
  have z : (0 : Int) = ((0 : Nat) : Int) := rfl
  have o : (1 : Int) = ((1 : Nat) : Int) := rfl
  have rg : ∀ v, Rg ((M + 1 : Nat) : Int) ((sat M v : Nat) : Int) := fun v => ⟨Int.natCast_nonneg _, by have := sat_le M v; omega⟩
  refine ⟨by omega, fun x y hx hy => ?_, fun x y hx hy => ?_, fun x hx => ?_, fun x hx => ?_, fun x hx => ?_, fun x hx => ?_, fun x hx => ?_, fun x hx => ?_, fun x y hx hy => ?_, fun x y hx hy l1 l2 => ?_, fun x y hx hy => ?_, fun x y w hx hy hz => ?_, fun x y w hx hy hz => ?_, fun x y w hx hy hz => ?_, fun x y w hx hy hz => ?_, fun x y w hx hy hz l1 l2 => ?_, fun x y w hx hy hz l => ?_, fun x y w hx hy hz l => ?_, fun x y w hx hy hz l => ?_⟩
  all_goals obtain ⟨i, rfl, hi⟩ := rgN hx
  all_goals try obtain ⟨j, rfl, hj⟩ := rgN hy
  all_goals try obtain ⟨k, rfl, hk⟩ := rgN hz
  · rw [cP_nat]; exact rg _
  · rw [cT_nat]; exact rg _
  · rw [z, cP_nat, Nat.zero_add, sat_lt hi]
  · rw [o, cT_nat, Nat.one_mul, sat_lt hi]
  · rw [o, cT_nat, Nat.mul_one, sat_lt hi]
  · rw [z, cT_nat, Nat.zero_mul, sat_lt (by omega)]
  · rw [z, cT_nat, Nat.mul_zero, sat_lt (by omega)]
  · exact (cB_nat bd M i i).mpr (Or.inl rfl)
  · rw [cP_nat, cP_nat, Nat.add_comm]
  · rw [cB_nat] at l1 l2; omega
  · by_cases c : i = j ∨ j = M ∨ (bd = true ∧ i ≤ j)
    · exact ⟨_, hy, (cB_nat bd M i j).mpr c, (cB_nat bd M j j).mpr (Or.inl rfl), fun w _ _ h => h⟩
    · by_cases d : j = i ∨ i = M ∨ (bd = true ∧ j ≤ i)
      · exact ⟨_, hx, (cB_nat bd M i i).mpr (Or.inl rfl), (cB_nat bd M j i).mpr d, fun w _ h _ => h⟩
      · refine ⟨(M : Int), ⟨by omega, by omega⟩, (cB_nat bd M i M).mpr (Or.inr (Or.inl rfl)), (cB_nat bd M j M).mpr (Or.inr (Or.inl rfl)), fun w hw l1 l2 => ?_⟩
        obtain ⟨k, rfl, hk⟩ := rgN hw
        rw [cB_nat] at l1 l2 ⊢
        cases bd <;> simp only [Bool.false_eq_true, false_and, true_and, or_false] at c d l1 l2 ⊢ <;> omega
  · rw [cP_nat, cP_nat, cP_nat, cP_nat, sat_add, Nat.add_comm i (sat M (j + k)), sat_add]; congr 2; omega
  · rw [cT_nat, cT_nat, cT_nat, cT_nat, sat_mul, Nat.mul_comm i (sat M (j * k)), sat_mul]; congr 2; rw [Nat.mul_comm (j * k) i, Nat.mul_assoc]
  · rw [cP_nat, cT_nat, cT_nat, cT_nat, cP_nat, Nat.mul_comm i (sat M (j + k)), sat_mul, sat_add, Nat.add_comm (i * j) (sat M (i * k)), sat_add]; congr 2; rw [Nat.add_mul, Nat.mul_comm j i, Nat.mul_comm k i, Nat.add_comm]
  · rw [cP_nat, cT_nat, cT_nat, cT_nat, cP_nat, sat_mul, sat_add, Nat.add_comm (i * k) (sat M (j * k)), sat_add]; congr 2; rw [Nat.add_mul, Nat.add_comm]
  · rw [cB_nat] at l1 l2 ⊢
    cases bd <;> simp only [Bool.false_eq_true, false_and, true_and, or_false] at l1 l2 ⊢ <;> omega
  · rw [cB_nat] at l
    rw [cP_nat, cP_nat, cB_nat]
    rcases l with l | l | ⟨l1, l2⟩
    · exact Or.inl (by rw [l])
    · exact Or.inr (Or.inl (sat_ge (by omega)))
    · exact Or.inr (Or.inr ⟨l1, sat_mono (by omega)⟩)
  · rw [cB_nat] at l
    rw [cT_nat, cT_nat, cB_nat]
    rcases l with l | l | ⟨l1, l2⟩
    · exact Or.inl (by rw [l])
    · cases k with
      | zero => exact Or.inl rfl
      | succ k => exact Or.inr (Or.inl (sat_ge (by have := Nat.mul_le_mul_left j (show 1 ≤ k + 1 by omega); omega)))
    · exact Or.inr (Or.inr ⟨l1, sat_mono (Nat.mul_le_mul_right k l2)⟩)
  · rw [cB_nat] at l
    rw [cT_nat, cT_nat, cB_nat, Nat.mul_comm k i, Nat.mul_comm k j]
    rcases l with l | l | ⟨l1, l2⟩
    · exact Or.inl (by rw [l])
    · cases k with
      | zero => exact Or.inl rfl
      | succ k => exact Or.inr (Or.inl (sat_ge (by have := Nat.mul_le_mul_left j (show 1 ≤ k + 1 by omega); omega)))
    · exact Or.inr (Or.inr ⟨l1, sat_mono (Nat.mul_le_mul_right k l2)⟩)
/-! ## Levels -/
theorem pl_rg {N x : Int} (h : Rg N x) : Rg N (pl N x) := by
  obtain ⟨h1, h2⟩ := h
  unfold pl
  by_cases c : x = 0
  · rw [if_pos c]; exact ⟨by omega, by omega⟩
  · rw [if_neg c]; exact ⟨by omega, by omega⟩
theorem pl_pl {N x : Int} (h : Rg N x) : pl N (pl N x) = x := by
  obtain ⟨h1, h2⟩ := h
  unfold pl
  by_cases c : x = 0
  · rw [if_pos c, if_pos rfl, c]
  · rw [if_neg c, if_neg (by omega)]; omega
theorem hP_is (N x y : Int) : hP N x y = pl N (max (pl N x) (pl N y)) := by
  unfold hP
  congr 1
  split <;> omega
theorem hT_is (N x y : Int) : hT N x y = pl N (min (pl N x) (pl N y)) := by
  unfold hT
  congr 1
  split <;> omega
theorem hB_is (N x y : Int) : hB N x y = true ↔ pl N x ≤ pl N y := by unfold hB; rw [decide_eq_true_eq]
theorem Lw.lev {N : Int} (h2 : 2 ≤ N) : Lw N (hP N) (hT N) (hB N) := by
  have mx : ∀ u v, Rg N u → Rg N v → Rg N (max u v) := fun u v hu hv => by
    obtain ⟨a, b⟩ := hu
    obtain ⟨c, d⟩ := hv
    exact ⟨by omega, by omega⟩
  have mn : ∀ u v, Rg N u → Rg N v → Rg N (min u v) := fun u v hu hv => by
    obtain ⟨a, b⟩ := hu
    obtain ⟨c, d⟩ := hv
    exact ⟨by omega, by omega⟩
  have q : ∀ x y, Rg N x → Rg N y → pl N (hP N x y) = max (pl N x) (pl N y) := fun x y hx hy => by rw [hP_is, pl_pl (mx _ _ (pl_rg hx) (pl_rg hy))]
  have r : ∀ x y, Rg N x → Rg N y → pl N (hT N x y) = min (pl N x) (pl N y) := fun x y hx hy => by rw [hT_is, pl_pl (mn _ _ (pl_rg hx) (pl_rg hy))]
  have p0 : pl N 0 = 0 := rfl
  have p1 : pl N 1 = N - 1 := rfl
  have pin : ∀ x y, Rg N x → Rg N y → Rg N (hP N x y) := fun x y hx hy => by rw [hP_is]; exact pl_rg (mx _ _ (pl_rg hx) (pl_rg hy))
  have tin : ∀ x y, Rg N x → Rg N y → Rg N (hT N x y) := fun x y hx hy => by rw [hT_is]; exact pl_rg (mn _ _ (pl_rg hx) (pl_rg hy))
  have z : Rg N 0 := ⟨by omega, by omega⟩
  have o : Rg N 1 := ⟨by omega, by omega⟩
  have inj : ∀ x y, Rg N x → Rg N y → pl N x = pl N y → x = y := fun x y hx hy h => by rw [← pl_pl hx, h, pl_pl hy]
  refine ⟨h2, pin, tin, fun x hx => ?_, fun x hx => ?_, fun x hx => ?_, fun x hx => ?_, fun x hx => ?_, fun x hx => ?_, fun x y hx hy => ?_, fun x y hx hy l1 l2 => ?_, fun x y hx hy => ?_, fun x y w hx hy hz => ?_, fun x y w hx hy hz => ?_, fun x y w hx hy hz => ?_, fun x y w hx hy hz => ?_, fun x y w hx hy hz l1 l2 => ?_, fun x y w hx hy hz l => ?_, fun x y w hx hy hz l => ?_, fun x y w hx hy hz l => ?_⟩
  · exact inj _ _ (pin _ _ z hx) hx (by rw [q _ _ z hx, p0]; have := (pl_rg hx).1; omega)
  · exact inj _ _ (tin _ _ o hx) hx (by rw [r _ _ o hx, p1]; have := (pl_rg hx).2; omega)
  · exact inj _ _ (tin _ _ hx o) hx (by rw [r _ _ hx o, p1]; have := (pl_rg hx).2; omega)
  · exact inj _ _ (tin _ _ z hx) z (by rw [r _ _ z hx, p0]; have := (pl_rg hx).1; omega)
  · exact inj _ _ (tin _ _ hx z) z (by rw [r _ _ hx z, p0]; have := (pl_rg hx).1; omega)
  · exact (hB_is N x x).mpr (by omega)
  · exact inj _ _ (pin _ _ hx hy) (pin _ _ hy hx) (by rw [q _ _ hx hy, q _ _ hy hx]; omega)
  · rw [hB_is] at l1 l2; exact inj _ _ hx hy (by omega)
  · refine ⟨_, pin x y hx hy, ?_, ?_, fun w hw l1 l2 => ?_⟩
    · rw [hB_is, q _ _ hx hy]; omega
    · rw [hB_is, q _ _ hx hy]; omega
    · rw [hB_is] at l1 l2 ⊢; rw [q _ _ hx hy]; omega
  · exact inj _ _ (pin _ _ (pin _ _ hx hy) hz) (pin _ _ hx (pin _ _ hy hz)) (by rw [q _ _ (pin _ _ hx hy) hz, q _ _ hx (pin _ _ hy hz), q _ _ hx hy, q _ _ hy hz]; omega)
  · exact inj _ _ (tin _ _ (tin _ _ hx hy) hz) (tin _ _ hx (tin _ _ hy hz)) (by rw [r _ _ (tin _ _ hx hy) hz, r _ _ hx (tin _ _ hy hz), r _ _ hx hy, r _ _ hy hz]; omega)
  · exact inj _ _ (tin _ _ hx (pin _ _ hy hz)) (pin _ _ (tin _ _ hx hy) (tin _ _ hx hz)) (by rw [r _ _ hx (pin _ _ hy hz), q _ _ (tin _ _ hx hy) (tin _ _ hx hz), q _ _ hy hz, r _ _ hx hy, r _ _ hx hz]; omega)
  · exact inj _ _ (tin _ _ (pin _ _ hx hy) hz) (pin _ _ (tin _ _ hx hz) (tin _ _ hy hz)) (by rw [r _ _ (pin _ _ hx hy) hz, q _ _ (tin _ _ hx hz) (tin _ _ hy hz), q _ _ hx hy, r _ _ hx hz, r _ _ hy hz]; omega)
  · rw [hB_is] at l1 l2 ⊢; omega
  · rw [hB_is] at l ⊢; rw [q _ _ hx hz, q _ _ hy hz]; omega
  · rw [hB_is] at l ⊢; rw [r _ _ hx hz, r _ _ hy hz]; omega
  · rw [hB_is] at l ⊢; rw [r _ _ hz hx, r _ _ hz hy]; omega
/-! ## The systems of one part -/
theorem val_sys {c : Nat × Nat} (h : c ∈ implC) : sysV (val c.1 c.2).1 (val c.1 c.2).2.1 (val c.1 c.2).2.2.1 (val c.1 c.2).2.2.2 = true := by
  obtain ⟨h1, h2⟩ := implC_in h
  obtain ⟨q, n⟩ := c
  rcases h2 with ⟨h2, h3⟩ | ⟨h2, h3⟩
  · match q, h2 with
    | 0, _ =>
      have : val 0 n = numS false n := if_pos ⟨h1, h3⟩
      rw [this]
      exact sys_tab (by omega) (Lw.num false (n + 1) (by omega))
    | 1, _ =>
      have : val 1 n = numS true n := if_pos ⟨h1, h3⟩
      rw [this]
      exact sys_tab (by omega) (Lw.num true (n + 1) (by omega))
  · obtain rfl : q = 2 := h2
    have : val 2 n = levS n := if_pos ⟨h1, h3⟩
    rw [this]
    exact sys_tab (by omega) (Lw.lev (by omega))
end Go.Proofs.YtmcepfimcedocaaDoor.Pure
end
