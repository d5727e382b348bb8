/- Views, and what they show. -/
import Derived.Test.YtjjkagnbdfofbaaM5
import Derived.Test.YtjjkagnbdfofbaaM13
import Derived.Test.YtjjkagnbdfofbaaC42
import Derived.Test.YtjjkagnbdfofbaaC43
import Derived.Test.YtjjkagnbdfofbaaM16
set_option linter.unusedSimpArgs false
set_option linter.unusedVariables false
namespace Go.Proofs.Ytjjkagnbdfofbaa.Pure
open Go.RowKit Go.Proofs.Ytjjkagnbdfofbaa.P Go.Proofs.YtjjkagnbdfofbaaW.PrintWords Go.Proofs.YtjjkagnbdfofbaaW.PrintLast
def lv1 : Sy := (2, [0, 1, 1, 1], [0, 0, 0, 1], [true, true, false, true])
theorem lv1E : Ev (fun k => impl_LevelSystem.f k 1) lv1 := evK 64 fun k => by kernel_rfl
/-- Grades that rise, within a system. -/
def Up (n : Int) (v : List Int) (m : Nat) : Prop := ∀ j, j < m → Rg n (rd v (j : Int)) ∧ (0 < j → rd v ((j - 1 : Nat) : Int) < rd v (j : Int))
def Marked (n : Int) (v : List Int) (m : Nat) (s : List Bool) : Prop := (s.length : Int) = n ∧ ∀ x, Rg n x → (rdOf false s x = true ↔ ∃ j, j < m ∧ rd v (j : Int) = x)
theorem marked_zero {n : Int} (hn : 0 ≤ n) (v : List Int) : Marked n v 0 (List.replicate n.toNat false) := by
  refine ⟨by rw [List.length_replicate]; omega, fun x hx => ?_⟩
  obtain ⟨q, rfl⟩ := Int.eq_ofNat_of_zero_le hx.1
  have hq : q < (List.replicate n.toNat false).length := by rw [List.length_replicate]; have := hx.2; omega
  rw [rdB_get hq]; simp
theorem marked_succ {n : Int} {v : List Int} {m : Nat} {s : List Bool} (h : Marked n v m s) (hr : Rg n (rd v (m : Int))) : Marked n v (m + 1) (s.set (rd v (m : Int)).toNat true) := by
  refine ⟨by rw [List.length_set]; exact h.1, fun x hx => ?_⟩
  obtain ⟨q, rfl⟩ := Int.eq_ofNat_of_zero_le hx.1
  have hq : q < s.length := by have := hx.2; have := h.1; omega
  have hq2 : q < (s.set (rd v (m : Int)).toNat true).length := by rw [List.length_set]; exact hq
  have h0 := h.2 _ hx
  rw [rdB_get hq] at h0
  rw [rdB_get hq2, List.getElem_set]
  by_cases c : (rd v (m : Int)).toNat = q
  · rw [if_pos c]
    refine ⟨fun _ => ⟨m, by omega, by have := hr.1; omega⟩, fun _ => rfl⟩
  · rw [if_neg c, h0]
    constructor
    · rintro ⟨j, j1, j2⟩; exact ⟨j, by omega, j2⟩
    · rintro ⟨j, j1, j2⟩
      refine ⟨j, ?_, j2⟩
      rcases Nat.lt_or_ge j m with q1 | q1
      · exact q1
      · obtain rfl : j = m := by omega
        omega
section
variable {n : Int} {p t : List Int} {b : List Bool}
/-- The list behind all of it, and what IsView tells of it. -/
theorem memL_marks : ∀ (z : List Bool) (a : Int) (v : List Int), v.Pairwise (· < ·) → (∀ x, x ∈ v → a ≤ x ∧ x < a + z.length) → (∀ q, q < z.length → (z[q]? = some true ↔ a + (q : Int) ∈ v)) → memL z a = v
  | [], a, v, _, hr, _ => by
    cases v with
    | nil => rfl
    | cons y v => have := hr y List.mem_cons_self; simp only [List.length_nil] at this; omega
  | c :: z, a, v, hp, hr, hz => by
    have h0 := hz 0 (by simp)
    simp only [List.getElem?_cons_zero, Option.some.injEq, Int.natCast_zero, Int.add_zero] at h0
    have hz' : ∀ q, q < z.length → (z[q]? = some true ↔ a + 1 + (q : Int) ∈ v) := fun q hq => by
      have := hz (q + 1) (by simp; omega)
      rw [List.getElem?_cons_succ] at this
      rw [this, show a + ((q + 1 : Nat) : Int) = a + 1 + (q : Int) by omega]
    cases c
    · have na : a ∉ v := fun h => by have := h0.mpr h; cases this
      show memL z (a + 1) = v
      refine memL_marks z (a + 1) v hp (fun x hx => ?_) hz'
      have := hr x hx
      simp only [List.length_cons] at this
      rcases Int.lt_or_le a x with q1 | q1
      · omega
      · exact absurd ((by omega : x = a) ▸ hx) na
    · have ha : a ∈ v := h0.mp rfl
      cases v with
      | nil => cases ha
      | cons y v =>
        obtain ⟨hy, hp2⟩ := List.pairwise_cons.mp hp
        clear hp
        obtain rfl : a = y := by
          rcases List.mem_cons.mp ha with h | h
          · exact h
          · have := hy a h; have := hr y List.mem_cons_self; omega
        show a :: memL z (a + 1) = a :: v
        rw [memL_marks z (a + 1) v hp2 (fun x hx => ?_) (fun q hq => ?_)]
        · have := hr x (List.mem_cons_of_mem _ hx); have := hy x hx
          simp only [List.length_cons] at *
          omega
        · rw [hz' q hq, List.mem_cons]
          constructor
          · rintro (h | h)
            · omega
            · exact h
          · exact Or.inr
theorem allM_mem : ∀ (u : List Bool), u ∈ allM u.length
  | [] => by simp [allM]
  | c :: u => by
    rw [List.length_cons, allM, List.mem_append, List.mem_map, List.mem_map]
    cases c
    · exact Or.inr ⟨u, allM_mem u, rfl⟩
    · exact Or.inl ⟨u, allM_mem u, rfl⟩
theorem allM_length : ∀ (m : Nat) (u : List Bool), u ∈ allM m → u.length = m
  | 0, u, h => by simp [allM] at h; simp [h]
  | m + 1, u, h => by
    rw [allM, List.mem_append, List.mem_map, List.mem_map] at h
    rcases h with ⟨w, hw, rfl⟩ | ⟨w, hw, rfl⟩ <;> simp [allM_length m w hw]
theorem memL_in : ∀ (z : List Bool) (a x : Int), x ∈ memL z a ↔ ∃ q, q < z.length ∧ z[q]? = some true ∧ x = a + (q : Int)
  | [], a, x => by simp [memL]
  | c :: z, a, x => by
    have ih := memL_in z (a + 1) x
    have tail : (∃ q, q < (c :: z).length ∧ (c :: z)[q]? = some true ∧ x = a + (q : Int)) ↔ (c = true ∧ x = a) ∨ ∃ q, q < z.length ∧ z[q]? = some true ∧ x = a + 1 + (q : Int) := by
      constructor
      · rintro ⟨q, h1, h2, h3⟩
        cases q with
        | zero => exact Or.inl ⟨by simpa using h2, by omega⟩
        | succ q => exact Or.inr ⟨q, by simpa using h1, by simpa using h2, by omega⟩
      · rintro (⟨h1, h2⟩ | ⟨q, h1, h2, h3⟩)
        · exact ⟨0, by simp, by simp [h1], by omega⟩
        · exact ⟨q + 1, by simpa using h1, by simpa using h2, by omega⟩
    rw [tail, ← ih]
    show x ∈ (if c = true then a :: memL z (a + 1) else memL z (a + 1)) ↔ _
    cases c <;> simp
theorem up_pairwise {v : List Int} (h : Up n v v.length) : v.Pairwise (· < ·) := by
  have lt : ∀ (d i : Nat), i + d + 1 < v.length → rd v (i : Int) < rd v ((i + d + 1 : Nat) : Int) := by
    intro d
    induction d with
    | zero => intro i hi; exact (h (i + 1) hi).2 (by omega)
    | succ d ih =>
      intro i hi
      have h1 := ih i (by omega)
      have h2 := (h (i + (d + 1) + 1) hi).2 (by omega)
      rw [show i + (d + 1) + 1 - 1 = i + d + 1 by omega] at h2
      omega
  rw [List.pairwise_iff_getElem]
  intro i j hi hj hij
  have := lt (j - i - 1) i (by omega)
  rw [show i + (j - i - 1) + 1 = j by omega, rd_get hi, rd_get hj] at this
  exact this
theorem up_mem {v : List Int} (x : Int) : (∃ j, j < v.length ∧ rd v (j : Int) = x) ↔ x ∈ v := by
  rw [List.mem_iff_getElem]
  constructor
  · rintro ⟨j, hj, e⟩; rw [rd_get hj] at e; exact ⟨j, hj, e⟩
  · rintro ⟨j, hj, e⟩; exact ⟨j, hj, by rw [rd_get hj]; exact e⟩
theorem view_in (o : OK n p t b) {v : List Int} {s : List Bool} (hu : Up n v v.length) (hs : Marked n v v.length s) : v ∈ sortL (viewsL (markV n p t b) (n - 2).toNat [false, true]) ↔ markV n p t b s = true := by
  have h1 := o.lo
  have hin : ∀ x, x ∈ v → Rg n x := fun x hx => by
    obtain ⟨j, hj, rfl⟩ := (up_mem x).mpr hx
    exact (hu j hj).1
  have hmem : ∀ q, q < s.length → (s[q]? = some true ↔ ((q : Nat) : Int) ∈ v) := fun q hq => by
    have := hs.2 (q : Int) ⟨by omega, by have := hs.1; omega⟩
    rw [rdB_get hq, up_mem] at this
    rw [List.getElem?_eq_getElem hq, Option.some.injEq]
    exact this
  have self : memL s 0 = v := memL_marks s 0 v (up_pairwise hu) (fun x hx => by have := hin x hx; have := hs.1; unfold Rg at *; omega) (fun q hq => by rw [hmem q hq, Int.zero_add])
  rw [sortL_mem]
  unfold viewsL
  rw [List.mem_filterMap]
  constructor
  · rintro ⟨u, hu', e⟩
    have lu := allM_length _ _ hu'
    split at e
    · rename_i hm
      obtain rfl : s = [false, true] ++ u := by
        refine List.ext_getElem (by have := hs.1; simp; omega) fun q q1 q2 => ?_
        have a1 := hmem q q1
        rw [← Option.some.inj e, memL_in] at a1
        rw [List.getElem?_eq_getElem q1, Option.some.injEq] at a1
        have a2 : (∃ r, r < ([false, true] ++ u).length ∧ ([false, true] ++ u)[r]? = some true ∧ ((q : Nat) : Int) = 0 + (r : Int)) ↔ ([false, true] ++ u)[q] = true := by
          constructor
          · rintro ⟨r, r1, r2, r3⟩
            obtain rfl : r = q := by omega
            rw [List.getElem?_eq_getElem q2] at r2
            exact Option.some.inj r2
          · intro r2
            exact ⟨q, q2, by rw [List.getElem?_eq_getElem q2, r2], by omega⟩
        rw [a2] at a1
        exact Bool.eq_iff_iff.mpr a1
      exact hm
    · cases e
  · intro hm
    have m0 : rdOf false s 0 = false ∧ rdOf false s 1 = true := by
      unfold markV at hm
      split at hm
      · assumption
      · cases hm
    have hl : 2 ≤ s.length := by have := hs.1; omega
    obtain ⟨c0, c1, u, rfl⟩ : ∃ c0 c1 u, s = c0 :: c1 :: u := by
      match s, hl with
      | c0 :: c1 :: u, _ => exact ⟨c0, c1, u, rfl⟩
    obtain rfl : c0 = false := m0.1
    obtain rfl : c1 = true := m0.2
    have lu : u.length = (n - 2).toNat := by have := hs.1; simp at this; omega
    refine ⟨u, by rw [← lu]; exact allM_mem u, ?_⟩
    show (if markV n p t b (false :: true :: u) = true then some (memL (false :: true :: u) 0) else none) = some v
    rw [if_pos hm, self]
/-- What a list of grades shows, grade by grade. -/
def sh1 (v : List Int) (x : Int) : Int := if x ∈ v then 1 else 0
def shL (v : List Int) : Nat → List Int
  | 0 => []
  | m + 1 => shL v m ++ [sh1 v (m : Int)]
theorem shL_len (v : List Int) : ∀ m, (shL v m).length = m
  | 0 => rfl
  | m + 1 => by rw [shL, List.length_append, shL_len v m]; rfl
theorem shL_get (v : List Int) : ∀ (m q : Nat), q < m → rd (shL v m) (q : Int) = sh1 v (q : Int)
  | 0, q, h => by omega
  | m + 1, q, h => by
    have hq : q < (shL v (m + 1)).length := by rw [shL_len]; exact h
    rw [rd_get hq]
    simp only [shL]
    rw [List.getElem_append]
    split
    · rename_i h1
      have := shL_get v m q (by rw [shL_len] at h1; exact h1)
      rw [rd_get h1] at this
      exact this
    · rename_i h1
      rw [shL_len] at h1
      obtain rfl : q = m := by omega
      simp [shL_len]
theorem hasE (v : List Int) (hv : v.length ≤ 1048576) (x : Int) : ∀ (m i : Nat), i + m = v.length → (∀ j, j < i → rd v (j : Int) ≠ x) → Ev (fun k => laws_has.l0 k v x (i : Int)) (decide (x ∈ v)) := by
  intro m
  induction m with
  | zero =>
    intro i hi hn
    have : decide (x ∈ v) = false := decide_eq_false fun h => by
      obtain ⟨j, hj, e⟩ := (up_mem x).mpr h
      exact hn j (by omega) e
    rw [this]
    refine Ev.step (f := fun _ => some false) (fun k => ?_) (Ev.now _)
    simp only [laws_has.l0]; rw [if_neg (by omega)]
  | succ m ih =>
    intro i hi hn
    by_cases c : rd v (i : Int) = x
    · have : decide (x ∈ v) = true := decide_eq_true ((up_mem x).mp ⟨i, by omega, c⟩)
      rw [this]
      refine Ev.step (f := fun _ => some true) (fun k => ?_) (Ev.now _)
      simp only [laws_has.l0]; rw [if_pos (by omega), if_pos (by omega), if_pos c]
    · refine Ev.step (fun k => ?_) (ih (i + 1) (by omega) fun j hj => ?_)
      · simp only [laws_has.l0]; rw [if_pos (by omega), if_pos (by omega), if_neg c, w64 (by omega) (by omega)]; rfl
      · rcases Nat.lt_or_ge j i with q | q
        · exact hn j q
        · obtain rfl : j = i := by omega
          exact c
theorem shownE (v : List Int) (hv : v.length ≤ 1048576) (N : Nat) (hN : N ≤ 65536) : ∀ (m i : Nat), i + m = N → Ev (fun k => laws_shown.l0 k v (shL v i) (i : Int) (N : Int) p t b) (shL v N) := by
  intro m
  induction m with
  | zero =>
    intro i hi
    obtain rfl : i = N := by omega
    refine Ev.step (f := fun _ => some (shL v i)) (fun k => ?_) (Ev.now _)
    simp only [laws_shown.l0]; rw [if_neg (by omega)]
  | succ m ih =>
    intro i hi
    refine Ev.step (f := fun k => (laws_has.f k v (i : Int)).bind fun c => if c = true then laws_shown.l0 k v (shL v i ++ [1]) ((i : Int) + 1) (N : Int) p t b else laws_shown.l0 k v (shL v i ++ [0]) ((i : Int) + 1) (N : Int) p t b) (fun k => ?_) (Ev.bind (hasE v hv (i : Int) v.length 0 (by omega) (fun j hj => by omega)) ?_)
    · have hl : (shL v i).length < 17592186044416 := by rw [shL_len]; omega
      simp only [laws_shown.l0]; rw [if_pos (by omega)]
      simp only [if_pos hl, w64 (x := (i : Int) + 1) (by omega) (by omega)]
    · have := ih (i + 1) (by omega)
      simp only [shL, sh1] at this
      by_cases c : (i : Int) ∈ v
      · simp only [decide_eq_true c, if_true]; rw [if_pos c] at this; exact this
      · simp only [decide_eq_false c, Bool.false_eq_true, if_false]; rw [if_neg c] at this; exact this
/-- A set is a view just if what it shows is a map to levels of one. -/
theorem markMap (s : Sys n p t b) {v : List Int} {z : List Bool} (hz : Marked n v v.length z) : mapV n p t b lv1.1 lv1.2.1 lv1.2.2.1 lv1.2.2.2 (shL v n.toNat) = (sysV n p t b && markV n p t b z) := by
  have o := s.ok
  have h1 := o.lo
  have hn : ((n.toNat : Nat) : Int) = n := by omega
  have hsh : ∀ x, Rg n x → rd (shL v n.toNat) x = if rdOf false z x = true then 1 else 0 := fun x hx => by
    obtain ⟨q, rfl⟩ := Int.eq_ofNat_of_zero_le hx.1
    rw [shL_get v n.toNat q (by have := hx.2; omega)]
    unfold sh1
    have := (hz.2 _ hx).trans (up_mem (q : Int))
    by_cases c : (q : Int) ∈ v
    · rw [if_pos c, if_pos (this.mpr c)]
    · rw [if_neg c, if_neg (fun h => c (this.mp h))]
  have r0 := Rg_zero o
  have r1 := Rg_one o
  unfold mapV pre
  cases hsv : sysV n p t b
  · simp
  rw [show sysV lv1.1 lv1.2.1 lv1.2.2.1 lv1.2.2.2 = true by decide +kernel, decide_eq_true (by rw [shL_len]; exact hn)]
  simp only [Bool.and_self, Bool.true_and, if_true]
  have nb : (shL v n.toNat).any (bad lv1.1) = false := by
    rw [List.any_eq_false]
    intro x hx
    obtain ⟨q, hq, rfl⟩ := List.mem_iff_getElem.mp hx
    have hq' : q < n.toNat := by rw [shL_len] at hq; exact hq
    have := hsh (q : Int) ⟨by omega, by omega⟩
    rw [rd_get hq] at this
    rw [this]
    split <;> decide +kernel
  rw [nb]
  simp only [Bool.false_eq_true, if_false]
  have e : ends (shL v n.toNat) = decide (rdOf false z 0 = false ∧ rdOf false z 1 = true) := by
    unfold ends
    rw [hsh 0 r0, hsh 1 r1]
    cases rdOf false z 0 <;> cases rdOf false z 1 <;> decide
  have key : ∀ x y, Rg n x → Rg n y → (m1 n p t b lv1.1 lv1.2.1 lv1.2.2.1 lv1.2.2.2 (shL v n.toNat) x y = v1 n p t b z x y) := by
    intro x y hx hy
    unfold m1 mOk v1
    rw [hsh x hx, hsh y hy, hsh _ (A_in o hx hy), hsh _ (M_in o hx hy)]
    cases rdOf false z x <;> cases rdOf false z y <;> cases rdOf false z (A n p x y) <;> cases rdOf false z (A n t x y) <;> cases L n b x y <;> decide +kernel
  have all : findO (m0 n p t b lv1.1 lv1.2.1 lv1.2.2.1 lv1.2.2.2 (shL v n.toNat)) 0 n.toNat = findO (v0 n p t b z) 0 n.toNat :=
    findO_congr _ _ fun x x0 x1 => findO_congr _ _ fun y y0 y1 => key x y ⟨x0, by omega⟩ ⟨y0, by omega⟩
  rw [all, e]
  unfold markV
  by_cases c : rdOf false z 0 = false ∧ rdOf false z 1 = true
  · rw [if_pos c, decide_eq_true c]
    cases hf : findO (v0 n p t b z) 0 n.toNat with
    | none => simp
    | some w =>
      have : w = false := by
        refine findO_false ?_ _ _ _ hf
        intro x w h
        unfold v0 at h
        refine findO_false ?_ _ _ _ h
        intro y w h'
        unfold v1 at h'
        repeat' split at h'
        all_goals first | exact (Option.some.inj h').symm | cases h'
      rw [this]; simp
  · rw [if_neg c, decide_eq_false c]
    split <;> rfl
end
end Go.Proofs.Ytjjkagnbdfofbaa.Pure
