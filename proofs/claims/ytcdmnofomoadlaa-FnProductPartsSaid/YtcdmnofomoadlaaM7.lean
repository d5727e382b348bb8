-- Several texts in one (wip/tools/merge.py).
import Derived.Test.YtcdmnofomoadlaaM5
import Derived.Test.YtcdmnofomoadlaaM6
import Derived.Test.YtcdmnofomoadlaaM1
import Derived.IntWalk
import Derived.Test.YtcdmnofomoadlaaM2
import Derived.Laws.EntriesVeiled
section
/- The plain laws: loops, copies, comparisons. -/
set_option linter.unusedSimpArgs false
set_option linter.unusedVariables false
namespace Go.Proofs.Ytcdmnofomoadlaa.Pure
open Go.RowKit Go.Proofs.Ytcdmnofomoadlaa.P Go.Proofs.YtcdmnofomoadlaaW.PrintWords Go.Proofs.YtcdmnofomoadlaaW.PrintLast
theorem evCongr {α : Type} {g f : Nat → Option α} {r : α} (h : ∀ k, g k = f k) (k : Ev f r) : Ev g r := by
  obtain ⟨K, k⟩ := k
  exact ⟨K, fun n hn => (h n).trans (k n hn)⟩
theorem evRounds {α : Type} {g : Nat → Option α} {r : α} (h : Ev g r) : ∃ k, g k = some r := by
  obtain ⟨K, h⟩ := h
  exact ⟨K, h K (Nat.le_refl _)⟩
/-! ## Loops -/
def findO {α : Type} (g : Int → Option α) : Int → Nat → Option α
  | _, 0 => none
  | x, m + 1 => (g x).or (findO g (x + 1) m)
theorem findO_none {α : Type} {g : Int → Option α} : ∀ (m : Nat) (x : Int), findO g x m = none → ∀ y, x ≤ y → y < x + m → g y = none
  | 0, x, _, y, h1, h2 => by omega
  | m + 1, x, h, y, h1, h2 => by
    have h' : (g x).or (findO g (x + 1) m) = none := h
    rw [Option.or_eq_none_iff] at h'
    by_cases e : y = x
    · rw [e]; exact h'.1
    · exact findO_none m (x + 1) h'.2 y (by omega) (by omega)
theorem findO_congr {α : Type} {g g' : Int → Option α} : ∀ (m : Nat) (x : Int), (∀ y, x ≤ y → y < x + m → g y = g' y) → findO g x m = findO g' x m
  | 0, _, _ => rfl
  | m + 1, x, h => by
    show (g x).or (findO g (x + 1) m) = (g' x).or (findO g' (x + 1) m)
    rw [h x (by omega) (by omega), findO_congr m (x + 1) fun y h1 h2 => h y (by omega) (by omega)]
theorem findO_nil {α : Type} : ∀ (m : Nat) (x : Int), findO (fun _ => (none : Option α)) x m = none
  | 0, _ => rfl
  | m + 1, x => findO_nil m (x + 1)
theorem loop {α : Type} {F : Nat → Int → Option α} {n : Int} {g : Int → Option α} {e : α} (he : Ev (fun k => F k n) e)
    (hs : ∀ x, 0 ≤ x → x < n → ∀ r, Ev (fun k => F k (x + 1)) r → Ev (fun k => F k x) ((g x).getD r)) :
    ∀ (m : Nat) (x : Int), 0 ≤ x → x + m = n → Ev (fun k => F k x) ((findO g x m).getD e)
  | 0, x, _, h => by
    obtain rfl : x = n := by omega
    exact he
  | m + 1, x, h0, h => by
    have ih := loop he hs m (x + 1) (by omega) (by omega)
    have := hs x h0 (by omega) _ ih
    show Ev _ (((g x).or (findO g (x + 1) m)).getD e)
    revert this
    cases g x <;> exact id
theorem loop0 {α : Type} {F : Nat → Int → Option α} {n : Int} {g : Int → Option α} {e : α} (hn : 0 ≤ n) (he : Ev (fun k => F k n) e)
    (hs : ∀ x, 0 ≤ x → x < n → ∀ r, Ev (fun k => F k (x + 1)) r → Ev (fun k => F k x) ((g x).getD r)) : Ev (fun k => F k 0) ((findO g 0 n.toNat).getD e) :=
  loop he hs n.toNat 0 (by omega) (by omega)
theorem loop_hit {α : Type} {F : Nat → Int → Option α} {n : Int} {g : Int → Option α} {v : α}
    (hs : ∀ x, 0 ≤ x → x < n → ∀ r, (g x = none → Ev (fun k => F k (x + 1)) r) → Ev (fun k => F k x) ((g x).getD r)) :
    ∀ (m : Nat) (x : Int), 0 ≤ x → x + m = n → findO g x m = some v → Ev (fun k => F k x) v
  | 0, x, _, _, h => by cases h
  | m + 1, x, h0, h, hf => by
    have hf' : (g x).or (findO g (x + 1) m) = some v := hf
    have := hs x h0 (by omega) v
    cases c : g x with
    | none =>
      rw [c] at hf' this
      exact this fun _ => loop_hit hs m (x + 1) (by omega) (by omega) hf'
    | some u =>
      rw [c] at hf' this
      obtain rfl : u = v := Option.some.inj hf'
      exact this (fun h => by cases h)
theorem w64 {x : Int} (h1 : -9223372036854775808 ≤ x) (h2 : x ≤ 9223372036854775807) : wrap64 x = x := by unfold wrap64; omega
/-! ## Copies and sizes -/
theorem wf_range {x : Int} (h : (Lit.int .i64 x).wf = true) : -9223372036854775808 ≤ x ∧ x ≤ 9223372036854775807 := by
  simp [Lit.wf, IntKind.min, IntKind.max, IntKind.signed, IntKind.bits] at h
  exact h
theorem rd_get {l : List Int} {i : Nat} (h : i < l.length) : rd l (i : Int) = l[i] := by
  unfold rd; rw [Int.toNat_natCast, List.getD_eq_getElem?_getD, List.getElem?_eq_getElem h]; rfl
theorem rdB_get {l : List Bool} {i : Nat} (h : i < l.length) : rdOf false l (i : Int) = l[i] := by
  unfold rdOf; rw [Int.toNat_natCast, List.getD_eq_getElem?_getD, List.getElem?_eq_getElem h]; rfl
theorem toIntS_loop (l : List Int) (hl : l.length ≤ 1048576) : ∀ (m i : Nat) (acc : List Int), i + m = l.length → acc.length = l.length → acc.take i = l.take i → Ev (fun k => laws_toIntS.l0 k l acc (i : Int)) l
  | 0, i, acc, h, ha, ht => by
    have : acc = l := by
      have h1 : acc.take i = acc := List.take_of_length_le (by omega)
      have h2 : l.take i = l := List.take_of_length_le (by omega)
      rw [← h1, ht, h2]
    subst this
    refine Ev.step (f := fun _ => some acc) (fun k => ?_) (Ev.now _)
    simp only [laws_toIntS.l0]
    rw [if_neg (by omega)]
  | m + 1, i, acc, h, ha, ht => by
    have ih := toIntS_loop l hl m (i + 1) (acc.set i (rd l (i : Int))) (by omega) (by simp [ha]) (by
      rw [rd_get (by omega)]
      apply List.ext_getElem (by simp [ha])
      intro j h1 h2
      simp only [List.length_take] at h2
      rw [List.getElem_take, List.getElem_take, List.getElem_set]
      split
      · next e => subst e; rfl
      · next e =>
        have e1 : (acc.take i)[j]'(by simp; omega) = (l.take i)[j]'(by simp; omega) := by simp only [ht]
        rw [List.getElem_take, List.getElem_take] at e1
        exact e1)
    refine Ev.step (fun k => ?_) ih
    simp only [laws_toIntS.l0]
    rw [if_pos (by omega), if_pos (by omega), if_pos (by omega), w64 (by omega) (by omega)]
    simp
theorem toIntS (l : List Int) (hl : l.length ≤ 1048576) : Ev (fun k => laws_toIntS.f k l) l := by
  unfold laws_toIntS.f
  refine evCongr (fun k => (if_pos (by omega)).trans (if_pos (by omega))) ?_
  exact toIntS_loop l hl l.length 0 _ (by omega) (by simp) (by simp)
theorem eqIntS (l : List Int) (hl : l.length ≤ 1048576) : Ev (fun k => laws_eqIntS.f k l l) true := by
  unfold laws_eqIntS.f
  refine evCongr (fun k => if_pos rfl) ?_
  have hh : (findO (fun _ => (none : Option Bool)) 0 (l.length : Int).toNat).getD true = true := by rw [findO_nil]; rfl
  rw [← hh]
  refine loop0 (F := fun k x => laws_eqIntS.l0 k l l x) (n := (l.length : Int)) (g := fun _ => none) (e := true) (by omega) ?_ ?_
  · refine Ev.step (f := fun _ => some true) (fun k => ?_) (Ev.now _)
    simp only [laws_eqIntS.l0]; rw [if_neg (by omega)]
  · intro x h0 h1 r hr
    refine Ev.step (fun k => ?_) hr
    simp only [laws_eqIntS.l0]; rw [if_pos h1, if_pos h0, if_pos h1, w64 (by omega) (by omega)]; simp
def inV (x lo hi : Int) : Bool := decide (x ≥ lo) && decide (x ≤ hi)
theorem in_eq (x lo hi : Int) : spec_l1In.f x lo hi = some (inV x lo hi) := by
  unfold spec_l1In.f inV
  by_cases c : x ≥ lo
  · rw [if_pos c]; simp [c]
  · rw [if_neg c]; simp [c]
theorem within_eq (x lo hi : Int) : impl_within.f x lo hi = some (inV x lo hi) := in_eq x lo hi
end Go.Proofs.Ytcdmnofomoadlaa.Pure
end

section
namespace Go.Proofs.Ytcdmnofomoadlaa.P
open Go.RowKit Go.Proofs.YtcdmnofomoadlaaW.PrintWords Go.Proofs.YtcdmnofomoadlaaW.PrintLast Go.Proofs.YtcdmnofomoadlaaW.PrintMore
attribute [local go_sem] max2_int min2_int max_two min_two max_three min_three max_four min_four   -- for this text's walks alone
set_option linter.unusedVariables false
set_option linter.unusedSimpArgs false

/-! ### laws_eqBoolS: function 85 -/
def laws_eqBoolS.l0 : Nat → List Bool → List Bool → Int → Option (Bool)
 | 0, _, _, _ => none
 | k + 1, x0, x1, x5 => if x5 < (x0.length : Int) then (if 0 ≤ x5 then (if x5 < (x1.length : Int) then (if ((rdOf false x0 x5) != (rdOf false x1 x5)) = true then (some false) else (laws_eqBoolS.l0 k x0 x1 (wrap64 (x5 + 1)))) else (none)) else (none)) else (some true)
def laws_eqBoolS.f (k : Nat) (l0 : List Bool) (l1 : List Bool) : Option (Bool) := if (l0.length : Int) = (l1.length : Int) then (laws_eqBoolS.l0 k l0 l1 0) else (some false)
set_option maxHeartbeats 8000000 in
set_option maxRecDepth 100000 in
theorem laws_eqBoolS.calls (k : Nat) (A0 : Option Addr) (c0 : Nat) (l0 : List Bool) (A1 : Option Addr) (c1 : Nat) (l1 : List Bool) (r : Bool) (w : World) (hr0 : Kd.C Kd.bool w A0 l0.length l0) (hc0 : l0.length ≤ c0) (hr1 : Kd.C Kd.bool w A1 l1.length l1) (hc1 : l1.length ≤ c1) (h : laws_eqBoolS.f k l0 l1 = some r) :
  Calls Try.prog 85 #[.slice A0 l0.length c0, .slice A1 l1.length c1] w fun e w' => e = .returned (.bool r) ∧ Drawn0 w w' := by
 have HR0 := sd_ hr0
 have HC0 := sd_ hc0
 clear hr0 hc0
 have HR1 := sd_ hr1
 have HC1 := sd_ hc1
 clear hr1 hc1
 have H : (if (l0.length : Int) = (l1.length : Int) then (laws_eqBoolS.l0 k l0 l1 0) else (some false)) = some r := h
 clear h
 by_cases c3 : (l0.length : Int) = (l1.length : Int)
 ·rw [if_pos c3] at H
  have c3b0 : ((l0.length : Int) == (l1.length : Int)) = true := beq_iff_eq.mpr c3
  have c3b1 : ((l0.length : Int) != (l1.length : Int)) = false := bne_eq_false_iff_eq.mpr c3
  have c3b2 : (l0.length == l1.length) = true := by first | simpa using c3 | (simp at c3 ⊢; omega)
  clear c3
  have H' := sd_ H
  clear H
  go_enter Try.func85, Try.ntmps85
  go_wp2
  repeat (go_quiet (fail); try go_wp2)
  go_loopg [5] k (fun kq v5 w' => ∃ (x5_1 : Int), v5 = .int .i64 x5_1 ∧ Aside0 (laws_eqBoolS.l0 kq l0 l1 x5_1 = some r) ∧ Aside0 (kq ≤ k) ∧ Drawn0 w w')
  case atStart => exact ⟨(0), sm_, H', ⟨Nat.le_refl _⟩, by repeat (first | exact Drawn0.refl _ | apply Drawn0.step)⟩
  case round =>
   clear H'
   try clear c1
   try clear p2
   try clear c3
   try clear c3b0
   try clear c3b1
   try clear c3b2
   obtain ⟨x5_1, rfl, HA, HK1, ⟨m1, rfl⟩⟩ := hrel
   cases gk with
   | zero => exact absurd HA.out (by simp [laws_eqBoolS.l0])
   | succ k1 =>
    have H := HA.out
    clear HA
    simp only [laws_eqBoolS.l0] at H
    by_cases c4 : x5_1 < (l0.length : Int)
    ·rw [if_pos c4] at H
     have c4b0 : decide (x5_1 < (l0.length : Int)) = true := decide_eq_true c4
     clear c4
     by_cases c5 : 0 ≤ x5_1
     ·rw [if_pos c5] at H
      have c5b0 : decide (0 ≤ x5_1) = true := decide_eq_true c5
      clear c5
      by_cases c6 : x5_1 < (l1.length : Int)
      ·rw [if_pos c6] at H
       have c6b0 : decide (x5_1 < (l1.length : Int)) = true := decide_eq_true c6
       clear c6
       by_cases c7 : ((rdOf false l0 x5_1) != (rdOf false l1 x5_1)) = true
       ·rw [if_pos c7] at H
        have c7b0 : ((rdOf false l0 x5_1) != (rdOf false l1 x5_1)) = true := c7
        (try (have c7b1 : decide ((rdOf false l0 x5_1) = (rdOf false l1 x5_1)) = false := by simpa using c7))
        (try (have c7b2 : ((rdOf false l0 x5_1) == (rdOf false l1 x5_1)) = false := by simpa using c7))
        (try (have c7b3 : ¬ ((rdOf false l0 x5_1) = (rdOf false l1 x5_1)) := by simpa using c7))
        clear c7
        obtain rfl := Option.some.inj H
        have p1015 : 0 ≤ (x5_1 : Int) := dt_
        have q1015 : x5_1 < (l0.length : Int) := dt_
        obtain ⟨ad1015, e1015, hx1015_0⟩ := Kd.at_bool HR0.out x5_1 p1015 q1015
        cases e1015
        replace p1015 := eq_true p1015
        replace q1015 := eq_true q1015
        have p1016 : 0 ≤ (x5_1 : Int) := dt_
        have q1016 : x5_1 < (l1.length : Int) := dt_
        obtain ⟨ad1016, e1016, hx1016_0⟩ := Kd.at_bool HR1.out x5_1 p1016 q1016
        cases e1016
        replace p1016 := eq_true p1016
        replace q1016 := eq_true q1016
        go_wp2
        repeat (go_quiet (fail); try go_wp2)
        go_ret
        exact ⟨by first | rfl | (simp; done) | (simp [*]; done), by repeat (first | exact Drawn0.refl _ | apply Drawn0.step)⟩
       ·rw [if_neg c7] at H
        have c7b0 : ((rdOf false l0 x5_1) != (rdOf false l1 x5_1)) = false := by simpa using c7
        (try (have c7b1 : decide ((rdOf false l0 x5_1) = (rdOf false l1 x5_1)) = true := by simpa using c7))
        (try (have c7b2 : ((rdOf false l0 x5_1) == (rdOf false l1 x5_1)) = true := by simpa using c7))
        clear c7
        have H' := sd_ H
        clear H
        have p1015 : 0 ≤ (x5_1 : Int) := dt_
        have q1015 : x5_1 < (l0.length : Int) := dt_
        obtain ⟨ad1015, e1015, hx1015_0⟩ := Kd.at_bool HR0.out x5_1 p1015 q1015
        cases e1015
        replace p1015 := eq_true p1015
        replace q1015 := eq_true q1015
        have p1016 : 0 ≤ (x5_1 : Int) := dt_
        have q1016 : x5_1 < (l1.length : Int) := dt_
        obtain ⟨ad1016, e1016, hx1016_0⟩ := Kd.at_bool HR1.out x5_1 p1016 q1016
        cases e1016
        replace p1016 := eq_true p1016
        replace q1016 := eq_true q1016
        go_wp2
        repeat (go_quiet (fail); try go_wp2)
        go_roundg k1
        case measure => have := HK1.out; omega
        case rel => exact ⟨(wrap64 (x5_1 + 1)), sm_, H', ⟨by have := HK1.out; omega⟩, by repeat (first | exact Drawn0.refl _ | apply Drawn0.step)⟩
      ·rw [if_neg c6] at H
       exact absurd H (by simp)
     ·rw [if_neg c5] at H
      exact absurd H (by simp)
    ·rw [if_neg c4] at H
     have c4b0 : decide (x5_1 < (l0.length : Int)) = false := decide_eq_false c4
     clear c4
     obtain rfl := Option.some.inj H
     go_wp2
     repeat (go_quiet (fail); try go_wp2)
     go_ret
     exact ⟨by first | rfl | (simp; done) | (simp [*]; done), by repeat (first | exact Drawn0.refl _ | apply Drawn0.step)⟩
 ·rw [if_neg c3] at H
  have c3b0 : ((l0.length : Int) == (l1.length : Int)) = false := beq_eq_false_iff_ne.mpr c3
  have c3b1 : ((l0.length : Int) != (l1.length : Int)) = true := bne_iff_ne.mpr c3
  have c3b2 : (l0.length == l1.length) = false := by first | simpa using c3 | (simp at c3 ⊢; omega)
  obtain rfl := Option.some.inj H
  go_enter Try.func85, Try.ntmps85
  go_wp2
  repeat (go_quiet (fail); try go_wp2)
  go_ret
  exact ⟨by first | rfl | (simp; done) | (simp [*]; done), by repeat (first | exact Drawn0.refl _ | apply Drawn0.step)⟩


/-! ### laws_eqSystem: function 25 -/
def laws_eqSystem.f (k : Nat) (a0_0 : Int) (l0_1 : List Int) (l0_2 : List Int) (l0_3 : List Bool) (a1_0 : Int) (l1_1 : List Int) (l1_2 : List Int) (l1_3 : List Bool) : Option (Bool) := if a0_0 = a1_0 then ((laws_eqIntS.f k l0_1 l1_1).bind fun t1019 => (if t1019 = true then ((laws_eqIntS.f k l0_2 l1_2).bind fun t1020 => (if t1020 = true then ((laws_eqBoolS.f k l0_3 l1_3).bind fun t1021 => (if t1021 = true then (some true) else (some false))) else (some false))) else (some false))) else (some false)
set_option maxHeartbeats 8000000 in
set_option maxRecDepth 100000 in
theorem laws_eqSystem.calls (k : Nat) (a0_0 : Int) (A0_1 : Option Addr) (c0_1 : Nat) (l0_1 : List Int) (A0_2 : Option Addr) (c0_2 : Nat) (l0_2 : List Int) (A0_3 : Option Addr) (c0_3 : Nat) (l0_3 : List Bool) (a1_0 : Int) (A1_1 : Option Addr) (c1_1 : Nat) (l1_1 : List Int) (A1_2 : Option Addr) (c1_2 : Nat) (l1_2 : List Int) (A1_3 : Option Addr) (c1_3 : Nat) (l1_3 : List Bool) (r : Bool) (w : World) (hr0_1 : Kd.C (Kd.int .i64) w A0_1 l0_1.length l0_1) (hc0_1 : l0_1.length ≤ c0_1) (hr0_2 : Kd.C (Kd.int .i64) w A0_2 l0_2.length l0_2) (hc0_2 : l0_2.length ≤ c0_2) (hr0_3 : Kd.C Kd.bool w A0_3 l0_3.length l0_3) (hc0_3 : l0_3.length ≤ c0_3) (hr1_1 : Kd.C (Kd.int .i64) w A1_1 l1_1.length l1_1) (hc1_1 : l1_1.length ≤ c1_1) (hr1_2 : Kd.C (Kd.int .i64) w A1_2 l1_2.length l1_2) (hc1_2 : l1_2.length ≤ c1_2) (hr1_3 : Kd.C Kd.bool w A1_3 l1_3.length l1_3) (hc1_3 : l1_3.length ≤ c1_3) (h : laws_eqSystem.f k a0_0 l0_1 l0_2 l0_3 a1_0 l1_1 l1_2 l1_3 = some r) :
  Calls Try.prog 25 #[.agg #[.int .i64 a0_0, .slice A0_1 l0_1.length c0_1, .slice A0_2 l0_2.length c0_2, .slice A0_3 l0_3.length c0_3], .agg #[.int .i64 a1_0, .slice A1_1 l1_1.length c1_1, .slice A1_2 l1_2.length c1_2, .slice A1_3 l1_3.length c1_3]] w fun e w' => e = .returned (.bool r) ∧ Below w.heap.size w w' := by
 have hu27 := Try.underlying27
 have HR0_1 := sd_ hr0_1
 have HC0_1 := sd_ hc0_1
 clear hr0_1 hc0_1
 have HR0_2 := sd_ hr0_2
 have HC0_2 := sd_ hc0_2
 clear hr0_2 hc0_2
 have HR0_3 := sd_ hr0_3
 have HC0_3 := sd_ hc0_3
 clear hr0_3 hc0_3
 have HR1_1 := sd_ hr1_1
 have HC1_1 := sd_ hc1_1
 clear hr1_1 hc1_1
 have HR1_2 := sd_ hr1_2
 have HC1_2 := sd_ hc1_2
 clear hr1_2 hc1_2
 have HR1_3 := sd_ hr1_3
 have HC1_3 := sd_ hc1_3
 clear hr1_3 hc1_3
 have HB := sd_ (Below.refl w.heap.size w)
 have H : (if a0_0 = a1_0 then ((laws_eqIntS.f k l0_1 l1_1).bind fun t1019 => (if t1019 = true then ((laws_eqIntS.f k l0_2 l1_2).bind fun t1020 => (if t1020 = true then ((laws_eqBoolS.f k l0_3 l1_3).bind fun t1021 => (if t1021 = true then (some true) else (some false))) else (some false))) else (some false))) else (some false)) = some r := h
 clear h
 have HP3 := sd_ H
 clear H
 go_enter Try.func25, Try.ntmps25
 go_upto_if 9 with (first | ((with_reducible refine gate_dst (N := 2) rfl ?_); refine bx_ (N := 2) (cs := #[.int .i64 a0_0, .slice A0_1 l0_1.length c0_1, .slice A0_2 l0_2.length c0_2, .slice A0_3 l0_3.length c0_3]) (t := 27) ?_; intro gb1017 hg w4 hbox hb; have BK1017 := sd_ (hbox); have GW1017 := sd_ (gs_ hg (bw0_ HB.out)); have GE1017 := sd_ (gs_ hg (bw0_ HB.out)); replace HB := sd_ (below_step (bw0_ HB.out) hb); clear hb hbox hg) | ((with_reducible refine gate_dst (N := 3) rfl ?_); refine bx_ (N := 3) (cs := #[.int .i64 a1_0, .slice A1_1 l1_1.length c1_1, .slice A1_2 l1_2.length c1_2, .slice A1_3 l1_3.length c1_3]) (t := 27) ?_; intro gb1018 hg w5 hbox hb; have BK1018 := sd_ (hbox); have GW1018 := sd_ (gs_ hg (bw1_ HB.out GE1017.out)); have GE1018 := sd_ (gs_ hg (bw1_ HB.out GE1017.out)); replace HB := sd_ (below_step (bw1_ HB.out GE1017.out) hb); have NB1017_1018 := sd_ (nl_ hg (bl_ BK1017.out)); have NB1018_1017 := sd_ (ng_ hg (bl_ BK1017.out)); replace BK1017 := sd_ (bb_ BK1017.out hb); clear hb hbox hg; have hnb6 := NB1017_1018.out; have hnc6 := NB1018_1017.out; obtain ⟨hcz7_0, hcz7_1, hcz7_2, hcz7_3, hfz7_0, hfz7_1, hfz7_2, hfz7_3⟩ := bf4_ BK1017.out; obtain ⟨hcz8_0, hcz8_1, hcz8_2, hcz8_3, hfz8_0, hfz8_1, hfz8_2, hfz8_3⟩ := bf4_ BK1018.out))
 have H := HP3.out
 clear HP3
 by_cases c9 : a0_0 = a1_0
 ·rw [if_pos c9] at H
  have c9b0 : (a0_0 == a1_0) = true := beq_iff_eq.mpr c9
  have c9b1 : (a0_0 != a1_0) = false := bne_eq_false_iff_eq.mpr c9
  clear c9
  (first | rw [c9b0] | (simp only [i64_w, i32_w]; rw [c9b0]) | skip)
  replace H := Option.bind_eq_some_iff.mp H
  obtain ⟨t1019, A100, H⟩ := H
  try dsimp only at H
  have A10 := sd_ A100
  clear A100
  by_cases c11 : t1019 = true
  ·subst c11
   have H1 : ((laws_eqIntS.f k l0_2 l1_2).bind fun t1020 => (if t1020 = true then ((laws_eqBoolS.f k l0_3 l1_3).bind fun t1021 => (if t1021 = true then (some true) else (some false))) else (some false))) = some r := by rw [if_pos rfl] at H; exact H
   clear H
   have H := H1
   clear H1
   replace H := Option.bind_eq_some_iff.mp H
   obtain ⟨t1020, A120, H⟩ := H
   try dsimp only at H
   have A12 := sd_ A120
   clear A120
   by_cases c13 : t1020 = true
   ·subst c13
    have H1 : ((laws_eqBoolS.f k l0_3 l1_3).bind fun t1021 => (if t1021 = true then (some true) else (some false))) = some r := by rw [if_pos rfl] at H; exact H
    clear H
    have H := H1
    clear H1
    replace H := Option.bind_eq_some_iff.mp H
    obtain ⟨t1021, A140, H⟩ := H
    try dsimp only at H
    have A14 := sd_ A140
    clear A140
    by_cases c15 : t1021 = true
    ·subst c15
     have H1 : (some true) = some r := by rw [if_pos rfl] at H; exact H
     clear H
     have H := H1
     clear H1
     obtain rfl := Option.some.inj H
     have hnb16 := NB1017_1018.out
     have hnc16 := NB1018_1017.out
     obtain ⟨hcz17_0, hcz17_1, hcz17_2, hcz17_3, hfz17_0, hfz17_1, hfz17_2, hfz17_3⟩ := bf4_ BK1017.out
     obtain ⟨hcz18_0, hcz18_1, hcz18_2, hcz18_3, hfz18_0, hfz18_1, hfz18_2, hfz18_3⟩ := bf4_ BK1018.out
     go_wp2_with (first | ((with_reducible refine gate_callee (f := 84) rfl ?_); refine goesL_ (some 14) rfl rfl Try.func84 (by kernel_rfl) rfl #[.slice A0_1 l0_1.length c0_1, .slice A1_1 l1_1.length c1_1] rfl la_ ?_; (with_reducible refine (laws_eqIntS.calls k _ _ l0_1 _ _ l1_1 true _ (kc_ HR0_1.out HB.out) HC0_1.out (kc_ HR1_1.out HB.out) HC1_1.out A10.out).mono ?_); rintro e w' ⟨rfl, ⟨nd, rfl⟩⟩; refine ⟨_, rfl, ?_⟩) | ((with_reducible refine gate_callee (f := 84) rfl ?_); refine goesL_ (some 20) rfl rfl Try.func84 (by kernel_rfl) rfl #[.slice A0_2 l0_2.length c0_2, .slice A1_2 l1_2.length c1_2] rfl la_ ?_; (with_reducible refine (laws_eqIntS.calls k _ _ l0_2 _ _ l1_2 true _ ?side1 ?side2 ?side3 ?side4 A12.out).mono ?_); (case side1 => repeat (first | exact (Kd.C_below HR0_2.out (bw2_ HB.out GE1017.out GE1018.out)) | (with_reducible refine Kd.C_alloc ?_ _) | (with_reducible refine Kd.C_drewN ?_ _) | (with_reducible refine Kd.C_drew ?_))); (case side2 => exact HC0_2.out); (case side3 => repeat (first | exact (Kd.C_below HR1_2.out (bw2_ HB.out GE1017.out GE1018.out)) | (with_reducible refine Kd.C_alloc ?_ _) | (with_reducible refine Kd.C_drewN ?_ _) | (with_reducible refine Kd.C_drew ?_))); (case side4 => exact HC1_2.out); rintro e w' ⟨rfl, ⟨nd, rfl⟩⟩; refine ⟨_, rfl, ?_⟩) | ((with_reducible refine gate_callee (f := 85) rfl ?_); refine goesL_ (some 26) rfl rfl Try.func85 (by kernel_rfl) rfl #[.slice A0_3 l0_3.length c0_3, .slice A1_3 l1_3.length c1_3] rfl la_ ?_; (with_reducible refine (laws_eqBoolS.calls k _ _ l0_3 _ _ l1_3 true _ ?side1 ?side2 ?side3 ?side4 A14.out).mono ?_); (case side1 => repeat (first | exact (Kd.C_below HR0_3.out (bw2_ HB.out GE1017.out GE1018.out)) | (with_reducible refine Kd.C_alloc ?_ _) | (with_reducible refine Kd.C_drewN ?_ _) | (with_reducible refine Kd.C_drew ?_))); (case side2 => exact HC0_3.out); (case side3 => repeat (first | exact (Kd.C_below HR1_3.out (bw2_ HB.out GE1017.out GE1018.out)) | (with_reducible refine Kd.C_alloc ?_ _) | (with_reducible refine Kd.C_drewN ?_ _) | (with_reducible refine Kd.C_drew ?_))); (case side4 => exact HC1_3.out); rintro e w' ⟨rfl, ⟨nd, rfl⟩⟩; refine ⟨_, rfl, ?_⟩))
     go_ret
     exact ⟨an_, bw2_ HB.out GE1017.out GE1018.out⟩
    ·replace c15 := Bool.eq_false_iff.mpr c15
     subst c15
     have H1 : (some false) = some r := by rw [if_neg (show ¬ (false = true) by decide)] at H; exact H
     clear H
     have H := H1
     clear H1
     obtain rfl := Option.some.inj H
     have hnb19 := NB1017_1018.out
     have hnc19 := NB1018_1017.out
     obtain ⟨hcz20_0, hcz20_1, hcz20_2, hcz20_3, hfz20_0, hfz20_1, hfz20_2, hfz20_3⟩ := bf4_ BK1017.out
     obtain ⟨hcz21_0, hcz21_1, hcz21_2, hcz21_3, hfz21_0, hfz21_1, hfz21_2, hfz21_3⟩ := bf4_ BK1018.out
     go_wp2_with (first | ((with_reducible refine gate_callee (f := 84) rfl ?_); refine goesL_ (some 14) rfl rfl Try.func84 (by kernel_rfl) rfl #[.slice A0_1 l0_1.length c0_1, .slice A1_1 l1_1.length c1_1] rfl la_ ?_; (with_reducible refine (laws_eqIntS.calls k _ _ l0_1 _ _ l1_1 true _ (kc_ HR0_1.out HB.out) HC0_1.out (kc_ HR1_1.out HB.out) HC1_1.out A10.out).mono ?_); rintro e w' ⟨rfl, ⟨nd, rfl⟩⟩; refine ⟨_, rfl, ?_⟩) | ((with_reducible refine gate_callee (f := 84) rfl ?_); refine goesL_ (some 20) rfl rfl Try.func84 (by kernel_rfl) rfl #[.slice A0_2 l0_2.length c0_2, .slice A1_2 l1_2.length c1_2] rfl la_ ?_; (with_reducible refine (laws_eqIntS.calls k _ _ l0_2 _ _ l1_2 true _ ?side1 ?side2 ?side3 ?side4 A12.out).mono ?_); (case side1 => repeat (first | exact (Kd.C_below HR0_2.out (bw2_ HB.out GE1017.out GE1018.out)) | (with_reducible refine Kd.C_alloc ?_ _) | (with_reducible refine Kd.C_drewN ?_ _) | (with_reducible refine Kd.C_drew ?_))); (case side2 => exact HC0_2.out); (case side3 => repeat (first | exact (Kd.C_below HR1_2.out (bw2_ HB.out GE1017.out GE1018.out)) | (with_reducible refine Kd.C_alloc ?_ _) | (with_reducible refine Kd.C_drewN ?_ _) | (with_reducible refine Kd.C_drew ?_))); (case side4 => exact HC1_2.out); rintro e w' ⟨rfl, ⟨nd, rfl⟩⟩; refine ⟨_, rfl, ?_⟩) | ((with_reducible refine gate_callee (f := 85) rfl ?_); refine goesL_ (some 26) rfl rfl Try.func85 (by kernel_rfl) rfl #[.slice A0_3 l0_3.length c0_3, .slice A1_3 l1_3.length c1_3] rfl la_ ?_; (with_reducible refine (laws_eqBoolS.calls k _ _ l0_3 _ _ l1_3 false _ ?side1 ?side2 ?side3 ?side4 A14.out).mono ?_); (case side1 => repeat (first | exact (Kd.C_below HR0_3.out (bw2_ HB.out GE1017.out GE1018.out)) | (with_reducible refine Kd.C_alloc ?_ _) | (with_reducible refine Kd.C_drewN ?_ _) | (with_reducible refine Kd.C_drew ?_))); (case side2 => exact HC0_3.out); (case side3 => repeat (first | exact (Kd.C_below HR1_3.out (bw2_ HB.out GE1017.out GE1018.out)) | (with_reducible refine Kd.C_alloc ?_ _) | (with_reducible refine Kd.C_drewN ?_ _) | (with_reducible refine Kd.C_drew ?_))); (case side4 => exact HC1_3.out); rintro e w' ⟨rfl, ⟨nd, rfl⟩⟩; refine ⟨_, rfl, ?_⟩))
     go_ret
     exact ⟨an_, bw2_ HB.out GE1017.out GE1018.out⟩
   ·replace c13 := Bool.eq_false_iff.mpr c13
    subst c13
    have H1 : (some false) = some r := by rw [if_neg (show ¬ (false = true) by decide)] at H; exact H
    clear H
    have H := H1
    clear H1
    obtain rfl := Option.some.inj H
    have hnb22 := NB1017_1018.out
    have hnc22 := NB1018_1017.out
    obtain ⟨hcz23_0, hcz23_1, hcz23_2, hcz23_3, hfz23_0, hfz23_1, hfz23_2, hfz23_3⟩ := bf4_ BK1017.out
    obtain ⟨hcz24_0, hcz24_1, hcz24_2, hcz24_3, hfz24_0, hfz24_1, hfz24_2, hfz24_3⟩ := bf4_ BK1018.out
    go_wp2_with (first | ((with_reducible refine gate_callee (f := 84) rfl ?_); refine goesL_ (some 14) rfl rfl Try.func84 (by kernel_rfl) rfl #[.slice A0_1 l0_1.length c0_1, .slice A1_1 l1_1.length c1_1] rfl la_ ?_; (with_reducible refine (laws_eqIntS.calls k _ _ l0_1 _ _ l1_1 true _ (kc_ HR0_1.out HB.out) HC0_1.out (kc_ HR1_1.out HB.out) HC1_1.out A10.out).mono ?_); rintro e w' ⟨rfl, ⟨nd, rfl⟩⟩; refine ⟨_, rfl, ?_⟩) | ((with_reducible refine gate_callee (f := 84) rfl ?_); refine goesL_ (some 20) rfl rfl Try.func84 (by kernel_rfl) rfl #[.slice A0_2 l0_2.length c0_2, .slice A1_2 l1_2.length c1_2] rfl la_ ?_; (with_reducible refine (laws_eqIntS.calls k _ _ l0_2 _ _ l1_2 false _ ?side1 ?side2 ?side3 ?side4 A12.out).mono ?_); (case side1 => repeat (first | exact (Kd.C_below HR0_2.out (bw2_ HB.out GE1017.out GE1018.out)) | (with_reducible refine Kd.C_alloc ?_ _) | (with_reducible refine Kd.C_drewN ?_ _) | (with_reducible refine Kd.C_drew ?_))); (case side2 => exact HC0_2.out); (case side3 => repeat (first | exact (Kd.C_below HR1_2.out (bw2_ HB.out GE1017.out GE1018.out)) | (with_reducible refine Kd.C_alloc ?_ _) | (with_reducible refine Kd.C_drewN ?_ _) | (with_reducible refine Kd.C_drew ?_))); (case side4 => exact HC1_2.out); rintro e w' ⟨rfl, ⟨nd, rfl⟩⟩; refine ⟨_, rfl, ?_⟩))
    go_ret
    exact ⟨an_, bw2_ HB.out GE1017.out GE1018.out⟩
  ·replace c11 := Bool.eq_false_iff.mpr c11
   subst c11
   have H1 : (some false) = some r := by rw [if_neg (show ¬ (false = true) by decide)] at H; exact H
   clear H
   have H := H1
   clear H1
   obtain rfl := Option.some.inj H
   have hnb25 := NB1017_1018.out
   have hnc25 := NB1018_1017.out
   obtain ⟨hcz26_0, hcz26_1, hcz26_2, hcz26_3, hfz26_0, hfz26_1, hfz26_2, hfz26_3⟩ := bf4_ BK1017.out
   obtain ⟨hcz27_0, hcz27_1, hcz27_2, hcz27_3, hfz27_0, hfz27_1, hfz27_2, hfz27_3⟩ := bf4_ BK1018.out
   go_wp2_with (first | ((with_reducible refine gate_callee (f := 84) rfl ?_); refine goesL_ (some 14) rfl rfl Try.func84 (by kernel_rfl) rfl #[.slice A0_1 l0_1.length c0_1, .slice A1_1 l1_1.length c1_1] rfl la_ ?_; (with_reducible refine (laws_eqIntS.calls k _ _ l0_1 _ _ l1_1 false _ (kc_ HR0_1.out HB.out) HC0_1.out (kc_ HR1_1.out HB.out) HC1_1.out A10.out).mono ?_); rintro e w' ⟨rfl, ⟨nd, rfl⟩⟩; refine ⟨_, rfl, ?_⟩))
   go_ret
   exact ⟨an_, bw2_ HB.out GE1017.out GE1018.out⟩
 ·rw [if_neg c9] at H
  have c9b0 : (a0_0 == a1_0) = false := beq_eq_false_iff_ne.mpr c9
  have c9b1 : (a0_0 != a1_0) = true := bne_iff_ne.mpr c9
  (first | rw [c9b0] | (simp only [i64_w, i32_w]; rw [c9b0]) | skip)
  obtain rfl := Option.some.inj H
  go_wp2
  go_ret
  exact ⟨an_, bw2_ HB.out GE1017.out GE1018.out⟩


/-! ### spec_l1Add: function 88 -/
def spec_l1Add.f (a0_0 : Int) (l0_1 : List Int) (l0_2 : List Int) (l0_3 : List Bool) (a1 : Int) (a2 : Int) : Option (Int) := if 0 ≤ (wrap64 ((wrap64 (a1 * a0_0)) + a2)) then (if (wrap64 ((wrap64 (a1 * a0_0)) + a2)) < (l0_1.length : Int) then (some (rd l0_1 (wrap64 ((wrap64 (a1 * a0_0)) + a2)))) else (none)) else (none)
set_option maxHeartbeats 8000000 in
set_option maxRecDepth 100000 in
theorem spec_l1Add.calls (a0_0 : Int) (A0_1 : Option Addr) (c0_1 : Nat) (l0_1 : List Int) (A0_2 : Option Addr) (c0_2 : Nat) (l0_2 : List Int) (A0_3 : Option Addr) (c0_3 : Nat) (l0_3 : List Bool) (a1 : Int) (a2 : Int) (r : Int) (w : World) (hr0_1 : Kd.C (Kd.int .i64) w A0_1 l0_1.length l0_1) (hc0_1 : l0_1.length ≤ c0_1) (hr0_2 : Kd.C (Kd.int .i64) w A0_2 l0_2.length l0_2) (hc0_2 : l0_2.length ≤ c0_2) (hr0_3 : Kd.C Kd.bool w A0_3 l0_3.length l0_3) (hc0_3 : l0_3.length ≤ c0_3) (h : spec_l1Add.f a0_0 l0_1 l0_2 l0_3 a1 a2 = some r) :
  Calls Try.prog 88 #[.agg #[.int .i64 a0_0, .slice A0_1 l0_1.length c0_1, .slice A0_2 l0_2.length c0_2, .slice A0_3 l0_3.length c0_3], .int .i64 a1, .int .i64 a2] w fun e w' => e = .returned (.int .i64 r) ∧ Below w.heap.size w w' := by
 have hu27 := Try.underlying27
 have HR0_1 := sd_ hr0_1
 have HC0_1 := sd_ hc0_1
 clear hr0_1 hc0_1
 have HR0_2 := sd_ hr0_2
 have HC0_2 := sd_ hc0_2
 clear hr0_2 hc0_2
 have HR0_3 := sd_ hr0_3
 have HC0_3 := sd_ hc0_3
 clear hr0_3 hc0_3
 have HB := sd_ (Below.refl w.heap.size w)
 have H : (if 0 ≤ (wrap64 ((wrap64 (a1 * a0_0)) + a2)) then (if (wrap64 ((wrap64 (a1 * a0_0)) + a2)) < (l0_1.length : Int) then (some (rd l0_1 (wrap64 ((wrap64 (a1 * a0_0)) + a2)))) else (none)) else (none)) = some r := h
 clear h
 obtain ⟨ji4, hji4⟩ : ∃ j_ : Int, (wrap64 ((wrap64 (a1 * a0_0)) + a2)) = j_ := ⟨_, rfl⟩
 replace H : (if 0 ≤ (ji4) then (if (ji4) < (l0_1.length : Int) then (some (rd l0_1 (ji4))) else (none)) else (none)) = some r := by first | (rw [hji4] at H; exact H) | (simp only [hji4] at H ⊢; exact H)
 have hji4w : (IntKind.i64.wrap ((wrap64 (a1 * a0_0)) + a2)) = ji4 := (i64_w _).trans hji4
 by_cases c5 : 0 ≤ (ji4)
 ·rw [if_pos c5] at H
  have c5b0 : decide (0 ≤ (ji4)) = true := decide_eq_true c5
  clear c5
  by_cases c6 : (ji4) < (l0_1.length : Int)
  ·rw [if_pos c6] at H
   have c6b0 : decide ((ji4) < (l0_1.length : Int)) = true := decide_eq_true c6
   clear c6
   obtain rfl := Option.some.inj H
   go_enter Try.func88, Try.ntmps88
   go_wp2_with (first | ((with_reducible refine gate_dst (N := 3) rfl ?_); refine bx_ (N := 3) (cs := #[.int .i64 a0_0, .slice A0_1 l0_1.length c0_1, .slice A0_2 l0_2.length c0_2, .slice A0_3 l0_3.length c0_3]) (t := 27) ?_; intro gb407 hg w7 hbox hb; have BK407 := sd_ (hbox); have GW407 := sd_ (gs_ hg (bw0_ HB.out)); have GE407 := sd_ (gs_ hg (bw0_ HB.out)); replace HB := sd_ (below_step (bw0_ HB.out) hb); clear hb hbox hg; obtain ⟨hcz8_0, hcz8_1, hcz8_2, hcz8_3, hfz8_0, hfz8_1, hfz8_2, hfz8_3⟩ := bf4_ BK407.out; have p408 : 0 ≤ ((ji4) : Int) := dt_; have q408 : (ji4) < (l0_1.length : Int) := dt_; obtain ⟨ad408, e408, hx408_0⟩ := Kd.at_int HR0_1.out (ji4) p408 q408; cases e408; replace hx408_0 := (HB.out.cell (World.block_lt_of_cell? w _ hx408_0)).trans hx408_0; replace p408 := eq_true p408; replace q408 := eq_true q408))
   go_ret
   exact ⟨by first | rfl | (simp [errW_none, errW_some] <;> rfl) | (simp only [← hji4]; first | rfl | (simp [errW_none, errW_some] <;> rfl)) | (simp [*, errW_none, errW_some] <;> rfl), bw1_ HB.out GE407.out⟩
  ·rw [if_neg c6] at H
   exact absurd H (by simp)
 ·rw [if_neg c5] at H
  exact absurd H (by simp)


/-! ### spec_l1Mul: function 89 -/
def spec_l1Mul.f (a0_0 : Int) (l0_1 : List Int) (l0_2 : List Int) (l0_3 : List Bool) (a1 : Int) (a2 : Int) : Option (Int) := if 0 ≤ (wrap64 ((wrap64 (a1 * a0_0)) + a2)) then (if (wrap64 ((wrap64 (a1 * a0_0)) + a2)) < (l0_2.length : Int) then (some (rd l0_2 (wrap64 ((wrap64 (a1 * a0_0)) + a2)))) else (none)) else (none)
set_option maxHeartbeats 8000000 in
set_option maxRecDepth 100000 in
theorem spec_l1Mul.calls (a0_0 : Int) (A0_1 : Option Addr) (c0_1 : Nat) (l0_1 : List Int) (A0_2 : Option Addr) (c0_2 : Nat) (l0_2 : List Int) (A0_3 : Option Addr) (c0_3 : Nat) (l0_3 : List Bool) (a1 : Int) (a2 : Int) (r : Int) (w : World) (hr0_1 : Kd.C (Kd.int .i64) w A0_1 l0_1.length l0_1) (hc0_1 : l0_1.length ≤ c0_1) (hr0_2 : Kd.C (Kd.int .i64) w A0_2 l0_2.length l0_2) (hc0_2 : l0_2.length ≤ c0_2) (hr0_3 : Kd.C Kd.bool w A0_3 l0_3.length l0_3) (hc0_3 : l0_3.length ≤ c0_3) (h : spec_l1Mul.f a0_0 l0_1 l0_2 l0_3 a1 a2 = some r) :
  Calls Try.prog 89 #[.agg #[.int .i64 a0_0, .slice A0_1 l0_1.length c0_1, .slice A0_2 l0_2.length c0_2, .slice A0_3 l0_3.length c0_3], .int .i64 a1, .int .i64 a2] w fun e w' => e = .returned (.int .i64 r) ∧ Below w.heap.size w w' := by
 have hu27 := Try.underlying27
 have HR0_1 := sd_ hr0_1
 have HC0_1 := sd_ hc0_1
 clear hr0_1 hc0_1
 have HR0_2 := sd_ hr0_2
 have HC0_2 := sd_ hc0_2
 clear hr0_2 hc0_2
 have HR0_3 := sd_ hr0_3
 have HC0_3 := sd_ hc0_3
 clear hr0_3 hc0_3
 have HB := sd_ (Below.refl w.heap.size w)
 have H : (if 0 ≤ (wrap64 ((wrap64 (a1 * a0_0)) + a2)) then (if (wrap64 ((wrap64 (a1 * a0_0)) + a2)) < (l0_2.length : Int) then (some (rd l0_2 (wrap64 ((wrap64 (a1 * a0_0)) + a2)))) else (none)) else (none)) = some r := h
 clear h
 obtain ⟨ji4, hji4⟩ : ∃ j_ : Int, (wrap64 ((wrap64 (a1 * a0_0)) + a2)) = j_ := ⟨_, rfl⟩
 replace H : (if 0 ≤ (ji4) then (if (ji4) < (l0_2.length : Int) then (some (rd l0_2 (ji4))) else (none)) else (none)) = some r := by first | (rw [hji4] at H; exact H) | (simp only [hji4] at H ⊢; exact H)
 have hji4w : (IntKind.i64.wrap ((wrap64 (a1 * a0_0)) + a2)) = ji4 := (i64_w _).trans hji4
 by_cases c5 : 0 ≤ (ji4)
 ·rw [if_pos c5] at H
  have c5b0 : decide (0 ≤ (ji4)) = true := decide_eq_true c5
  clear c5
  by_cases c6 : (ji4) < (l0_2.length : Int)
  ·rw [if_pos c6] at H
   have c6b0 : decide ((ji4) < (l0_2.length : Int)) = true := decide_eq_true c6
   clear c6
   obtain rfl := Option.some.inj H
   go_enter Try.func89, Try.ntmps89
   go_wp2_with (first | ((with_reducible refine gate_dst (N := 3) rfl ?_); refine bx_ (N := 3) (cs := #[.int .i64 a0_0, .slice A0_1 l0_1.length c0_1, .slice A0_2 l0_2.length c0_2, .slice A0_3 l0_3.length c0_3]) (t := 27) ?_; intro gb409 hg w7 hbox hb; have BK409 := sd_ (hbox); have GW409 := sd_ (gs_ hg (bw0_ HB.out)); have GE409 := sd_ (gs_ hg (bw0_ HB.out)); replace HB := sd_ (below_step (bw0_ HB.out) hb); clear hb hbox hg; obtain ⟨hcz8_0, hcz8_1, hcz8_2, hcz8_3, hfz8_0, hfz8_1, hfz8_2, hfz8_3⟩ := bf4_ BK409.out; have p410 : 0 ≤ ((ji4) : Int) := dt_; have q410 : (ji4) < (l0_2.length : Int) := dt_; obtain ⟨ad410, e410, hx410_0⟩ := Kd.at_int HR0_2.out (ji4) p410 q410; cases e410; replace hx410_0 := (HB.out.cell (World.block_lt_of_cell? w _ hx410_0)).trans hx410_0; replace p410 := eq_true p410; replace q410 := eq_true q410))
   go_ret
   exact ⟨by first | rfl | (simp [errW_none, errW_some] <;> rfl) | (simp only [← hji4]; first | rfl | (simp [errW_none, errW_some] <;> rfl)) | (simp [*, errW_none, errW_some] <;> rfl), bw1_ HB.out GE409.out⟩
  ·rw [if_neg c6] at H
   exact absurd H (by simp)
 ·rw [if_neg c5] at H
  exact absurd H (by simp)


/-! ### spec_l1Le: function 90 -/
def spec_l1Le.f (a0_0 : Int) (l0_1 : List Int) (l0_2 : List Int) (l0_3 : List Bool) (a1 : Int) (a2 : Int) : Option (Bool) := if 0 ≤ (wrap64 ((wrap64 (a1 * a0_0)) + a2)) then (if (wrap64 ((wrap64 (a1 * a0_0)) + a2)) < (l0_3.length : Int) then (some (rdOf false l0_3 (wrap64 ((wrap64 (a1 * a0_0)) + a2)))) else (none)) else (none)
set_option maxHeartbeats 8000000 in
set_option maxRecDepth 100000 in
theorem spec_l1Le.calls (a0_0 : Int) (A0_1 : Option Addr) (c0_1 : Nat) (l0_1 : List Int) (A0_2 : Option Addr) (c0_2 : Nat) (l0_2 : List Int) (A0_3 : Option Addr) (c0_3 : Nat) (l0_3 : List Bool) (a1 : Int) (a2 : Int) (r : Bool) (w : World) (hr0_1 : Kd.C (Kd.int .i64) w A0_1 l0_1.length l0_1) (hc0_1 : l0_1.length ≤ c0_1) (hr0_2 : Kd.C (Kd.int .i64) w A0_2 l0_2.length l0_2) (hc0_2 : l0_2.length ≤ c0_2) (hr0_3 : Kd.C Kd.bool w A0_3 l0_3.length l0_3) (hc0_3 : l0_3.length ≤ c0_3) (h : spec_l1Le.f a0_0 l0_1 l0_2 l0_3 a1 a2 = some r) :
  Calls Try.prog 90 #[.agg #[.int .i64 a0_0, .slice A0_1 l0_1.length c0_1, .slice A0_2 l0_2.length c0_2, .slice A0_3 l0_3.length c0_3], .int .i64 a1, .int .i64 a2] w fun e w' => e = .returned (.bool r) ∧ Below w.heap.size w w' := by
 have hu27 := Try.underlying27
 have HR0_1 := sd_ hr0_1
 have HC0_1 := sd_ hc0_1
 clear hr0_1 hc0_1
 have HR0_2 := sd_ hr0_2
 have HC0_2 := sd_ hc0_2
 clear hr0_2 hc0_2
 have HR0_3 := sd_ hr0_3
 have HC0_3 := sd_ hc0_3
 clear hr0_3 hc0_3
 have HB := sd_ (Below.refl w.heap.size w)
 have H : (if 0 ≤ (wrap64 ((wrap64 (a1 * a0_0)) + a2)) then (if (wrap64 ((wrap64 (a1 * a0_0)) + a2)) < (l0_3.length : Int) then (some (rdOf false l0_3 (wrap64 ((wrap64 (a1 * a0_0)) + a2)))) else (none)) else (none)) = some r := h
 clear h
 obtain ⟨ji4, hji4⟩ : ∃ j_ : Int, (wrap64 ((wrap64 (a1 * a0_0)) + a2)) = j_ := ⟨_, rfl⟩
 replace H : (if 0 ≤ (ji4) then (if (ji4) < (l0_3.length : Int) then (some (rdOf false l0_3 (ji4))) else (none)) else (none)) = some r := by first | (rw [hji4] at H; exact H) | (simp only [hji4] at H ⊢; exact H)
 have hji4w : (IntKind.i64.wrap ((wrap64 (a1 * a0_0)) + a2)) = ji4 := (i64_w _).trans hji4
 by_cases c5 : 0 ≤ (ji4)
 ·rw [if_pos c5] at H
  have c5b0 : decide (0 ≤ (ji4)) = true := decide_eq_true c5
  clear c5
  by_cases c6 : (ji4) < (l0_3.length : Int)
  ·rw [if_pos c6] at H
   have c6b0 : decide ((ji4) < (l0_3.length : Int)) = true := decide_eq_true c6
   clear c6
   obtain rfl := Option.some.inj H
   go_enter Try.func90, Try.ntmps90
   go_wp2_with (first | ((with_reducible refine gate_dst (N := 3) rfl ?_); refine bx_ (N := 3) (cs := #[.int .i64 a0_0, .slice A0_1 l0_1.length c0_1, .slice A0_2 l0_2.length c0_2, .slice A0_3 l0_3.length c0_3]) (t := 27) ?_; intro gb411 hg w7 hbox hb; have BK411 := sd_ (hbox); have GW411 := sd_ (gs_ hg (bw0_ HB.out)); have GE411 := sd_ (gs_ hg (bw0_ HB.out)); replace HB := sd_ (below_step (bw0_ HB.out) hb); clear hb hbox hg; obtain ⟨hcz8_0, hcz8_1, hcz8_2, hcz8_3, hfz8_0, hfz8_1, hfz8_2, hfz8_3⟩ := bf4_ BK411.out; have p412 : 0 ≤ ((ji4) : Int) := dt_; have q412 : (ji4) < (l0_3.length : Int) := dt_; obtain ⟨ad412, e412, hx412_0⟩ := Kd.at_bool HR0_3.out (ji4) p412 q412; cases e412; replace hx412_0 := (HB.out.cell (World.block_lt_of_cell? w _ hx412_0)).trans hx412_0; replace p412 := eq_true p412; replace q412 := eq_true q412))
   go_ret
   exact ⟨by first | rfl | (simp [errW_none, errW_some] <;> rfl) | (simp only [← hji4]; first | rfl | (simp [errW_none, errW_some] <;> rfl)) | (simp [*, errW_none, errW_some] <;> rfl), bw1_ HB.out GE411.out⟩
  ·rw [if_neg c6] at H
   exact absurd H (by simp)
 ·rw [if_neg c5] at H
  exact absurd H (by simp)


/-! ### impl_counted_2: function 122 -/
def impl_counted_2.j0 : Nat → Int → Int → Bool → Int → Option (Int)
 | 0, _, _, _, _ => none
 | k + 1, x0, x1, x6, x3000 => if x6 = true then (some 0) else (if x0 = x3000 then (some x3000) else (if x1 = x3000 then (some x3000) else (some (mn (wrap64 (x0 * x1)) x3000))))
def impl_counted_2.f (k : Nat) (a0 : Int) (a1 : Int) (a2_0 : Int) : Option (Int) := if a0 = 0 then (impl_counted_2.j0 k a0 a1 true a2_0) else (impl_counted_2.j0 k a0 a1 (a1 == 0) a2_0)
set_option maxHeartbeats 8000000 in
set_option maxRecDepth 100000 in
theorem impl_counted_2.calls (k : Nat) (a0 : Int) (a1 : Int) (g2 : Nat) (a2_0 : Int) (r : Int) (w : World) (hb2 : w.heap[g2]? = some (.cells #[.int .i64 a2_0] 3 (0, 0))) (h : impl_counted_2.f k a0 a1 a2_0 = some r) :
  Calls Try.prog 122 #[.int .i64 a0, .int .i64 a1, .pointer (some ⟨g2, 0, none⟩)] w fun e w' => e = .returned (.int .i64 r) ∧ Below w.heap.size w w' := by
 have BK2 := sd_ hb2
 clear hb2
 have HB := sd_ (Below.refl w.heap.size w)
 have H : (if a0 = 0 then (impl_counted_2.j0 k a0 a1 true a2_0) else (impl_counted_2.j0 k a0 a1 (a1 == 0) a2_0)) = some r := h
 clear h
 have HC4 := sd_ H
 clear H
 go_enter Try.func122, Try.ntmps122
 go_upto_region 1 with (fail)
 go_cut [6] (fun v6 wc => ∃ (kq : Nat) (x6_3 : Bool), v6 = .bool x6_3 ∧ Aside0 (impl_counted_2.j0 kq a0 a1 x6_3 a2_0 = some r) ∧ Aside0 (kq ≤ k) ∧ Aside0 (wc.heap[g2]? = some (.cells #[.int .i64 a2_0] 3 (0, 0))) ∧ Aside0 (Below w.heap.size w wc))
 case first =>
  have H := HC4.out
  clear HC4
  by_cases c5 : a0 = 0
  ·rw [if_pos c5] at H
   have c5b0 : (a0 == 0) = true := beq_iff_eq.mpr c5
   have c5b1 : (a0 != 0) = false := bne_eq_false_iff_eq.mpr c5
   clear c5
   (first | rw [c5b0] | (simp only [i64_w, i32_w]; rw [c5b0]) | skip)
   have H' := sd_ H
   clear H
   go_wp2
   go_meet
   case rel => exact ⟨_, (true), sm_, H', ⟨by first | omega | exact Nat.le_refl _⟩, ⟨by (with_reducible repeat (first | refine blk_drewN ?_ _ | refine blk_drew ?_ | refine blk_alloc ?_ _)); exact BK2.out⟩, ⟨bw0_ HB.out⟩⟩
  ·rw [if_neg c5] at H
   have c5b0 : (a0 == 0) = false := beq_eq_false_iff_ne.mpr c5
   have c5b1 : (a0 != 0) = true := bne_iff_ne.mpr c5
   (first | rw [c5b0] | (simp only [i64_w, i32_w]; rw [c5b0]) | skip)
   have H' := sd_ H
   clear H
   go_wp2
   go_meet
   case rel => exact ⟨_, ((a1 == 0)), sm_, H', ⟨by first | omega | exact Nat.le_refl _⟩, ⟨by (with_reducible repeat (first | refine blk_drewN ?_ _ | refine blk_drew ?_ | refine blk_alloc ?_ _)); exact BK2.out⟩, ⟨bw0_ HB.out⟩⟩
 case rest =>
  clear HC4
  try clear c1
  obtain ⟨kq, x6_3, rfl, HA, HJ3, BK2, HB⟩ := hcut
  cases kq with
  | zero => exact absurd HA.out (by simp [impl_counted_2.j0])
  | succ kj3 =>
   have H := HA.out
   clear HA
   simp only [impl_counted_2.j0] at H
   by_cases c6 : x6_3 = true
   ·subst c6
    have H1 : (some 0) = some r := by rw [if_pos rfl] at H; exact H
    clear H
    have H := H1
    clear H1
    obtain rfl := Option.some.inj H
    go_wp2
    go_ret
    exact ⟨an_, bw0_ HB.out⟩
   ·replace c6 := Bool.eq_false_iff.mpr c6
    subst c6
    have H1 : (if a0 = a2_0 then (some a2_0) else (if a1 = a2_0 then (some a2_0) else (some (mn (wrap64 (a0 * a1)) a2_0)))) = some r := by rw [if_neg (show ¬ (false = true) by decide)] at H; exact H
    clear H
    have H := H1
    clear H1
    by_cases c7 : a0 = a2_0
    ·rw [if_pos c7] at H
     have c7b0 : (a0 == a2_0) = true := beq_iff_eq.mpr c7
     have c7b1 : (a0 != a2_0) = false := bne_eq_false_iff_eq.mpr c7
     clear c7
     obtain rfl := Option.some.inj H
     have hcz8_0 : wc.cell? ⟨g2, 0, none⟩ = some (.int .i64 a2_0) := (blk_cell BK2.out 0).trans rfl
     have hfz8_0 := blk_frozen BK2.out 0
     go_wp2
     go_ret
     exact ⟨an_, bw0_ HB.out⟩
    ·rw [if_neg c7] at H
     have c7b0 : (a0 == a2_0) = false := beq_eq_false_iff_ne.mpr c7
     have c7b1 : (a0 != a2_0) = true := bne_iff_ne.mpr c7
     by_cases c9 : a1 = a2_0
     ·rw [if_pos c9] at H
      have c9b0 : (a1 == a2_0) = true := beq_iff_eq.mpr c9
      have c9b1 : (a1 != a2_0) = false := bne_eq_false_iff_eq.mpr c9
      clear c9
      obtain rfl := Option.some.inj H
      have hcz10_0 : wc.cell? ⟨g2, 0, none⟩ = some (.int .i64 a2_0) := (blk_cell BK2.out 0).trans rfl
      have hfz10_0 := blk_frozen BK2.out 0
      go_wp2
      go_ret
      exact ⟨an_, bw0_ HB.out⟩
     ·rw [if_neg c9] at H
      have c9b0 : (a1 == a2_0) = false := beq_eq_false_iff_ne.mpr c9
      have c9b1 : (a1 != a2_0) = true := bne_iff_ne.mpr c9
      obtain ⟨ji11, hji11⟩ : ∃ j_ : Int, (mn (wrap64 (a0 * a1)) a2_0) = j_ := ⟨_, rfl⟩
      replace H : (some ji11) = some r := by first | (rw [hji11] at H; exact H) | (simp only [hji11] at H ⊢; exact H)
      have hji11_ : (if a2_0 < (wrap64 (a0 * a1)) then a2_0 else (wrap64 (a0 * a1))) = ji11 := hji11
      obtain rfl := Option.some.inj H
      have hcz12_0 : wc.cell? ⟨g2, 0, none⟩ = some (.int .i64 a2_0) := (blk_cell BK2.out 0).trans rfl
      have hfz12_0 := blk_frozen BK2.out 0
      go_wp2
      go_ret
      exact ⟨by first | rfl | (simp [errW_none, errW_some] <;> rfl) | (simp only [← hji11]; first | rfl | (simp [errW_none, errW_some] <;> rfl)) | (simp [*, errW_none, errW_some] <;> rfl), bw0_ HB.out⟩


/-! ### impl_counted: function 55 -/
def impl_counted.f (k : Nat) (a0 : Int) (x1 : (Int → Int → Option (Bool))) : Option (Int × List Int × List Int × List Bool) := (impl_tabled.f k (wrap64 (a0 + 2)) (fun z0_ z1_ => impl_counted_1.f z0_ z1_ (wrap64 (a0 + 1))) (fun z0_ z1_ => impl_counted_2.f k z0_ z1_ (wrap64 (a0 + 1))) x1).bind fun bt117 => (some (bt117.1, bt117.2.1, bt117.2.2.1, bt117.2.2.2))
set_option maxHeartbeats 8000000 in
set_option maxRecDepth 100000 in
theorem impl_counted.calls (k : Nat) (a0 : Int) (x1 : (Int → Int → Option (Bool))) (K1_ : Nat) (F1_ C1_ : Array Value) (r1 : Int) (r2 : List Int) (r3 : List Int) (r4 : List Bool) (w : World) (hG1 : OFn K1_) (hF1 : OC64 w x1 K1_ F1_ C1_) (h : impl_counted.f k a0 x1 = some (r1, r2, r3, r4)) :
  Calls Try.prog 55 #[.int .i64 a0, .func (.func K1_) F1_ C1_] w fun e w' => ∃ v1_ v2_ v3_ : Value, e = .returned (.agg #[.int .i64 r1, v1_, v2_, v3_]) ∧ Kd.R (Kd.int .i64) 3 w' w.heap.size (fun k_ => some k_ ≠ (v2_ : Value).ownBlock) v1_ r2 ∧ Kd.R (Kd.int .i64) 3 w' w.heap.size (fun k_ => some k_ ≠ (v1_ : Value).ownBlock) v2_ r3 ∧ Kd.R Kd.bool 4 w' w.heap.size (fun _ => True) v3_ r4 ∧ Below w.heap.size w w' := by
 have hu27 := Try.underlying27
 have HG1 := sd_ hG1
 have HF1 := sd_ hF1
 clear hG1 hF1
 have HB := sd_ (Below.refl w.heap.size w)
 have H : ((impl_tabled.f k (wrap64 (a0 + 2)) (fun z0_ z1_ => impl_counted_1.f z0_ z1_ (wrap64 (a0 + 1))) (fun z0_ z1_ => impl_counted_2.f k z0_ z1_ (wrap64 (a0 + 1))) x1).bind fun bt117 => (some (bt117.1, bt117.2.1, bt117.2.2.1, bt117.2.2.2))) = some (r1, r2, r3, r4) := h
 clear h
 replace H := Option.bind_eq_some_iff.mp H
 obtain ⟨⟨t117, t118, t121, t124⟩, A30, H⟩ := H
 try dsimp only at H
 have A3 := sd_ A30
 clear A30
 simp only [Option.some.injEq, Prod.mk.injEq] at H
 obtain ⟨rfl, rfl, rfl, rfl⟩ := H
 go_enter Try.func55, Try.ntmps55
 go_wp2_with (first | ((with_reducible refine gate_dst (N := 4) rfl ?_); refine bx_ (N := 4) (cs := #[.int .i64 0, .slice none 0 0, .slice none 0 0, .slice none 0 0]) (t := 27) ?_; intro gb115 hg w4 hbox hb; have BK115 := sd_ (hbox); have GW115 := sd_ (gs_ hg (bw0_ HB.out)); have GE115 := sd_ (gs_ hg (bw0_ HB.out)); replace HB := sd_ (below_step (bw0_ HB.out) hb); clear hb hbox hg) | ((with_reducible refine gate_dst (N := 5) rfl ?_); refine bx_ (N := 5) (cs := #[.int .i64 0]) (t := 3) ?_; intro gb116 hg w5 hbox hb; have BK116 := sd_ (hbox); have GW116 := sd_ (gs_ hg (bw1_ HB.out GE115.out)); have GE116 := sd_ (gs_ hg (bw1_ HB.out GE115.out)); replace HB := sd_ (below_step (bw1_ HB.out GE115.out) hb); have NB115_116 := sd_ (nl_ hg (bl_ BK115.out)); have NB116_115 := sd_ (ng_ hg (bl_ BK115.out)); replace BK115 := sd_ (bb_ BK115.out hb); clear hb hbox hg; have hnb6 := NB116_115.out; have hnc6 := NB115_116.out; have hcz7_0 : w5.cell? ⟨gb116, 0, none⟩ = some (.int .i64 0) := (blk_cell BK116.out 0).trans rfl; have hfz7_0 := blk_frozen BK116.out 0) | ((with_reducible refine gate_callee (f := 58) rfl ?_); refine goesL_ (some 17) rfl rfl Try.func58 (by kernel_rfl) rfl #[.int .i64 (wrap64 (a0 + 2)), .func (.func 121) #[] #[.pointer (some ⟨gb116, 0, none⟩)], .func (.func 122) #[] #[.pointer (some ⟨gb116, 0, none⟩)], .func (.func K1_) F1_ C1_] rfl la_ ?_; (with_reducible refine (impl_tabled.calls k (wrap64 (a0 + 2)) (fun z0_ z1_ => impl_counted_1.f z0_ z1_ (wrap64 (a0 + 1))) 121 #[] #[.pointer (some ⟨gb116, 0, none⟩)] (fun z0_ z1_ => impl_counted_2.f k z0_ z1_ (wrap64 (a0 + 1))) 122 #[] #[.pointer (some ⟨gb116, 0, none⟩)] x1 K1_ F1_ C1_ t117 t118 t121 t124 _ ?side1 ?side2 ?side3 ?side4 ?side5 ?side6 A3.out).mono ?_); (case side1 => exact ⟨_, Try.func121, (by kernel_rfl), rfl⟩); (case side2 => intro z0_0 z1_0 rr0_0 w9_0  hb9_0 h9_0; refine calls_of_args (args' := #[.int .i64 z0_0, .int .i64 z1_0, .pointer (some ⟨gb116, 0, none⟩)]) (by first | rfl | simp) ?_; refine (impl_counted_1.calls z0_0 z1_0 gb116 (wrap64 (a0 + 1)) rr0_0 w9_0 (blk_below (by (with_reducible repeat (first | refine blk_drewN ?_ _ | refine blk_drew ?_ | refine blk_alloc ?_ _)); refine blk_put (cs := #[.int .i64 0]) ?_ 0 _ rfl; (with_reducible repeat (first | refine blk_drewN ?_ _ | refine blk_drew ?_ | refine blk_alloc ?_ _)); exact BK116.out) hb9_0) h9_0).mono ?_; exact fun _ _ h_ => h_); (case side3 => exact ⟨_, Try.func122, (by kernel_rfl), rfl⟩); (case side4 => intro z0_0 z1_0 rr0_0 w9_0  hb9_0 h9_0; refine calls_of_args (args' := #[.int .i64 z0_0, .int .i64 z1_0, .pointer (some ⟨gb116, 0, none⟩)]) (by first | rfl | simp) ?_; refine (impl_counted_2.calls k z0_0 z1_0 gb116 (wrap64 (a0 + 1)) rr0_0 w9_0 (blk_below (by (with_reducible repeat (first | refine blk_drewN ?_ _ | refine blk_drew ?_ | refine blk_alloc ?_ _)); refine blk_put (cs := #[.int .i64 0]) ?_ 0 _ rfl; (with_reducible repeat (first | refine blk_drewN ?_ _ | refine blk_drew ?_ | refine blk_alloc ?_ _)); exact BK116.out) hb9_0) h9_0).mono ?_; exact fun _ _ h_ => h_); (case side5 => exact HG1.out); (case side6 => exact OC64.step HF1.out (bw2_ HB.out GE115.out GE116.out)); rintro e w8 ⟨v119, v122, v125, rfl, ho0, ho1, ho2, hb⟩; refine ⟨_, rfl, ?_⟩; have HO120 := sd_ (Kd.R_lower (Kd.R_newB ho0 (g := gb116) (o := .cells #[.int .i64 (wrap64 (a0 + 1))] 3 (0, 0)) (by (with_reducible repeat (first | refine blk_drewN ?_ _ | refine blk_drew ?_ | refine blk_alloc ?_ _)); refine blk_put (cs := #[.int .i64 0]) ?_ 0 _ rfl; (with_reducible repeat (first | refine blk_drewN ?_ _ | refine blk_drew ?_ | refine blk_alloc ?_ _)); exact BK116.out)) (below_size (bw2_ HB.out GE115.out GE116.out))); have HO123 := sd_ (Kd.R_lower (Kd.R_newB ho1 (g := gb116) (o := .cells #[.int .i64 (wrap64 (a0 + 1))] 3 (0, 0)) (by (with_reducible repeat (first | refine blk_drewN ?_ _ | refine blk_drew ?_ | refine blk_alloc ?_ _)); refine blk_put (cs := #[.int .i64 0]) ?_ 0 _ rfl; (with_reducible repeat (first | refine blk_drewN ?_ _ | refine blk_drew ?_ | refine blk_alloc ?_ _)); exact BK116.out)) (below_size (bw2_ HB.out GE115.out GE116.out))); have HO126 := sd_ (Kd.R_lower ho2 (below_size (bw2_ HB.out GE115.out GE116.out))); replace BK115 := sd_ (blk_below (g := gb115) (o := .cells #[.int .i64 0, .slice none 0 0, .slice none 0 0, .slice none 0 0] 27 (0, 0)) (by (with_reducible repeat (first | refine blk_drewN ?_ _ | refine blk_drew ?_ | refine blk_alloc ?_ _)); refine blk_far ?_ NB115_116.out _; (with_reducible repeat (first | refine blk_drewN ?_ _ | refine blk_drew ?_ | refine blk_alloc ?_ _)); exact BK115.out) hb); replace BK116 := sd_ (blk_below (g := gb116) (o := .cells #[.int .i64 (wrap64 (a0 + 1))] 3 (0, 0)) (by (with_reducible repeat (first | refine blk_drewN ?_ _ | refine blk_drew ?_ | refine blk_alloc ?_ _)); refine blk_put (cs := #[.int .i64 0]) ?_ 0 _ rfl; (with_reducible repeat (first | refine blk_drewN ?_ _ | refine blk_drew ?_ | refine blk_alloc ?_ _)); exact BK116.out) hb); replace HB := sd_ (below_step (bw2_ HB.out GE115.out GE116.out) hb); (try clear hb); (try clear ho0); (try clear ho1); (try clear ho2); obtain ⟨hcz9_0, hcz9_1, hcz9_2, hcz9_3, hfz9_0, hfz9_1, hfz9_2, hfz9_3⟩ := bf4_ BK115.out; obtain ⟨Ao10, co10, eo10⟩ := Kd.R_slice HO120.out; subst eo10; obtain ⟨Ao11, co11, eo11⟩ := Kd.R_slice HO123.out; subst eo11; obtain ⟨Ao12, co12, eo12⟩ := Kd.R_slice HO126.out; subst eo12))
 refine bodyPost_ret (results_cell_row rfl _ _ gb115 27 #[.int .i64 t117, .slice Ao10 t118.length co10, .slice Ao11 t121.length co11, .slice Ao12 t124.length co12] (0, 0) _ rfl (by (with_reducible repeat (first | refine blk_drewN ?_ _ | refine blk_drew ?_ | refine blk_alloc ?_ _)); refine blk_put (cs := #[.int .i64 t117, .slice Ao10 t118.length co10, .slice Ao11 t121.length co11, .slice none 0 0]) ?_ 3 _ rfl; (with_reducible repeat (first | refine blk_drewN ?_ _ | refine blk_drew ?_ | refine blk_alloc ?_ _)); refine blk_put (cs := #[.int .i64 t117, .slice Ao10 t118.length co10, .slice none 0 0, .slice none 0 0]) ?_ 2 _ rfl; (with_reducible repeat (first | refine blk_drewN ?_ _ | refine blk_drew ?_ | refine blk_alloc ?_ _)); refine blk_put (cs := #[.int .i64 t117, .slice none 0 0, .slice none 0 0, .slice none 0 0]) ?_ 1 _ rfl; (with_reducible repeat (first | refine blk_drewN ?_ _ | refine blk_drew ?_ | refine blk_alloc ?_ _)); refine blk_put (cs := #[.int .i64 0, .slice none 0 0, .slice none 0 0, .slice none 0 0]) ?_ 0 _ rfl; (with_reducible repeat (first | refine blk_drewN ?_ _ | refine blk_drew ?_ | refine blk_alloc ?_ _)); exact BK115.out) Try.underlying27 rfl (by kernel_rfl)) rfl ?_
 exact ⟨_, _, _, an_, by (with_reducible repeat (first | apply Kd.R_alloc | apply Kd.R_drewN | apply Kd.R_drew)); exact Kd.R_mono (Kd.R_far (p := ⟨gb115, 3, none⟩) (Kd.R_far (p := ⟨gb115, 2, none⟩) (Kd.R_far (p := ⟨gb115, 1, none⟩) (Kd.R_far (p := ⟨gb115, 0, none⟩) (Kd.R_types HO120.out BK115.out (by decide)) (fun _ hk => hk.2) (.int .i64 t117)) (fun _ hk => hk.2) (.slice Ao10 t118.length co10)) (fun _ hk => hk.2) (.slice Ao11 t121.length co11)) (fun _ hk => hk.2) (.slice Ao12 t124.length co12)) (fun _ hk => hk.1.1), by (with_reducible repeat (first | apply Kd.R_alloc | apply Kd.R_drewN | apply Kd.R_drew)); exact Kd.R_mono (Kd.R_far (p := ⟨gb115, 3, none⟩) (Kd.R_far (p := ⟨gb115, 2, none⟩) (Kd.R_far (p := ⟨gb115, 1, none⟩) (Kd.R_far (p := ⟨gb115, 0, none⟩) (Kd.R_types HO123.out BK115.out (by decide)) (fun _ hk => hk.2) (.int .i64 t117)) (fun _ hk => hk.2) (.slice Ao10 t118.length co10)) (fun _ hk => hk.2) (.slice Ao11 t121.length co11)) (fun _ hk => hk.2) (.slice Ao12 t124.length co12)) (fun _ hk => hk.1.1), by (with_reducible repeat (first | apply Kd.R_alloc | apply Kd.R_drewN | apply Kd.R_drew)); exact Kd.R_mono (Kd.R_far (p := ⟨gb115, 3, none⟩) (Kd.R_far (p := ⟨gb115, 2, none⟩) (Kd.R_far (p := ⟨gb115, 1, none⟩) (Kd.R_far (p := ⟨gb115, 0, none⟩) (Kd.R_types HO126.out BK115.out (by decide)) (fun _ hk => hk.2) (.int .i64 t117)) (fun _ hk => hk.2) (.slice Ao10 t118.length co10)) (fun _ hk => hk.2) (.slice Ao11 t121.length co11)) (fun _ hk => hk.2) (.slice Ao12 t124.length co12)) (fun _ hk => trivial), bw2_ HB.out GE115.out GE116.out⟩

end Go.Proofs.Ytcdmnofomoadlaa.P
end
