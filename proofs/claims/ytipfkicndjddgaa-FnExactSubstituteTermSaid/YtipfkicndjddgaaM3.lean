-- Several texts in one (wip/tools/merge.py).
import Derived.Test.YtipfkicndjddgaaM1
import Derived.Test.YtipfkicndjddgaaM2
import Derived.IntWalk
import Derived.Test.YtipfkicndjddgaaP0
section
/- The plain laws: loops, copies, comparisons. -/
set_option linter.unusedSimpArgs false
set_option linter.unusedVariables false
namespace Go.Proofs.Ytipfkicndjddgaa.Pure
open Go.RowKit Go.Proofs.Ytipfkicndjddgaa.P Go.Proofs.YtipfkicndjddgaaW.PrintWords Go.Proofs.YtipfkicndjddgaaW.PrintLast
theorem evCongr {α : Type} {g f : Nat → Option α} {r : α} (h : ∀ k, g k = f k) (k : Ev f r) : Ev g r := by
  obtain ⟨K, k⟩ := k
  exact ⟨K, fun n hn => (h n).trans (k n hn)⟩
theorem evRounds {α : Type} {g : Nat → Option α} {r : α} (h : Ev g r) : ∃ k, g k = some r := by
  obtain ⟨K, h⟩ := h
  exact ⟨K, h K (Nat.le_refl _)⟩
/-! ## Loops -/
def findO {α : Type} (g : Int → Option α) : Int → Nat → Option α
  | _, 0 => none
  | x, m + 1 => (g x).or (findO g (x + 1) m)
theorem findO_none {α : Type} {g : Int → Option α} : ∀ (m : Nat) (x : Int), findO g x m = none → ∀ y, x ≤ y → y < x + m → g y = none
  | 0, x, _, y, h1, h2 => by omega
  | m + 1, x, h, y, h1, h2 => by
    have h' : (g x).or (findO g (x + 1) m) = none := h
    rw [Option.or_eq_none_iff] at h'
    by_cases e : y = x
    · rw [e]; exact h'.1
    · exact findO_none m (x + 1) h'.2 y (by omega) (by omega)
theorem findO_congr {α : Type} {g g' : Int → Option α} : ∀ (m : Nat) (x : Int), (∀ y, x ≤ y → y < x + m → g y = g' y) → findO g x m = findO g' x m
  | 0, _, _ => rfl
  | m + 1, x, h => by
    show (g x).or (findO g (x + 1) m) = (g' x).or (findO g' (x + 1) m)
    rw [h x (by omega) (by omega), findO_congr m (x + 1) fun y h1 h2 => h y (by omega) (by omega)]
theorem findO_nil {α : Type} : ∀ (m : Nat) (x : Int), findO (fun _ => (none : Option α)) x m = none
  | 0, _ => rfl
  | m + 1, x => findO_nil m (x + 1)
theorem loop {α : Type} {F : Nat → Int → Option α} {n : Int} {g : Int → Option α} {e : α} (he : Ev (fun k => F k n) e)
    (hs : ∀ x, 0 ≤ x → x < n → ∀ r, Ev (fun k => F k (x + 1)) r → Ev (fun k => F k x) ((g x).getD r)) :
    ∀ (m : Nat) (x : Int), 0 ≤ x → x + m = n → Ev (fun k => F k x) ((findO g x m).getD e)
  | 0, x, _, h => by
    obtain rfl : x = n := by omega
    exact he
  | m + 1, x, h0, h => by
    have ih := loop he hs m (x + 1) (by omega) (by omega)
    have := hs x h0 (by omega) _ ih
    show Ev _ (((g x).or (findO g (x + 1) m)).getD e)
    revert this
    cases g x <;> exact id
theorem loop0 {α : Type} {F : Nat → Int → Option α} {n : Int} {g : Int → Option α} {e : α} (hn : 0 ≤ n) (he : Ev (fun k => F k n) e)
    (hs : ∀ x, 0 ≤ x → x < n → ∀ r, Ev (fun k => F k (x + 1)) r → Ev (fun k => F k x) ((g x).getD r)) : Ev (fun k => F k 0) ((findO g 0 n.toNat).getD e) :=
  loop he hs n.toNat 0 (by omega) (by omega)
theorem loop_hit {α : Type} {F : Nat → Int → Option α} {n : Int} {g : Int → Option α} {v : α}
    (hs : ∀ x, 0 ≤ x → x < n → ∀ r, (g x = none → Ev (fun k => F k (x + 1)) r) → Ev (fun k => F k x) ((g x).getD r)) :
    ∀ (m : Nat) (x : Int), 0 ≤ x → x + m = n → findO g x m = some v → Ev (fun k => F k x) v
  | 0, x, _, _, h => by cases h
  | m + 1, x, h0, h, hf => by
    have hf' : (g x).or (findO g (x + 1) m) = some v := hf
    have := hs x h0 (by omega) v
    cases c : g x with
    | none =>
      rw [c] at hf' this
      exact this fun _ => loop_hit hs m (x + 1) (by omega) (by omega) hf'
    | some u =>
      rw [c] at hf' this
      obtain rfl : u = v := Option.some.inj hf'
      exact this (fun h => by cases h)
theorem w64 {x : Int} (h1 : -9223372036854775808 ≤ x) (h2 : x ≤ 9223372036854775807) : wrap64 x = x := by unfold wrap64; omega
/-! ## Copies and sizes -/
theorem wf_range {x : Int} (h : (Lit.int .i64 x).wf = true) : -9223372036854775808 ≤ x ∧ x ≤ 9223372036854775807 := by
  simp [Lit.wf, IntKind.min, IntKind.max, IntKind.signed, IntKind.bits] at h
  exact h
theorem rd_get {l : List Int} {i : Nat} (h : i < l.length) : rd l (i : Int) = l[i] := by
  unfold rd; rw [Int.toNat_natCast, List.getD_eq_getElem?_getD, List.getElem?_eq_getElem h]; rfl
theorem rdB_get {l : List Bool} {i : Nat} (h : i < l.length) : rdOf false l (i : Int) = l[i] := by
  unfold rdOf; rw [Int.toNat_natCast, List.getD_eq_getElem?_getD, List.getElem?_eq_getElem h]; rfl
theorem toIntS_loop (l : List Int) (hl : l.length ≤ 1048576) : ∀ (m i : Nat) (acc : List Int), i + m = l.length → acc.length = l.length → acc.take i = l.take i → Ev (fun k => laws_toIntS.l0 k l acc (i : Int)) l
  | 0, i, acc, h, ha, ht => by
    have : acc = l := by
      have h1 : acc.take i = acc := List.take_of_length_le (by omega)
      have h2 : l.take i = l := List.take_of_length_le (by omega)
      rw [← h1, ht, h2]
    subst this
    refine Ev.step (f := fun _ => some acc) (fun k => ?_) (Ev.now _)
    simp only [laws_toIntS.l0]
    rw [if_neg (by omega)]
  | m + 1, i, acc, h, ha, ht => by
    have ih := toIntS_loop l hl m (i + 1) (acc.set i (rd l (i : Int))) (by omega) (by simp [ha]) (by
      rw [rd_get (by omega)]
      apply List.ext_getElem (by simp [ha])
      intro j h1 h2
      simp only [List.length_take] at h2
      rw [List.getElem_take, List.getElem_take, List.getElem_set]
      split
      · next e => subst e; rfl
      · next e =>
        have e1 : (acc.take i)[j]'(by simp; omega) = (l.take i)[j]'(by simp; omega) := by simp only [ht]
        rw [List.getElem_take, List.getElem_take] at e1
        exact e1)
    refine Ev.step (fun k => ?_) ih
    simp only [laws_toIntS.l0]
    rw [if_pos (by omega), if_pos (by omega), if_pos (by omega), w64 (by omega) (by omega)]
    simp
theorem toIntS (l : List Int) (hl : l.length ≤ 1048576) : Ev (fun k => laws_toIntS.f k l) l := by
  unfold laws_toIntS.f
  refine evCongr (fun k => (if_pos (by omega)).trans (if_pos (by omega))) ?_
  exact toIntS_loop l hl l.length 0 _ (by omega) (by simp) (by simp)
theorem eqIntS (l : List Int) (hl : l.length ≤ 1048576) : Ev (fun k => laws_eqIntS.f k l l) true := by
  unfold laws_eqIntS.f
  refine evCongr (fun k => if_pos rfl) ?_
  have hh : (findO (fun _ => (none : Option Bool)) 0 (l.length : Int).toNat).getD true = true := by rw [findO_nil]; rfl
  rw [← hh]
  refine loop0 (F := fun k x => laws_eqIntS.l0 k l l x) (n := (l.length : Int)) (g := fun _ => none) (e := true) (by omega) ?_ ?_
  · refine Ev.step (f := fun _ => some true) (fun k => ?_) (Ev.now _)
    simp only [laws_eqIntS.l0]; rw [if_neg (by omega)]
  · intro x h0 h1 r hr
    refine Ev.step (fun k => ?_) hr
    simp only [laws_eqIntS.l0]; rw [if_pos h1, if_pos h0, if_pos h1, w64 (by omega) (by omega)]; simp
def inV (x lo hi : Int) : Bool := decide (x ≥ lo) && decide (x ≤ hi)
theorem in_eq (x lo hi : Int) : spec_l1In.f x lo hi = some (inV x lo hi) := by
  unfold spec_l1In.f inV
  by_cases c : x ≥ lo
  · rw [if_pos c]; simp [c]
  · rw [if_neg c]; simp [c]
theorem within_eq (x lo hi : Int) : impl_within.f x lo hi = some (inV x lo hi) := in_eq x lo hi
end Go.Proofs.Ytipfkicndjddgaa.Pure
end

section
/- Marks of rows. -/
set_option linter.unusedSimpArgs false
set_option linter.unusedVariables false
namespace Go.Proofs.Ytipfkicndjddgaa.Pure
open Go.RowKit Go.Proofs.Ytipfkicndjddgaa.P Go.Proofs.YtipfkicndjddgaaW.PrintWords Go.Proofs.YtipfkicndjddgaaW.PrintLast
/-- Numbers from a on, n of them. -/
def marks (a : Int) : Nat → List Int
  | 0 => []
  | n + 1 => a :: marks (a + 1) n
theorem marks_len : ∀ (n : Nat) (a : Int), (marks a n).length = n
  | 0, _ => rfl
  | n + 1, a => by simp [marks, marks_len n (a + 1)]
theorem markS_loop (hi : Int) (hh : hi ≤ 4611686018427387904) : ∀ (m : Nat) (pre rest : List Int) (a : Int), rest.length = m → 0 ≤ a → a + m ≤ hi → (pre.length : Int) + m ≤ hi → Ev (fun k => laws_markIntS.l0 k (pre ++ rest) a (pre.length : Int)) (a + m, pre ++ marks a m)
  | 0, pre, rest, a, h, ha, hb, hc => by
    obtain rfl : rest = [] := List.length_eq_zero_iff.mp h
    refine Ev.step (f := fun _ => some (a + 0, pre ++ marks a 0)) (fun k => ?_) (Ev.now _)
    simp only [laws_markIntS.l0, marks, List.append_nil]
    rw [if_neg (by omega), Int.add_zero]
  | m + 1, pre, rest, a, h, ha, hb, hc => by
    obtain ⟨z, zs, rfl⟩ : ∃ z zs, rest = z :: zs := by cases rest with | nil => cases h | cons z zs => exact ⟨z, zs, rfl⟩
    have ih := markS_loop hi hh m (pre ++ [a]) zs (a + 1) (by simpa using h) (by omega) (by omega) (by simp; omega)
    have e1 : (pre ++ z :: zs).set pre.length a = (pre ++ [a]) ++ zs := by simp
    have e2 : a + ((m + 1 : Nat) : Int) = a + 1 + m := by omega
    have e3 : pre ++ marks a (m + 1) = (pre ++ [a]) ++ marks (a + 1) m := by simp [marks]
    rw [e2, e3]
    refine Ev.step (fun k => ?_) ih
    simp only [laws_markIntS.l0]
    rw [if_pos (by simp; omega), if_pos (by omega), w64 (x := a + 1) (by omega) (by omega), w64 (x := (pre.length : Int) + 1) (by omega) (by omega), Int.toNat_natCast, e1, show ((pre ++ [a]).length : Int) = (pre.length : Int) + 1 by simp]
theorem markIntS (l : List Int) (a : Int) (ha : 0 ≤ a) (hb : a + l.length ≤ 4611686018427387904) : Ev (fun k => laws_markIntS.f k l a) (a + l.length, marks a l.length) := by
  unfold laws_markIntS.f
  exact markS_loop _ (Int.le_refl _) l.length [] l a rfl ha hb (by simp; omega)
theorem heldS_loop (hi : Int) (hh : hi ≤ 4611686018427387904) : ∀ (m : Nat) (pre : List Int) (a : Int), 0 ≤ a → a + m ≤ hi → (pre.length : Int) + m ≤ hi → Ev (fun k => laws_heldIntS.l0 k (pre ++ marks a m) a (pre.length : Int)) (a + m)
  | 0, pre, a, ha, hb, hc => by
    refine Ev.step (f := fun _ => some (a + 0)) (fun k => ?_) (Ev.now _)
    simp only [laws_heldIntS.l0, marks, List.append_nil]
    rw [if_neg (by omega), Int.add_zero]
  | m + 1, pre, a, ha, hb, hc => by
    have ih := heldS_loop hi hh m (pre ++ [a]) (a + 1) (by omega) (by omega) (by simp; omega)
    have e2 : a + ((m + 1 : Nat) : Int) = a + 1 + m := by omega
    have e3 : pre ++ marks a (m + 1) = (pre ++ [a]) ++ marks (a + 1) m := by simp [marks]
    have e4 : rd (pre ++ marks a (m + 1)) (pre.length : Int) = a := by rw [rd_get (by simp [marks])]; simp [marks]
    rw [e2]
    refine Ev.step (fun k => ?_) ih
    simp only [laws_heldIntS.l0]
    rw [if_pos (by simp [marks]; omega), if_pos (by omega), e4, if_pos rfl, e3, w64 (x := a + 1) (by omega) (by omega), w64 (x := (pre.length : Int) + 1) (by omega) (by omega), show ((pre ++ [a]).length : Int) = (pre.length : Int) + 1 by simp]
theorem heldIntS (n : Nat) (a : Int) (ha : 0 ≤ a) (hb : a + (n : Int) ≤ 4611686018427387904) : Ev (fun k => laws_heldIntS.f k (marks a n) a) (a + n) := by
  unfold laws_heldIntS.f
  exact heldS_loop _ (Int.le_refl _) n [] a ha hb (by simp; omega)
end Go.Proofs.Ytipfkicndjddgaa.Pure
end

section
namespace Go.Proofs.Ytipfkicndjddgaa.P
open Go.RowKit Go.Proofs.YtipfkicndjddgaaW.PrintWords Go.Proofs.YtipfkicndjddgaaW.PrintLast Go.Proofs.YtipfkicndjddgaaW.PrintMore
set_option linter.unusedVariables false
set_option linter.unusedSimpArgs false
mutual
def laws_markTermS.l0 : Nat → List S40 → Int → Int → Option (Int × List S40)
  | 0, _, _, _ => none
  | k + 1, xs, a, i => if i < (xs.length : Int) then (if 0 ≤ i then ((laws_markIntS.f k (rd_T40 xs i).f2 (wrap64 (wrap64 (a + 1) + 1))).bind fun p => (laws_markTermS.f k (rd_T40 xs i).f3 p.1).bind fun q => laws_markTermS.l0 k (xs.set i.toNat ⟨a, wrap64 (a + 1), p.2, q.2⟩) q.1 (wrap64 (i + 1))) else none) else some (a, xs)
def laws_markTermS.f : Nat → List S40 → Int → Option (Int × List S40)
  | 0, _, _ => none
  | k + 1, xs, a => laws_markTermS.l0 k xs a 0
end
theorem kept_then {w w1 w2 : World} {P Q : Nat → Prop} (h : Kept w w1 P) (k : Kept w1 w2 Q) (hq : ∀ i, Q i → P i) : Kept w w2 P :=
  ⟨Nat.le_trans h.1 k.1, fun i hi hn => (k.2 i (Nat.lt_of_lt_of_le hi h.1) fun hh => hn (hq i hh)).trans (h.2 i hi hn)⟩
section
variable {w0 w W W' : World} {ok oki : Nat → Prop} {f : Nat → Bool} {g n cap : Nat} {ys : List S40} {i : Int} {u0 u1 v2 v3 u : Value} {l2 m2 : List Int} {l3 m3 : List S40}
theorem hole_cells {c : List Value} (h : Kd.H kT 40 W w0.heap.size ok (.slice (some ⟨g, 0, none⟩) n cap) ys i oki c) (h0 : 0 ≤ i) (h1 : i < n) : (∀ j u, c[j]? = some u → W.cell? ⟨g, i.toNat * 4 + j, none⟩ = some u) ∧ ∀ j, W.frozen? ⟨g, i.toNat * 4 + j, none⟩ = false := by
  obtain ⟨rows, _, hraw, _, _, hcc, _⟩ := Kd.H_raw h h0 h1
  obtain ⟨_, _, _, _, hfr⟩ := Kd.R_elem hraw ([] : List Value) i h0 h1
  exact ⟨hcc, hfr⟩
/-- A node that is lent, with its rows. -/
structure Hole (w0 w : World) (ok oki : Nat → Prop) (f : Nat → Bool) (g n cap : Nat) (ys : List S40) (i : Int) (u0 u1 v2 v3 : Value) (l2 : List Int) (l3 : List S40) (W : World) : Prop where
  h : Kd.H kT 40 W w0.heap.size ok (.slice (some ⟨g, 0, none⟩) n cap) ys i oki [u0, u1, v2, v3]
  r : (Kd.int .i64).R 3 W w0.heap.size (fun k => some k = v2.ownBlock) v2 l2
  s : Kd.S kT 40 W w0.heap.size (fun k => oki k ∧ f k = false) v3 l3
  b : Below w0.heap.size w0 W
  k : Kept w W ok
theorem set_kept {p : Addr} {S : Nat → Prop} (hp : S p.block) (x : Value) : Kept W (W.setCell p x) S := ⟨by simp [World.setCell], fun k _ hn => Below.heap_setCell W p x k (fun e => hn (e ▸ hp))⟩
theorem Hole.put0 (hoki : ∀ k, oki k → ok k ∧ k ≠ g) (in2 : ∀ k, v2.ownBlock = some k → oki k ∧ f k = true) (hg : ok g) (hb : w0.heap.size ≤ g) (i0 : 0 ≤ i) (i1 : i < n) (x : Hole w0 w ok oki f g n cap ys i u0 u1 v2 v3 l2 l3 W) (hu : u.oneCell' = true) : Hole w0 w ok oki f g n cap ys i u u1 v2 v3 l2 l3 (W.setCell ⟨g, i.toNat * 4, none⟩ u) :=
  ⟨(Kd.H_seg x.h i0 i1 (seg := [u]) (j := 0) (show 0 + 1 ≤ 4 by decide) (fun q hq => by rw [List.mem_singleton.mp hq]; exact hu)).1, Kd.R_far (p := ⟨g, _, none⟩) x.r (fun k hk => (hoki k (in2 k hk.symm).1).2) u, Kd.S_far (p := ⟨g, _, none⟩) x.s (fun k hk => (hoki k hk.1).2) u, below_set x.b hb, kept_then x.k (set_kept (p := ⟨g, _, none⟩) hg u) (fun _ h => h)⟩
theorem Hole.put1 (hoki : ∀ k, oki k → ok k ∧ k ≠ g) (in2 : ∀ k, v2.ownBlock = some k → oki k ∧ f k = true) (hg : ok g) (hb : w0.heap.size ≤ g) (i0 : 0 ≤ i) (i1 : i < n) (x : Hole w0 w ok oki f g n cap ys i u0 u1 v2 v3 l2 l3 W) (hu : u.oneCell' = true) : Hole w0 w ok oki f g n cap ys i u0 u v2 v3 l2 l3 (W.setCell ⟨g, i.toNat * 4 + 1, none⟩ u) :=
  ⟨(Kd.H_seg x.h i0 i1 (seg := [u]) (j := 1) (show 1 + 1 ≤ 4 by decide) (fun q hq => by rw [List.mem_singleton.mp hq]; exact hu)).1, Kd.R_far (p := ⟨g, _, none⟩) x.r (fun k hk => (hoki k (in2 k hk.symm).1).2) u, Kd.S_far (p := ⟨g, _, none⟩) x.s (fun k hk => (hoki k hk.1).2) u, below_set x.b hb, kept_then x.k (set_kept (p := ⟨g, _, none⟩) hg u) (fun _ h => h)⟩
theorem Hole.mark2 (hoki : ∀ k, oki k → ok k ∧ k ≠ g) (in2 : ∀ k, v2.ownBlock = some k → oki k ∧ f k = true) (x : Hole w0 w ok oki f g n cap ys i u0 u1 v2 v3 l2 l3 W) (hr : (Kd.int .i64).R 3 W' w0.heap.size (fun k_ => (some k_ = v2.ownBlock ∨ W.heap.size ≤ k_)) v2 m2) (hB : Below w0.heap.size w0 W') (hk : Kept W W' (fun k_ => some k_ = v2.ownBlock)) : Hole w0 w ok oki f g n cap ys i u0 u1 v2 v3 m2 l3 W' :=
  ⟨Kd.H_step x.h (fun k _ hn hlt => hk.2 k hlt fun he => hn (in2 k he.symm).1), Kd.R_tight rfl hr, Kd.S_step x.s (fun k hk1 hlt => hk.2 k hlt fun he => by have := (in2 k he.symm).2; rw [hk1.2] at this; cases this), hB, kept_then x.k hk (fun k he => (hoki k (in2 k he.symm).1).1)⟩
theorem Hole.mark3 (hoki : ∀ k, oki k → ok k ∧ k ≠ g) (in2 : ∀ k, v2.ownBlock = some k → oki k ∧ f k = true) (x : Hole w0 w ok oki f g n cap ys i u0 u1 v2 v3 l2 l3 W) (hs : Kd.S kT 40 W' w0.heap.size (fun k => oki k ∧ f k = false) v3 m3) (hB : Below w0.heap.size w0 W') (hk : Kept W W' (fun k => oki k ∧ f k = false)) : Hole w0 w ok oki f g n cap ys i u0 u1 v2 v3 l2 m3 W' :=
  ⟨Kd.H_step x.h (fun k _ hn hlt => hk.2 k hlt fun he => hn he.1), Kd.R_step x.r (fun k hk1 hlt => hk.2 k hlt fun he => by have := (in2 k hk1.symm).2; rw [he.2] at this; cases this), hs, hB, kept_then x.k hk (fun k he => (hoki k he.1).1)⟩
theorem Hole.back {a b : Int} (in2 : ∀ k, v2.ownBlock = some k → oki k ∧ f k = true) (x : Hole w0 w ok oki f g n cap ys i (.int .i64 a) (.int .i64 b) v2 v3 l2 l3 W) : Kd.S kT 40 W w0.heap.size ok (.slice (some ⟨g, 0, none⟩) n cap) (ys.set i.toNat ⟨a, b, l2, l3⟩) :=
  Kd.H_back (okp := oki) x.h (kT_close (x := ⟨a, b, l2, l3⟩) ⟨v2, v3, f, rfl, Kd.R_mono x.r (fun k hk => in2 k hk.symm), x.s⟩) (fun _ h => h)
end
set_option maxHeartbeats 8000000 in
set_option maxRecDepth 100000 in
theorem laws_markTermS.calls (k : Nat) : ∀ (ok : Nat → Prop) (v : Value) (xs : List S40) (a1 r1 : Int) (r2 : List S40) (w0 w : World) (hB : Below w0.heap.size w0 w) (hS : Kd.S kT 40 w w0.heap.size ok v xs) (h : laws_markTermS.f k xs a1 = some (r1, r2)),
    Calls Try.prog 66 #[v, .int .i64 a1] w fun e w' => e = .returned (.int .i64 r1) ∧ Kd.S kT 40 w' w0.heap.size ok v r2 ∧ Below w0.heap.size w0 w' ∧ Kept w w' ok := by
  induction k using Nat.strongRecOn with
  | _ k ih =>
  intro ok v xs a1 r1 r2 w0 w hB hS h
  cases k with
  | zero => exact absurd h (by simp [laws_markTermS.f])
  | succ k =>
  simp only [laws_markTermS.f] at h
  obtain ⟨A0, c0, rfl⟩ := Kd.S_slice hS
  have hu40 := Try.underlying40
  have HO := Aside0.mk hS
  have HB := Aside0.mk hB
  have HK := Aside0.mk (Kept.refl w ok)
  have H' := Aside0.mk h
  clear hS hB h
  go_enter Try.func66, Try.ntmps66
  go_wp2
  go_loopg [1, 5] k (fun kq v1 v5 w' => ∃ (ys : List S40) (a i : Int), v1 = .int .i64 a ∧ v5 = .int .i64 i ∧ Aside0 (laws_markTermS.l0 kq ys a i = some (r1, r2)) ∧ Aside0 (kq ≤ k) ∧ Aside0 (ys.length = xs.length) ∧ Aside0 (Kd.S kT 40 w' w0.heap.size ok (.slice A0 xs.length c0) ys) ∧ Aside0 (Below w0.heap.size w0 w') ∧ Aside0 (Kept w w' ok))
  case atStart => exact ⟨xs, a1, 0, rfl, rfl, H', ⟨Nat.le_refl _⟩, ⟨rfl⟩, HO, HB, ⟨⟨HK.out.1, HK.out.2⟩⟩⟩
  case round =>
    clear H' HO HB HK
    obtain ⟨ys, a, i, rfl, rfl, HA, HK1, HL, HO, HB, HK⟩ := hrel
    cases gk with
    | zero => exact absurd HA.out (by simp [laws_markTermS.l0])
    | succ k1 =>
      have H := HA.out
      clear HA
      simp only [laws_markTermS.l0] at H
      by_cases c3 : i < (ys.length : Int)
      · rw [if_pos c3] at H
        have c3' : i < (xs.length : Int) := by have := HL.out; omega
        have c3b : decide (i < (xs.length : Int)) = true := decide_eq_true c3'
        by_cases c4 : ¬ (0 ≤ i)
        · rw [if_neg c4] at H; exact absurd H (by simp)
        replace c4 := Decidable.not_not.mp c4
        rw [if_pos c4] at H
        have c4b : decide (0 ≤ i) = true := decide_eq_true c4
        replace H := Option.bind_eq_some_iff.mp H
        obtain ⟨⟨p1, p2⟩, Ap, H⟩ := H
        replace H := Option.bind_eq_some_iff.mp H
        obtain ⟨⟨q1, q2⟩, Aq, H⟩ := H
        dsimp only at Aq H
        have Ap := Aside0.mk Ap
        have Aq := Aside0.mk Aq
        have H' := Aside0.mk H
        clear H
        obtain ⟨g, cap, ev, hge, _⟩ := Kd.S_form HO.out (by omega)
        have eA : A0 = some ⟨g, 0, none⟩ := (by injection ev)
        clear ev
        subst eA
        have HG := Aside0.mk hge
        have HS0 := Aside0.mk (show ok g from HO.out.choose_spec.1 g (by simp [Value.ownBlock]))
        obtain ⟨oki, c, hcl, hM, hcc, hfr, hoki, hH⟩ := Kd.S_elem HO.out z40 i c4 c3'
        rw [show ys.getD i.toNat z40 = rd_T40 ys i from rfl] at hM
        obtain ⟨v2, v3, f, rfl, g2, g3⟩ := kT_open hM
        have h0 := hcc 0 _ rfl
        have h1 := hcc 1 _ rfl
        have f0 := hfr 0
        have f1 := hfr 1
        rw [show kT.sz = 4 from rfl] at h0 h1 f0 f1
        simp only [Nat.add_zero] at h0 f0
        obtain ⟨A2, c2, rfl⟩ := Kd.R_slice g2
        obtain ⟨A3, c3v, rfl⟩ := Kd.S_slice g3
        have in2 := g2.1
        have G2 := Aside0.mk (Kd.R_tight rfl g2)
        have G3 := Aside0.mk g3
        have HH := Aside0.mk hH
        have IN2 := Aside0.mk in2
        have OKI := Aside0.mk hoki
        clear hH g2 g3 hcc hfr hM hcl in2 hoki HO hge
        have p_ := eq_true c4
        have q_ := eq_true c3'
        go_upto_region 5 with (fail)
        have HX := Aside0.mk (show Hole w0 w ok oki f g xs.length c0 ys i (.int .i64 (rd_T40 ys i).f0) (.int .i64 (rd_T40 ys i).f1) (.slice A2 (rd_T40 ys i).f2.length c2) (.slice A3 (rd_T40 ys i).f3.length c3v) (rd_T40 ys i).f2 (rd_T40 ys i).f3 wr from ⟨HH.out, G2.out, G3.out, HB.out, ⟨HK.out.1, HK.out.2⟩⟩)
        have IB := Aside0.mk (show w0.heap.size ≤ g from HG.out)
        clear HH G2 G3 HB HK h0 h1 f0 f1
        have i0 : 0 ≤ i := of_decide_eq_true c4b
        have i1 : i < (xs.length : Int) := of_decide_eq_true c3b
        refine gen_wp (fun W => Hole w0 w ok oki f g xs.length c0 ys i (.int .i64 a) (.int .i64 (rd_T40 ys i).f1) (.slice A2 (rd_T40 ys i).f2.length c2) (.slice A3 (rd_T40 ys i).f3.length c3v) (rd_T40 ys i).f2 (rd_T40 ys i).f3 W) (Hole.put0 OKI.out IN2.out HS0.out IB.out i0 i1 HX.out rfl) ?_
        clear HX
        intro w1 hx
        have h1 := (hole_cells hx.h i0 i1).1 1 _ rfl
        have f1 := (hole_cells hx.h i0 i1).2 1
        have HX := Aside0.mk hx
        clear hx
        go_upto_region 7 with (fail)
        refine gen_wp (fun W => Hole w0 w ok oki f g xs.length c0 ys i (.int .i64 a) (.int .i64 (wrap64 (a + 1))) (.slice A2 (rd_T40 ys i).f2.length c2) (.slice A3 (rd_T40 ys i).f3.length c3v) (rd_T40 ys i).f2 (rd_T40 ys i).f3 W) (Hole.put1 OKI.out IN2.out HS0.out IB.out i0 i1 HX.out rfl) ?_
        clear HX h1 f1
        intro w2 hx
        have h2 := (hole_cells hx.h i0 i1).1 2 _ rfl
        have HX := Aside0.mk hx
        clear hx
        go_upto_region 9 with (first | ((with_reducible refine gate_callee (f := 22) rfl ?_); refine goesL_ (some 32) rfl rfl Try.func22 (by kernel_rfl) rfl #[.slice A2 (rd_T40 ys i).f2.length c2, .int .i64 (wrap64 (wrap64 (a + 1) + 1))] rfl la_ ?_; (refine (laws_markIntS.calls k1 _ _ (rd_T40 ys i).f2 _ p1 p2 w0 _ HX.out.b HX.out.r Ap.out).mono ?_); rintro e w3 ⟨rfl, hr, hb, hk⟩; refine ⟨_, rfl, ?_⟩; have n_ := Aside0.mk (Hole.mark2 OKI.out IN2.out HX.out hr hb hk); clear HX; have HX := n_; clear n_ hr hb hk; have h3 := (hole_cells HX.out.h i0 i1).1 3 _ rfl))
        clear h2
        go_wp2_with (first | ((with_reducible refine gate_callee (f := 66) rfl ?_); refine goesL_ (some 39) rfl rfl Try.func66 (by kernel_rfl) rfl #[.slice A3 (rd_T40 ys i).f3.length c3v, .int .i64 p1] rfl la_ ?_; (refine (ih k1 (by have := HK1.out; omega) _ _ (rd_T40 ys i).f3 _ q1 q2 w0 _ HX.out.b HX.out.s Aq.out).mono ?_); rintro e w4 ⟨rfl, hs, hb, hk⟩; refine ⟨_, rfl, ?_⟩; have n_ := Aside0.mk (Hole.mark3 OKI.out IN2.out HX.out hs hb hk); clear HX; have HX := n_; clear n_ hs hb hk))
        go_roundg k1
        case measure => have := HK1.out; omega
        case rel => exact ⟨_, _, _, rfl, rfl, H', ⟨by have := HK1.out; omega⟩, ⟨by rw [List.length_set]; exact HL.out⟩, ⟨Hole.back IN2.out HX.out⟩, ⟨HX.out.b⟩, ⟨⟨HX.out.k.1, HX.out.k.2⟩⟩⟩
      · rw [if_neg c3] at H
        have c3b : decide (i < (xs.length : Int)) = false := decide_eq_false (by have := HL.out; omega)
        simp only [Option.some.injEq, Prod.mk.injEq] at H
        obtain ⟨rfl, rfl⟩ := H
        go_wp2
        go_ret
        exact ⟨rfl, HO.out, HB.out, ⟨HK.out.1, HK.out.2⟩⟩
def laws_markTerm.f (k : Nat) (l2 : List Int) (l3 : List S40) (a : Int) : Option (Int × List Int × List S40) := (laws_markIntS.f k l2 a).bind fun p => (laws_markTermS.f k l3 p.1).bind fun q => some (q.1, p.2, q.2)
set_option maxHeartbeats 8000000 in
set_option maxRecDepth 100000 in
theorem laws_markTerm.calls (k : Nat) (ok : Nat → Prop) (f : Nat → Bool) (b0 b1 : Int) (v2 v3 : Value) (l2 : List Int) (l3 : List S40) (a r1 : Int) (m2 : List Int) (m3 : List S40) (w0 w : World) (hB : Below w0.heap.size w0 w) (h2 : (Kd.int .i64).R 3 w w0.heap.size (fun k => ok k ∧ f k = true) v2 l2) (h3 : Kd.S kT 40 w w0.heap.size (fun k => ok k ∧ f k = false) v3 l3) (h : laws_markTerm.f k l2 l3 a = some (r1, m2, m3)) :
    Calls Try.prog 23 #[.agg #[.int .i64 b0, .int .i64 b1, v2, v3], .int .i64 a] w fun e w' => e = .returned (.int .i64 r1) ∧ (Kd.int .i64).R 3 w' w0.heap.size (fun k => ok k ∧ f k = true) v2 m2 ∧ Kd.S kT 40 w' w0.heap.size (fun k => ok k ∧ f k = false) v3 m3 ∧ Below w0.heap.size w0 w' ∧ Kept w w' ok := by
  unfold laws_markTerm.f at h
  obtain ⟨⟨p1, p2⟩, Ap, h⟩ := Option.bind_eq_some_iff.mp h
  obtain ⟨⟨q1, q2⟩, Aq, h⟩ := Option.bind_eq_some_iff.mp h
  simp only [Option.some.injEq, Prod.mk.injEq] at h
  obtain ⟨rfl, rfl, rfl⟩ := h
  dsimp only at Aq
  obtain ⟨A2, c2, rfl⟩ := Kd.R_slice h2
  obtain ⟨A3, c3, rfl⟩ := Kd.S_slice h3
  have hu40 := Try.underlying40
  have in2 := h2.1
  have lt2 := Kd.R_lt h2
  have HR := Aside0.mk (Kd.R_tight rfl h2)
  have HS := Aside0.mk h3
  have HB := Aside0.mk hB
  have Ap := Aside0.mk Ap
  have Aq := Aside0.mk Aq
  have IN2 := Aside0.mk in2
  have LT2 := Aside0.mk lt2
  clear h2 h3 hB in2 lt2
  go_enter Try.func23, Try.ntmps23
  go_wp2_with (first | ((with_reducible refine gate_dst (N := 2) rfl ?_); (try (refine gate_guard (by rfl) ?_; dsimp only)); refine box_event ?hg (N := 2) ?hd (cs := #[.int .i64 b0, .int .i64 b1, .slice A2 l2.length c2, .slice A3 l3.length c3]) (t := 40) ?hr ?_; (case hd => rfl); (case hg => rfl); (case hr => first | (go_simp; done) | (go_simp; rfl)); intro gb hg w1 hbox hb; have BK := Aside0.mk hbox; have NE := Aside0.mk (fun (he : some gb = (Value.slice A2 l2.length c2).ownBlock) => Nat.lt_irrefl _ (hg ▸ LT2.out gb he.symm)); have n1_ := Aside0.mk (Kd.R_below (by first | exact HR.out | exact Kd.R_drewN HR.out _) hb); have n2_ := Aside0.mk (Kd.S_below (by first | exact HS.out | exact Kd.S_drewN HS.out _) hb); have n3_ := Aside0.mk (below_step (by first | exact HB.out | exact pw_below_drewN HB.out _) hb); have HK := Aside0.mk (show Kept w w1 ok from Kept.of_below hb ok); clear HR HS HB; have HR := n1_; have HS := n2_; have HB := n3_; clear n1_ n2_ n3_ hg hbox hb; obtain ⟨ca0, ca1, ca2, ca3⟩ := bc4_ BK.out) | ((with_reducible refine gate_callee (f := 22) rfl ?_); refine goesL_ (some 8) rfl rfl Try.func22 (by kernel_rfl) rfl #[.slice A2 l2.length c2, .int .i64 a] rfl la_ ?_; (refine (laws_markIntS.calls k _ _ l2 _ p1 p2 w0 _ HB.out HR.out Ap.out).mono ?_); rintro e w2 ⟨rfl, hr, hb, hk⟩; refine ⟨_, rfl, ?_⟩; have n0_ := Aside0.mk ((hk.2 gb (blk_lt BK.out) NE.out).trans BK.out); have n1_ := Aside0.mk (Kd.R_tight rfl hr); have n2_ := Aside0.mk (Kd.S_step HS.out (fun k hk1 hlt => hk.2 k hlt fun he => by have := (IN2.out k he.symm).2; rw [hk1.2] at this; cases this)); have n3_ := Aside0.mk hb; have n4_ := Aside0.mk (kept_then HK.out hk (fun k he => (IN2.out k he.symm).1)); clear BK HR HS HB HK; have BK := n0_; have HR := n1_; have HS := n2_; have HB := n3_; have HK := n4_; clear n0_ n1_ n2_ n3_ n4_ hr hb hk; obtain ⟨cb0, cb1, cb2, cb3⟩ := bc4_ BK.out) | ((with_reducible refine gate_callee (f := 66) rfl ?_); refine goesL_ (some 12) rfl rfl Try.func66 (by kernel_rfl) rfl #[.slice A3 l3.length c3, .int .i64 p1] rfl la_ ?_; (refine (laws_markTermS.calls k _ _ l3 _ q1 q2 w0 _ HB.out HS.out Aq.out).mono ?_); rintro e w3 ⟨rfl, hs, hb, hk⟩; refine ⟨_, rfl, ?_⟩; have n1_ := Aside0.mk (Kd.R_step HR.out (fun k hk1 hlt => hk.2 k hlt fun he => by have := (IN2.out k hk1.symm).2; rw [he.2] at this; cases this)); have n4_ := Aside0.mk (kept_then HK.out hk (fun k he => he.1)); clear HR HS HB HK; have HR := n1_; have HS := Aside0.mk hs; have HB := Aside0.mk hb; have HK := n4_; clear n1_ n4_ hs hb hk))
  go_ret
  exact ⟨rfl, Kd.R_mono HR.out (fun k hk => IN2.out k hk.symm), HS.out, HB.out, HK.out⟩
end Go.Proofs.Ytipfkicndjddgaa.P
end

section
namespace Go.Proofs.Ytipfkicndjddgaa.P
open Go.RowKit Go.Proofs.YtipfkicndjddgaaW.PrintWords Go.Proofs.YtipfkicndjddgaaW.PrintLast Go.Proofs.YtipfkicndjddgaaW.PrintMore
attribute [local go_sem] max2_int min2_int max_two min_two max_three min_three max_four min_four   -- for this text's walks alone
set_option linter.unusedVariables false
set_option linter.unusedSimpArgs false

/-! ### spec_l2Left: function 82 -/
mutual
def spec_l2Left.l0 : Nat → Int → Int → Int → Int → List Int → List (S40) → Option (Int)
 | 0, _, _, _, _, _, _ => none
 | k + 1, x1, x5, x154000, x154001, x154002, x154003 => if x5 < (x154003.length : Int) then (if x1 ≥ 0 then (if 0 ≤ x5 then ((spec_l2Left.f k ((rd_T40 x154003 x5).f0) ((rd_T40 x154003 x5).f1) ((rd_T40 x154003 x5).f2) ((rd_T40 x154003 x5).f3) x1).bind fun t155 => (spec_l2Left.l0 k t155 (wrap64 (x5 + 1)) x154000 x154001 x154002 x154003)) else (none)) else (some x1)) else (some x1)
def spec_l2Left.f : Nat → Int → Int → List Int → List (S40) → Int → Option (Int)
 | 0, _, _, _, _, _ => none
 | k + 1, a0_0, a0_1, l0_2, l0_3, a1 => spec_l2Left.l0 k (wrap64 (a1 - 1)) 0 a0_0 a0_1 l0_2 l0_3
end
set_option maxHeartbeats 8000000 in
set_option maxRecDepth 100000 in
theorem spec_l2Left.calls (k : Nat) : ∀ (a0_0 : Int) (a0_1 : Int) (A0_2 : Option Addr) (c0_2 : Nat) (l0_2 : List Int) (A0_3 : Option Addr) (c0_3 : Nat) (l0_3 : List (S40)) (a1 : Int) (r : Int) (w : World) (hr0_2 : Kd.C (Kd.int .i64) w A0_2 l0_2.length l0_2) (hc0_2 : l0_2.length ≤ c0_2) (hr0_3 : Kd.C k40 w A0_3 l0_3.length l0_3) (hc0_3 : l0_3.length ≤ c0_3) (h : spec_l2Left.f k a0_0 a0_1 l0_2 l0_3 a1 = some r),
  Calls Try.prog 82 #[.agg #[.int .i64 a0_0, .int .i64 a0_1, .slice A0_2 l0_2.length c0_2, .slice A0_3 l0_3.length c0_3], .int .i64 a1] w fun e w' => e = .returned (.int .i64 r) ∧ Below w.heap.size w w' := by
 induction k using Nat.strongRecOn with
 | _ k ih =>
 intro a0_0 a0_1 A0_2 c0_2 l0_2 A0_3 c0_3 l0_3 a1 r w hr0_2 hc0_2 hr0_3 hc0_3 h
 cases k with
 | zero => exact absurd h (by simp [spec_l2Left.f])
 | succ k =>
 simp only [spec_l2Left.f] at h
 have hu40 := Try.underlying40
 have HR0_2 := sd_ hr0_2
 have HC0_2 := sd_ hc0_2
 clear hr0_2 hc0_2
 have HR0_3 := sd_ hr0_3
 have HC0_3 := sd_ hc0_3
 clear hr0_3 hc0_3
 have HB := sd_ (Below.refl w.heap.size w)
 have H : (spec_l2Left.l0 k (wrap64 (a1 - 1)) 0 a0_0 a0_1 l0_2 l0_3) = some r := h
 clear h
 have H' := sd_ H
 clear H
 go_enter Try.func82, Try.ntmps82
 go_wp2_with (first | ((with_reducible refine gate_dst (N := 2) rfl ?_); refine bx_ (N := 2) (cs := #[.int .i64 a0_0, .int .i64 a0_1, .slice A0_2 l0_2.length c0_2, .slice A0_3 l0_3.length c0_3]) (t := 40) ?_; intro gb153 hg w3 hbox hb; have BK153 := sd_ (hbox); have GW153 := sd_ (gs_ hg (bw0_ HB.out)); have GE153 := sd_ (gs_ hg (bw0_ HB.out)); replace HB := sd_ (below_step (bw0_ HB.out) hb); clear hb hbox hg))
 go_loopg [1, 5] k (fun kq v1 v5 w' => ∃ (x1_1 : Int) (x5_1 : Int), v1 = .int .i64 x1_1 ∧ v5 = .int .i64 x5_1 ∧ Aside0 (spec_l2Left.l0 kq x1_1 x5_1 a0_0 a0_1 l0_2 l0_3 = some r) ∧ Aside0 (kq ≤ k) ∧ Aside0 (w'.heap[gb153]? = some (.cells #[.int .i64 a0_0, .int .i64 a0_1, (.slice A0_2 l0_2.length c0_2), (.slice A0_3 l0_3.length c0_3)] 40 (0, 0))) ∧ Aside0 (Below w.heap.size w w'))
 case atStart => exact ⟨(wrap64 (a1 - 1)), (0), sm_, sm_, H', ⟨Nat.le_refl _⟩, ⟨by exact bz_ BK153.out⟩, ⟨bw1_ HB.out GE153.out⟩⟩
 case round =>
  clear H'
  try clear p2
  obtain ⟨x1_1, x5_1, rfl, rfl, HA, HK1, BK153, HB⟩ := hrel
  cases gk with
  | zero => exact absurd HA.out (by simp [spec_l2Left.l0])
  | succ k1 =>
   have H := HA.out
   clear HA
   simp only [spec_l2Left.l0] at H
   by_cases c4 : x5_1 < (l0_3.length : Int)
   ·rw [if_pos c4] at H
    have c4b0 : decide (x5_1 < (l0_3.length : Int)) = true := decide_eq_true c4
    clear c4
    by_cases c5 : x1_1 ≥ 0
    ·rw [if_pos c5] at H
     have c5b0 : decide (0 ≤ x1_1) = true := decide_eq_true c5
     clear c5
     by_cases c6 : 0 ≤ x5_1
     ·rw [if_pos c6] at H
      have c6b0 : decide (0 ≤ x5_1) = true := decide_eq_true c6
      clear c6
      replace H := Option.bind_eq_some_iff.mp H
      obtain ⟨t155, A70, H⟩ := H
      try dsimp only at H
      have A7 := sd_ A70
      clear A70
      have H' := sd_ H
      clear H
      obtain ⟨hcz8_0, hcz8_1, hcz8_2, hcz8_3, hfz8_0, hfz8_1, hfz8_2, hfz8_3⟩ := bf4_ BK153.out
      have p154 : 0 ≤ (x5_1 : Int) := dt_
      have q154 : x5_1 < (l0_3.length : Int) := dt_
      obtain ⟨ad154, A154_2, c154_2, A154_3, c154_3, e154, hx154_0, hx154_1, hx154_2, hx154_3, hl154_2, hi154_2, hl154_3, hi154_3⟩ := at_T40 HR0_3.out x5_1 p154 q154
      cases e154
      replace hx154_0 := (HB.out.cell (World.block_lt_of_cell? w _ hx154_0)).trans hx154_0
      replace hx154_1 := (HB.out.cell (World.block_lt_of_cell? w _ hx154_1)).trans hx154_1
      replace hx154_2 := (HB.out.cell (World.block_lt_of_cell? w _ hx154_2)).trans hx154_2
      replace hx154_3 := (HB.out.cell (World.block_lt_of_cell? w _ hx154_3)).trans hx154_3
      have HR154_2 := sd_ hi154_2
      have HC154_2 := sd_ hl154_2
      clear hi154_2 hl154_2
      have HR154_3 := sd_ hi154_3
      have HC154_3 := sd_ hl154_3
      clear hi154_3 hl154_3
      replace p154 := eq_true p154
      replace q154 := eq_true q154
      go_wp2_with (first | ((with_reducible refine gate_callee (f := 82) rfl ?_); refine goesL_ (some 25) rfl rfl Try.func82 (by kernel_rfl) rfl #[.agg #[.int .i64 ((rd_T40 l0_3 x5_1).f0), .int .i64 ((rd_T40 l0_3 x5_1).f1), .slice A154_2 ((rd_T40 l0_3 x5_1).f2).length c154_2, .slice A154_3 ((rd_T40 l0_3 x5_1).f3).length c154_3], .int .i64 x1_1] rfl la_ ?_; (with_reducible refine (ih k1 (by have := HK1.out; omega) ((rd_T40 l0_3 x5_1).f0) ((rd_T40 l0_3 x5_1).f1) _ _ ((rd_T40 l0_3 x5_1).f2) _ _ ((rd_T40 l0_3 x5_1).f3) x1_1 t155 _ ?side1 ?side2 ?side3 ?side4 A7.out).mono ?_); (case side1 => exact kc_ HR154_2.out HB.out); (case side2 => exact HC154_2.out); (case side3 => exact kc_ HR154_3.out HB.out); (case side4 => exact HC154_3.out); rintro e w9 ⟨rfl, hb⟩; refine ⟨_, rfl, ?_⟩; replace BK153 := sd_ (bb_ BK153.out hb); replace HB := sd_ (below_step (bw1_ HB.out GE153.out) hb); (try clear hb)))
      go_roundg k1
      case measure => have := HK1.out; omega
      case rel => exact ⟨(t155), (wrap64 (x5_1 + 1)), sm_, sm_, H', ⟨by have := HK1.out; omega⟩, ⟨by exact bz_ BK153.out⟩, ⟨bw1_ HB.out GE153.out⟩⟩
     rw [if_neg c6] at H
     exact absurd H (by simp)
    rw [if_neg c5] at H
    have c5b0 : decide (0 ≤ x1_1) = false := decide_eq_false c5
    clear c5
    obtain rfl := Option.some.inj H
    obtain ⟨hcz10_0, hcz10_1, hcz10_2, hcz10_3, hfz10_0, hfz10_1, hfz10_2, hfz10_3⟩ := bf4_ BK153.out
    go_wp2
    go_ret
    exact ⟨an_, bw1_ HB.out GE153.out⟩
   rw [if_neg c4] at H
   have c4b0 : decide (x5_1 < (l0_3.length : Int)) = false := decide_eq_false c4
   clear c4
   obtain rfl := Option.some.inj H
   obtain ⟨hcz11_0, hcz11_1, hcz11_2, hcz11_3, hfz11_0, hfz11_1, hfz11_2, hfz11_3⟩ := bf4_ BK153.out
   go_wp2
   go_ret
   exact ⟨an_, bw1_ HB.out GE153.out⟩


/-! ### spec_l1Copy: function 92 -/
def spec_l1Copy.f (l0 : List Int) : Option (List Int) := (some (([] : List Int) : List Int)).bind fun y198 => (if y198.length + l0.length < 17592186044416 then (some (y198 ++ l0)) else (none))
set_option maxHeartbeats 8000000 in
set_option maxRecDepth 100000 in
theorem spec_l1Copy.calls (A0 : Option Addr) (c0 : Nat) (l0 : List Int) (r : List Int) (w : World) (hr0 : Kd.C (Kd.int .i64) w A0 l0.length l0) (hc0 : l0.length ≤ c0) (h : spec_l1Copy.f l0 = some r) :
  Calls Try.prog 92 #[.slice A0 l0.length c0] w fun e w' => ∃ v0_ : Value, e = .returned (v0_) ∧ Kd.R (Kd.int .i64) 3 w' w.heap.size (fun _ => True) v0_ r ∧ Below w.heap.size w w' := by
 have HR0 := sd_ hr0
 have HC0 := sd_ hc0
 clear hr0 hc0
 have HB := sd_ (Below.refl w.heap.size w)
 have H : ((some (([] : List Int) : List Int)).bind fun y198 => (if y198.length + l0.length < 17592186044416 then (some (y198 ++ l0)) else (none))) = some r := h
 clear h
 obtain ⟨y198, hy198⟩ : ∃ y_ : List Int, y_ = (([] : List Int)) := ⟨_, rfl⟩
 replace H : (if y198.length + l0.length < 17592186044416 then (some (y198 ++ l0)) else (none)) = some r := by first | (rw [hy198]; with_reducible exact H) | (have H2_ := (Option.bind_some _ _).symm.trans H; rw [hy198]; with_reducible exact H2_) | (have H2_ := (Option.bind_some _ _).symm.trans H; with_reducible exact H2_) | with_reducible exact H | (rw [hy198]; exact H) | exact H
 have Ny198 := sd_ hy198
 clear hy198
 by_cases c2 : y198.length + l0.length < 17592186044416
 ·rw [if_pos c2] at H
  have LMc2 := sd_ c2
  clear c2
  obtain ⟨y201, hy201⟩ : ∃ y_ : List Int, y_ = (y198 ++ l0) := ⟨_, rfl⟩
  replace H : (some y201) = some r := by first | (rw [hy201]; with_reducible exact H) | (have H2_ := (Option.bind_some _ _).symm.trans H; rw [hy201]; with_reducible exact H2_) | (have H2_ := (Option.bind_some _ _).symm.trans H; with_reducible exact H2_) | with_reducible exact H | (rw [hy201]; exact H) | exact H
  have Ny201 := sd_ hy201
  clear hy201
  obtain rfl := Option.some.inj H
  go_enter Try.func92, Try.ntmps92
  go_wp2_with (first | ((with_reducible refine gate_dst (N := 3) rfl ?_); refine Kd.R_lit (Kd.int .i64) _ 3 ?hg (N := 3) ?hd (xs := ([] : List Int)) (inner := []) (ok := fun _ => True) (okp := fun _ => True) ?hr ?hp (fun _ hk => hk) trivial (Below.refl _ _) (Nat.le_refl _) (by simp) ?_; (case hd => rfl); (case hg => rfl); (case hr => first | (go_simp; done) | (go_simp; rfl)); (case hp => exact (Reps.none _ _)); intro v199 w3 ho4 hb hg_ hnew_; clear hg_ hnew_; (first | rw [← Ny198.out] at ho4 | (simp only [Int.reduceToNat] at ho4; rw [← Ny198.out] at ho4)); have HO200 := sd_ (Kd.R_lower ho4 (below_size (bw0_ HB.out))); replace HB := sd_ (below_step (bw0_ HB.out) hb); clear hb ho4) | ((with_reducible refine gate_builtin (b := .append) (xs := #[.tmp 3, .tmp 4]) rfl ?_); at_builtin; refine Kd.R_append_rows (Kd.int .i64) (w0 := w) w.heap.size rfl (.tmp 3) (.tmp 4) 22 3 (.int .i64 0) 8 rfl Try.underlying22 info3 rfl (by decide) (by omega) v199 y198 l0 _ _ _ (fun _ => True) (fun _ => False) rfl rfl ?aO ?aR (fun _ _ h => h) (fun _ h => h.elim) ?aF ?aB ?aS ?aL ?_; (case aR => exact kc_ HR0.out HB.out); (case aB => exact (bw0_ HB.out)); (case aF => exact (fun _ _ => trivial)); (case aO => exact (ro_ HO200.out)); (case aS => exact (below_size (bw0_ HB.out))); (case aL => have := LMc2.out; omega); intro v202 w5 ho hb hg hat; rw [← Ny201.out] at ho; have n0_ := sd_ (hb); have n1_ := sd_ (ho); clear HB; clear HO200; have HB := n0_; have HO203 := n1_; clear n0_ n1_; clear ho hb hg hat))
  go_ret
  exact ⟨_, an_, by (with_reducible repeat (first | apply Kd.R_alloc | apply Kd.R_drewN | apply Kd.R_drew)); exact HO203.out, bw0_ HB.out⟩
 rw [if_neg c2] at H
 exact absurd H (by simp)

end Go.Proofs.Ytipfkicndjddgaa.P
end
