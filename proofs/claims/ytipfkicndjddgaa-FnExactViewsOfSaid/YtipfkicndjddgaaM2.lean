-- Several texts in one (wip/tools/merge.py).
import Derived.Test.YtipfkicndjddgaaM1
import Derived.Test.YtipfkicndjddgaaP0
import Derived.ProofKit
import Derived.ChangeArms
import Derived.Deep.Slices
import Derived.Lib.SmallJoins
section
/- Lists of marks, all of them; lists put in order. -/
set_option linter.unusedSimpArgs false
set_option linter.unusedVariables false
namespace Go.Proofs.Ytipfkicndjddgaa.Pure
open Go.RowKit Go.Proofs.Ytipfkicndjddgaa.P Go.Proofs.YtipfkicndjddgaaW.PrintWords Go.Proofs.YtipfkicndjddgaaW.PrintLast
theorem w64v {x : Int} (h1 : -9223372036854775808 ≤ x) (h2 : x ≤ 9223372036854775807) : wrap64 x = x := by unfold wrap64; omega
theorem and_low (x j : Nat) (hx : x < 4611686018427387904) (hj : j ≤ 2) : Go.bits .and .i64 (x : Int) ((2 ^ j - 1 : Nat) : Int) = ((x % 2 ^ j : Nat) : Int) := by
  have h1 : (BitVec.ofInt 64 (x : Int)).toNat = x := by rw [BitVec.toNat_ofInt]; omega
  have h3 : (2 ^ j - 1 : Nat) < 4 := by rcases j with _ | _ | _ | j <;> simp_all
  have h2 : (BitVec.ofInt 64 ((2 ^ j - 1 : Nat) : Int)).toNat = 2 ^ j - 1 := by rw [BitVec.toNat_ofInt]; omega
  have h4 : (BitVec.ofInt 64 (x : Int) &&& BitVec.ofInt 64 ((2 ^ j - 1 : Nat) : Int)).toNat = x % 2 ^ j := by rw [BitVec.toNat_and, h1, h2, Nat.and_two_pow_sub_one_eq_mod]
  show IntKind.i64.wrap ((BitVec.ofInt 64 (x : Int) &&& BitVec.ofInt 64 ((2 ^ j - 1 : Nat) : Int)).toNat : Int) = _
  rw [h4, i64_w, w64v (by omega) (by have := Nat.mod_le x (2 ^ j); omega)]
theorem and3 (x : Nat) (hx : x < 4611686018427387904) : Go.bits .and .i64 (x : Int) 3 = ((x % 4 : Nat) : Int) := and_low x 2 hx (by decide)
theorem and1 (x : Nat) (hx : x < 4611686018427387904) : Go.bits .and .i64 (x : Int) 1 = ((x % 2 : Nat) : Int) := and_low x 1 hx (by decide)
theorem shr_nat (x g : Nat) (hg : g ≤ 64) : shr .i64 (x : Int) (g : Int) = ((x / 2 ^ g : Nat) : Int) := by
  unfold shr
  rw [Int.toNat_natCast, Nat.min_eq_left (by exact hg), Int.natCast_ediv, Int.natCast_pow]
  rfl
theorem shl_nat (N : Nat) (hN : N ≤ 16) : shl .i64 1 (N : Int) = ((2 ^ N : Nat) : Int) := by
  have h : ∀ q : Nat, q < 17 → shl .i64 1 (q : Int) = ((2 ^ q : Nat) : Int) := by decide
  exact h N (by omega)
/-! ## all lists of marks -/
def bitsm : Nat → Nat → List Bool
  | 0, _ => []
  | m + 1, y => decide (y % 2 = 1) :: bitsm m (y / 2)
theorem bitsm_len : ∀ m y, (bitsm m y).length = m
  | 0, _ => rfl
  | m + 1, y => by simp [bitsm, bitsm_len m]
theorem fm_congr {α β : Type} {f g : α → Option β} : ∀ {l : List α}, (∀ x, x ∈ l → f x = g x) → l.filterMap f = l.filterMap g
  | [], _ => rfl
  | a :: l, h => by rw [List.filterMap_cons, List.filterMap_cons, h a (List.mem_cons_self ..), fm_congr fun x hx => h x (List.mem_cons_of_mem _ hx)]
def allM : Nat → List (List Bool)
  | 0 => [[]]
  | m + 1 => (allM m).map (true :: ·) ++ (allM m).map (false :: ·)
theorem allM_len : ∀ m, (allM m).length = 2 ^ m
  | 0 => rfl
  | m + 1 => by rw [allM, List.length_append, List.length_map, List.length_map, allM_len m, Nat.pow_succ]; omega
theorem range_two : ∀ K : Nat, (List.range (2 * K)).Perm ((List.range K).map (fun y => 2 * y + 1) ++ (List.range K).map (fun y => 2 * y))
  | 0 => by simp
  | K + 1 => by
    rw [show 2 * (K + 1) = 2 * K + 1 + 1 by omega, List.range_succ, List.range_succ, List.range_succ (n := K), List.map_append, List.map_append]
    have ih := range_two K
    have h1 : (List.range (2 * K) ++ [2 * K] ++ [2 * K + 1]).Perm (((List.range K).map (fun y => 2 * y + 1) ++ (List.range K).map (fun y => 2 * y)) ++ [2 * K] ++ [2 * K + 1]) := (ih.append_right _).append_right _
    refine h1.trans ?_
    rw [List.append_assoc, List.append_assoc, List.append_assoc]
    refine List.Perm.append_left _ ?_
    rw [← List.append_assoc]
    exact List.perm_append_comm
theorem enumM : ∀ m : Nat, ((List.range (2 ^ m)).map (bitsm m)).Perm (allM m)
  | 0 => by simp [bitsm, allM, List.range_succ]
  | m + 1 => by
    rw [Nat.pow_succ, Nat.mul_comm]
    refine ((range_two (2 ^ m)).map _).trans ?_
    rw [List.map_append, List.map_map, List.map_map]
    have e1 : (List.range (2 ^ m)).map (bitsm (m + 1) ∘ fun y => 2 * y + 1) = ((List.range (2 ^ m)).map (bitsm m)).map (true :: ·) := by
      rw [List.map_map]
      refine List.map_congr_left fun y _ => ?_
      show bitsm (m + 1) (2 * y + 1) = true :: bitsm m y
      rw [bitsm, show (2 * y + 1) / 2 = y by omega, decide_eq_true (by omega)]
    have e2 : (List.range (2 ^ m)).map (bitsm (m + 1) ∘ fun y => 2 * y) = ((List.range (2 ^ m)).map (bitsm m)).map (false :: ·) := by
      rw [List.map_map]
      refine List.map_congr_left fun y _ => ?_
      show bitsm (m + 1) (2 * y) = false :: bitsm m y
      rw [bitsm, show (2 * y) / 2 = y by omega, decide_eq_false (by omega)]
    rw [e1, e2, allM]
    exact ((enumM m).map _).append ((enumM m).map _)
theorem skip4 {β : Type} (g : Nat → Option β) (h : ∀ x, x % 4 ≠ 2 → g x = none) : ∀ K : Nat, (List.range (4 * K)).filterMap g = (List.range K).filterMap (fun y => g (4 * y + 2))
  | 0 => by simp
  | K + 1 => by
    rw [show 4 * (K + 1) = 4 * K + 1 + 1 + 1 + 1 by omega, List.range_succ, List.range_succ, List.range_succ, List.range_succ, List.range_succ (n := K)]
    simp only [List.filterMap_append, skip4 g h K, List.filterMap_cons, List.filterMap_nil, h (4 * K) (by omega), h (4 * K + 1) (by omega), h (4 * K + 1 + 1 + 1) (by omega), List.append_nil]
def memL : List Bool → Int → List Int
  | [], _ => []
  | b :: bs, i => if b = true then i :: memL bs (i + 1) else memL bs (i + 1)
theorem memL_len : ∀ (s : List Bool) (i : Int), (memL s i).length ≤ s.length
  | [], _ => by simp [memL]
  | b :: bs, i => by
    have := memL_len bs (i + 1)
    unfold memL
    split <;> simp <;> omega
/-- The lists that a set of marks tells, ahead of which pre stands. -/
def viewsL (M : List Bool → Bool) (m : Nat) (pre : List Bool) : List (List Int) := (allM m).filterMap fun v => if M (pre ++ v) = true then some (memL (pre ++ v) 0) else none
theorem viewsL_zero (M : List Bool → Bool) (pre : List Bool) : viewsL M 0 pre = if M pre = true then [memL pre 0] else [] := by
  unfold viewsL allM
  simp only [List.filterMap_cons, List.filterMap_nil, List.append_nil]
  by_cases c : M pre = true
  · simp [c]
  · simp [c]
theorem viewsL_succ (M : List Bool → Bool) (m : Nat) (pre : List Bool) : viewsL M (m + 1) pre = viewsL M m (pre ++ [true]) ++ viewsL M m (pre ++ [false]) := by
  unfold viewsL
  rw [allM, List.filterMap_append, List.filterMap_map, List.filterMap_map]
  congr 1 <;> (refine fm_congr fun v _ => ?_; simp)
theorem viewsL_len (M : List Bool → Bool) (m : Nat) (pre : List Bool) : (viewsL M m pre).length ≤ 2 ^ m := by
  unfold viewsL
  refine Nat.le_trans (List.length_filterMap_le _ _) ?_
  rw [allM_len]; exact Nat.le_refl _
/-- The same, by the sets' numbers. -/
theorem viewsL_sets (M : List Bool → Bool) (m : Nat) : ((List.range (2 ^ (m + 2))).filterMap fun x => if x % 4 = 2 then (if M (bitsm (m + 2) x) = true then some (memL (bitsm (m + 2) x) 0) else none) else none).Perm (viewsL M m [false, true]) := by
  rw [show 2 ^ (m + 2) = 4 * 2 ^ m by rw [Nat.pow_add]; omega, skip4 _ (fun x hx => by rw [if_neg hx])]
  have e : ∀ y, bitsm (m + 2) (4 * y + 2) = [false, true] ++ bitsm m y := fun y => by
    rw [bitsm, bitsm, decide_eq_false (by omega), decide_eq_true (by omega), show (4 * y + 2) / 2 / 2 = y by omega]; rfl
  have e2 : ((List.range (2 ^ m)).filterMap fun y => if (4 * y + 2) % 4 = 2 then (if M (bitsm (m + 2) (4 * y + 2)) = true then some (memL (bitsm (m + 2) (4 * y + 2)) 0) else none) else none) = ((List.range (2 ^ m)).map (bitsm m)).filterMap (fun v => if M ([false, true] ++ v) = true then some (memL ([false, true] ++ v) 0) else none) := by
    rw [List.filterMap_map]
    refine fm_congr fun y _ => ?_
    rw [if_pos (by omega), e]
    rfl
  rw [e2]
  exact (enumM m).filterMap _
/-! ## lists put in order -/
def findK (x : List Int) (out : List (List Int)) : Nat → Nat
  | 0 => 0
  | k + 1 => if cmpL x (out.getD k []) < 0 then findK x out k else k + 1
theorem findK_le (x : List Int) (out : List (List Int)) : ∀ k, findK x out k ≤ k
  | 0 => Nat.le_refl 0
  | k + 1 => by
    have := findK_le x out k
    unfold findK
    split <;> omega
def insL (out : List (List Int)) (x : List Int) : List (List Int) := out.take (findK x out out.length) ++ x :: out.drop (findK x out out.length)
theorem insL_len (out : List (List Int)) (x : List Int) : (insL out x).length = out.length + 1 := by
  have := findK_le x out out.length
  unfold insL
  simp; omega
theorem insL_perm (out : List (List Int)) (x : List Int) : (insL out x).Perm (out ++ [x]) := by
  unfold insL
  refine (List.perm_middle).trans ?_
  rw [List.take_append_drop]
  exact (List.perm_append_comm (l₁ := [x]) (l₂ := out))
theorem findK_after (x : List Int) (out : List (List Int)) : ∀ k j, findK x out k ≤ j → j < k → cmpL x (out.getD j []) < 0
  | 0, j, _, h => absurd h (by omega)
  | k + 1, j, h1, h2 => by
    unfold findK at h1
    by_cases c : cmpL x (out.getD k []) < 0
    · rw [if_pos c] at h1
      by_cases e : j = k
      · rw [e]; exact c
      · exact findK_after x out k j h1 (by omega)
    · rw [if_neg c] at h1; omega
theorem findK_ahead (x : List Int) (out : List (List Int)) : ∀ k, 0 < findK x out k → ¬ cmpL x (out.getD (findK x out k - 1) []) < 0
  | 0, h => absurd h (by simp [findK])
  | k + 1, h => by
    unfold findK at h ⊢
    by_cases c : cmpL x (out.getD k []) < 0
    · rw [if_pos c] at h ⊢; exact findK_ahead x out k h
    · rw [if_neg c]; exact c
theorem insL_sorted (out : List (List Int)) (x : List Int) (hs : out.Pairwise fun a b => cmpL a b ≤ 0) : (insL out x).Pairwise fun a b => cmpL a b ≤ 0 := by
  have hK := findK_le x out out.length
  have hi := List.pairwise_iff_getElem.1 hs
  have gd : ∀ j (hj : j < out.length), out.getD j [] = out[j] := fun j hj => by rw [List.getD_eq_getElem?_getD, List.getElem?_eq_getElem hj]; rfl
  have af : ∀ j (hj : j < out.length), findK x out out.length ≤ j → cmpL x out[j] ≤ 0 := fun j hj h => by
    have := findK_after x out out.length j h hj
    rw [gd j hj] at this; omega
  have ah : ∀ j (hj : j < out.length), j < findK x out out.length → cmpL out[j] x ≤ 0 := fun j hj h => by
    have h1 := findK_ahead x out out.length (by omega)
    have hq : findK x out out.length - 1 < out.length := by omega
    rw [gd _ hq] at h1
    have h2 := cmpL_neg x out[findK x out out.length - 1]
    by_cases e : j = findK x out out.length - 1
    · subst e; omega
    · have h3 := hi j (findK x out out.length - 1) hj hq (by omega)
      exact cmpL_trans _ _ _ h3 (by omega)
  unfold insL
  rw [List.pairwise_append]
  refine ⟨hs.sublist (List.take_sublist _ _), ?_, ?_⟩
  · rw [List.pairwise_cons]
    refine ⟨fun y hy => ?_, hs.sublist (List.drop_sublist _ _)⟩
    obtain ⟨j, hj, rfl⟩ := List.mem_iff_getElem.1 hy
    rw [List.getElem_drop]
    exact af _ (by rw [List.length_drop] at hj; omega) (Nat.le_add_right _ _)
  · intro a ha b hb
    obtain ⟨j, hj, rfl⟩ := List.mem_iff_getElem.1 ha
    rw [List.length_take] at hj
    rw [List.getElem_take]
    have a1 := ah j (by omega) (by omega)
    rcases List.mem_cons.1 hb with rfl | hb
    · exact a1
    · obtain ⟨q, hq, rfl⟩ := List.mem_iff_getElem.1 hb
      rw [List.length_drop] at hq
      rw [List.getElem_drop]
      exact cmpL_trans _ _ _ a1 (af _ (by omega) (Nat.le_add_right _ _))
theorem insAll (all : List (List Int)) : ∀ out : List (List Int), (out.Pairwise fun a b => cmpL a b ≤ 0) → ((all.foldl insL out).Pairwise fun a b => cmpL a b ≤ 0) ∧ (all.foldl insL out).Perm (out ++ all) := by
  induction all with
  | nil => intro out h; exact ⟨h, by simp⟩
  | cons x xs ih =>
    intro out h
    obtain ⟨h1, h2⟩ := ih (insL out x) (insL_sorted out x h)
    refine ⟨h1, h2.trans ?_⟩
    refine ((insL_perm out x).append_right xs).trans ?_
    rw [List.append_assoc]
    exact List.Perm.refl _
theorem insAll_sort (all : List (List Int)) : all.foldl insL [] = sortL all := by
  obtain ⟨h1, h2⟩ := insAll all [] List.Pairwise.nil
  exact sort_one (by simpa using h2) h1
theorem sortL_perm {a b : List (List Int)} (h : a.Perm b) : sortL a = sortL b := by
  obtain ⟨h1, h2⟩ := insAll a [] List.Pairwise.nil
  rw [← insAll_sort a]
  exact sort_one ((show (a.foldl insL []).Perm a by simpa using h2).trans h) h1
theorem sortL_len (l : List (List Int)) : (sortL l).length = l.length := (List.mergeSort_perm l _).length_eq
theorem sortL_mem {l : List (List Int)} {x : List Int} : x ∈ sortL l ↔ x ∈ l := (List.mergeSort_perm l _).mem_iff
end Go.Proofs.Ytipfkicndjddgaa.Pure
end

section
/- How what a law is handed reads as a value of the printed kinds: whole numbers, bools, strings, slices, structs. -/
namespace Go.Proofs.Ytipfkicndjddgaa.P
open Go.RowKit Go.Proofs.YtipfkicndjddgaaW.PrintWords Go.Proofs.YtipfkicndjddgaaW.PrintLast Go.Proofs.YtipfkicndjddgaaW.PrintMore

/-- What reads as data of type t holds a value of the kind d. -/
def Opens {α : Type} (t : TypeId) (d : Kd α) (wf : α → Prop) : Prop :=
  ∀ (H : Type) (enc : TypeId × Value → H) (w : World) (fuel : Nat) (cs : List Value) (x : DataW H × List MemPlace),
    DataW.trod enc Try.prog w 0 (fun _ => true) true fuel t cs = some x → ∃ y : α, d.K w y cs ∧ wf y

theorem opens_int {t : TypeId} {k : IntKind} (hu : Try.prog.underlying t = some (.int k)) : Opens t (Kd.int k) (fun n => (Lit.int k n).wf = true) := by
  intro H enc w fuel cs x h
  obtain ⟨n, rfl, _, hw⟩ := DataW.trod_int hu h
  exact ⟨n, rfl, hw⟩
theorem opens_bool {t : TypeId} (hu : Try.prog.underlying t = some .bool) : Opens t Kd.bool (fun _ => True) := by
  intro H enc w fuel cs x h
  obtain ⟨n, rfl, _⟩ := DataW.trod_bool hu h
  exact ⟨n, rfl, trivial⟩
theorem opens_string {t : TypeId} (hu : Try.prog.underlying t = some .string) : Opens t Kd.string (fun s => s.size ≤ maxLen) := by
  intro H enc w fuel cs x h
  obtain ⟨n, rfl, _, hw⟩ := DataW.trod_string hu h
  exact ⟨n, rfl, hw⟩

theorem list_of {α : Type} (n : Nat) {p : Nat → α → Prop} (h : ∀ i, i < n → ∃ a, p i a) : ∃ l : List α, l.length = n ∧ ∀ i a, l[i]? = some a → p i a := by
  induction n with
  | zero => exact ⟨[], rfl, fun i a h => by simp at h⟩
  | succ n ih =>
    obtain ⟨l, hl, hp⟩ := ih (fun i hi => h i (by omega))
    obtain ⟨a, ha⟩ := h n (by omega)
    refine ⟨l ++ [a], by simp [hl], fun i b hb => ?_⟩
    rcases Nat.lt_or_ge i l.length with hi | hi
    · rw [List.getElem?_append_left hi] at hb
      exact hp i b hb
    · rw [List.getElem?_append_right hi] at hb
      have hi2 : i - l.length = 0 := by
        have := (List.getElem?_eq_some_iff.1 hb).1
        simp at this
        omega
      rw [hi2] at hb
      simp at hb
      subst hb
      rw [show i = n by omega]
      exact ha

/-- A slice's elements, each read with less fuel. -/
theorem slice_opens {α : Type} {t e : TypeId} {d : Kd α} {wf : α → Prop} (hu : Try.prog.underlying t = some (.slice e)) (hc : Try.prog.cellsOf e = d.sz) {H : Type} {enc : TypeId × Value → H} {w : World} {fuel : Nat} {cs : List Value} {x : DataW H × List MemPlace}
    (h : DataW.trod enc Try.prog w 0 (fun _ => true) true fuel t cs = some x)
    (he : ∀ n cs y, n < fuel → DataW.trod enc Try.prog w 0 (fun _ => true) true n e cs = some y → ∃ z : α, d.K w z cs ∧ wf z) :
    ∃ l : List α, (Kd.slice e d).K w l cs ∧ (∀ z ∈ l, wf z) ∧ l.length ≤ maxLen := by
  rcases DataW.trod_slice hu h with ⟨rfl, _⟩ | ⟨a, len, cap, elems, rest, n, rfl, rfl, _, _, hl, hm, hlen, hel, _⟩
  · exact ⟨[], ⟨none, 0, rfl, Nat.le_refl _, by exact Kd.C_nil _ _⟩, by simp, by simp⟩
  · obtain ⟨l, hll, hp⟩ := list_of (α := α) len (p := fun i z => wf z ∧ ∃ c, c.length = d.sz ∧ d.K w z c ∧ ∀ j u, c[j]? = some u → w.cell? (a.add (i * d.sz + j)) = some u) (fun i hi => by
      have h1 := hel i hi
      rw [List.getElem?_eq_getElem (by omega)] at h1
      obtain ⟨c, hc1, hc2⟩ := Option.bind_eq_some_iff.1 h1
      obtain ⟨z, hz, hwz⟩ := he n c _ (by omega) hc2
      obtain ⟨_, hlc, hcell⟩ := World.cells?_some hc1
      rw [hc] at hlc hcell
      refine ⟨z, hwz, c, hlc, hz, fun j u hu2 => ?_⟩
      have hj : j < d.sz := by have := (List.getElem?_eq_some_iff.1 hu2).1; omega
      have h2 := hcell j hj
      rw [hu2, Addr.add_add] at h2
      exact h2)
    refine ⟨l, ⟨some a, cap, by rw [hll], by omega, ?_⟩, fun z hz => ?_, by omega⟩
    · refine ⟨rfl, by rw [hll]; unfold maxLen at hm; omega, fun _ => ⟨a, rfl, fun j p hj => (hp j p hj).2⟩⟩
    · obtain ⟨i, hi⟩ := List.getElem?_of_mem hz
      exact (hp i z hi).1
theorem opens_slice {α : Type} {t e : TypeId} {d : Kd α} {wf : α → Prop} (hu : Try.prog.underlying t = some (.slice e)) (hc : Try.prog.cellsOf e = d.sz) (he : Opens e d wf) :
    Opens t (Kd.slice e d) (fun l => (∀ z ∈ l, wf z) ∧ l.length ≤ maxLen) :=
  fun H enc w _ _ _ h => slice_opens hu hc h (fun n cs y _ hy => he H enc w n cs y hy)
theorem struct1_parts {t : TypeId} {f0 : Field} {H : Type} {enc : TypeId × Value → H} {w : World} {fuel : Nat} {cs : List Value} {x : DataW H × List MemPlace} (ht : Try.prog.underlying t = some (.struct #[f0])) (h : DataW.trod enc Try.prog w 0 (fun _ => true) true fuel t cs = some x) :
    ∃ y0 n, n < fuel ∧ cs.length = Try.prog.cellsOf t ∧ DataW.trod enc Try.prog w 0 (fun _ => true) true n f0.type ((cs.drop f0.offset).take (Try.prog.cellsOf f0.type)) = some y0 := by
  obtain ⟨xs, n, hn, rfl, hl, hlen, hf⟩ := DataW.trod_struct ht h
  match xs, hlen with
  | [y0], _ => exact ⟨y0, n, by omega, hl, by simpa using hf 0 f0 rfl⟩
theorem list1_of {α : Type} {l : List α} (h : l.length = 1) : ∃ c0, l = [c0] := by
  match l, h with
  | [c0], _ => exact ⟨c0, rfl⟩
theorem struct2_parts {t : TypeId} {f0 f1 : Field} {H : Type} {enc : TypeId × Value → H} {w : World} {fuel : Nat} {cs : List Value} {x : DataW H × List MemPlace} (ht : Try.prog.underlying t = some (.struct #[f0, f1])) (h : DataW.trod enc Try.prog w 0 (fun _ => true) true fuel t cs = some x) :
    ∃ y0 y1 n, n < fuel ∧ cs.length = Try.prog.cellsOf t ∧ DataW.trod enc Try.prog w 0 (fun _ => true) true n f0.type ((cs.drop f0.offset).take (Try.prog.cellsOf f0.type)) = some y0 ∧ DataW.trod enc Try.prog w 0 (fun _ => true) true n f1.type ((cs.drop f1.offset).take (Try.prog.cellsOf f1.type)) = some y1 := by
  obtain ⟨xs, n, hn, rfl, hl, hlen, hf⟩ := DataW.trod_struct ht h
  match xs, hlen with
  | [y0, y1], _ => exact ⟨y0, y1, n, by omega, hl, by simpa using hf 0 f0 rfl, by simpa using hf 1 f1 rfl⟩
theorem list2_of {α : Type} {l : List α} (h : l.length = 2) : ∃ c0 c1, l = [c0, c1] := by
  match l, h with
  | [c0, c1], _ => exact ⟨c0, c1, rfl⟩
theorem struct3_parts {t : TypeId} {f0 f1 f2 : Field} {H : Type} {enc : TypeId × Value → H} {w : World} {fuel : Nat} {cs : List Value} {x : DataW H × List MemPlace} (ht : Try.prog.underlying t = some (.struct #[f0, f1, f2])) (h : DataW.trod enc Try.prog w 0 (fun _ => true) true fuel t cs = some x) :
    ∃ y0 y1 y2 n, n < fuel ∧ cs.length = Try.prog.cellsOf t ∧ DataW.trod enc Try.prog w 0 (fun _ => true) true n f0.type ((cs.drop f0.offset).take (Try.prog.cellsOf f0.type)) = some y0 ∧ DataW.trod enc Try.prog w 0 (fun _ => true) true n f1.type ((cs.drop f1.offset).take (Try.prog.cellsOf f1.type)) = some y1 ∧ DataW.trod enc Try.prog w 0 (fun _ => true) true n f2.type ((cs.drop f2.offset).take (Try.prog.cellsOf f2.type)) = some y2 := by
  obtain ⟨xs, n, hn, rfl, hl, hlen, hf⟩ := DataW.trod_struct ht h
  match xs, hlen with
  | [y0, y1, y2], _ => exact ⟨y0, y1, y2, n, by omega, hl, by simpa using hf 0 f0 rfl, by simpa using hf 1 f1 rfl, by simpa using hf 2 f2 rfl⟩
theorem list3_of {α : Type} {l : List α} (h : l.length = 3) : ∃ c0 c1 c2, l = [c0, c1, c2] := by
  match l, h with
  | [c0, c1, c2], _ => exact ⟨c0, c1, c2, rfl⟩
theorem struct4_parts {t : TypeId} {f0 f1 f2 f3 : Field} {H : Type} {enc : TypeId × Value → H} {w : World} {fuel : Nat} {cs : List Value} {x : DataW H × List MemPlace} (ht : Try.prog.underlying t = some (.struct #[f0, f1, f2, f3])) (h : DataW.trod enc Try.prog w 0 (fun _ => true) true fuel t cs = some x) :
    ∃ y0 y1 y2 y3 n, n < fuel ∧ cs.length = Try.prog.cellsOf t ∧ DataW.trod enc Try.prog w 0 (fun _ => true) true n f0.type ((cs.drop f0.offset).take (Try.prog.cellsOf f0.type)) = some y0 ∧ DataW.trod enc Try.prog w 0 (fun _ => true) true n f1.type ((cs.drop f1.offset).take (Try.prog.cellsOf f1.type)) = some y1 ∧ DataW.trod enc Try.prog w 0 (fun _ => true) true n f2.type ((cs.drop f2.offset).take (Try.prog.cellsOf f2.type)) = some y2 ∧ DataW.trod enc Try.prog w 0 (fun _ => true) true n f3.type ((cs.drop f3.offset).take (Try.prog.cellsOf f3.type)) = some y3 := by
  obtain ⟨xs, n, hn, rfl, hl, hlen, hf⟩ := DataW.trod_struct ht h
  match xs, hlen with
  | [y0, y1, y2, y3], _ => exact ⟨y0, y1, y2, y3, n, by omega, hl, by simpa using hf 0 f0 rfl, by simpa using hf 1 f1 rfl, by simpa using hf 2 f2 rfl, by simpa using hf 3 f3 rfl⟩
theorem list4_of {α : Type} {l : List α} (h : l.length = 4) : ∃ c0 c1 c2 c3, l = [c0, c1, c2, c3] := by
  match l, h with
  | [c0, c1, c2, c3], _ => exact ⟨c0, c1, c2, c3, rfl⟩
theorem opens_25 : Opens 25 k25 Wf25 := by
  intro H enc w fuel
  induction fuel using Nat.strongRecOn with
  | _ fuel ih =>
  intro cs x h
  obtain ⟨y0, y1, y2, y3, n, hn, hlen, h0, h1, h2, h3⟩ := struct4_parts Try.underlying25 h
  rw [show Try.prog.cellsOf 25 = 4 from by kernel_rfl] at hlen
  obtain ⟨c0, c1, c2, c3, rfl⟩ := list4_of hlen
  have g0 : DataW.trod enc Try.prog w 0 (fun _ => true) true n 3 [c0] = some y0 := by
    have e0 : Try.prog.cellsOf 3 = 1 := by kernel_rfl
    have z0 := h0
    simp only [e0] at z0
    exact z0
  have g1 : DataW.trod enc Try.prog w 0 (fun _ => true) true n 22 [c1] = some y1 := by
    have e1 : Try.prog.cellsOf 22 = 1 := by kernel_rfl
    have z1 := h1
    simp only [e1] at z1
    exact z1
  have g2 : DataW.trod enc Try.prog w 0 (fun _ => true) true n 22 [c2] = some y2 := by
    have e2 : Try.prog.cellsOf 22 = 1 := by kernel_rfl
    have z2 := h2
    simp only [e2] at z2
    exact z2
  have g3 : DataW.trod enc Try.prog w 0 (fun _ => true) true n 23 [c3] = some y3 := by
    have e3 : Try.prog.cellsOf 23 = 1 := by kernel_rfl
    have z3 := h3
    simp only [e3] at z3
    exact z3
  obtain ⟨z0, e0, hw0⟩ := (opens_int Try.underlying3) H enc w n _ _ g0
  replace e0 : [c0] = [.int .i64 z0] := e0
  obtain ⟨z1, ⟨A1, d1, e1, hl1, hC1⟩, hw1⟩ := (opens_slice Try.underlying22 (by kernel_rfl) (opens_int Try.underlying3)) H enc w n _ _ g1
  obtain ⟨z2, ⟨A2, d2, e2, hl2, hC2⟩, hw2⟩ := (opens_slice Try.underlying22 (by kernel_rfl) (opens_int Try.underlying3)) H enc w n _ _ g2
  obtain ⟨z3, ⟨A3, d3, e3, hl3, hC3⟩, hw3⟩ := (opens_slice Try.underlying23 (by kernel_rfl) (opens_bool Try.underlying4)) H enc w n _ _ g3
  obtain rfl := (List.cons.inj e0).1
  obtain rfl := (List.cons.inj e1).1
  obtain rfl := (List.cons.inj e2).1
  obtain rfl := (List.cons.inj e3).1
  exact ⟨⟨z0, z1, z2, z3⟩, k25_mk w ⟨z0, z1, z2, z3⟩ hl1 hC1 hl2 hC2 hl3 hC3, .mk _ _ _ _ hw0 hw1 hw2 hw3⟩
end Go.Proofs.Ytipfkicndjddgaa.P
end

section
namespace Go.Proofs.Ytipfkicndjddgaa.P
open Go.RowKit Go.Proofs.YtipfkicndjddgaaW.PrintWords Go.Proofs.YtipfkicndjddgaaW.PrintLast Go.Proofs.YtipfkicndjddgaaW.PrintMore
attribute [local go_sem] max2_int min2_int max_two min_two max_three min_three max_four min_four   -- for this text's walks alone
set_option linter.unusedVariables false
set_option linter.unusedSimpArgs false

/-! ### laws_toIntS: function 17 -/
def laws_toIntS.l0 : Nat → List Int → List Int → Int → Option (List Int)
 | 0, _, _, _ => none
 | k + 1, x0, x3, x4 => if x4 < (x0.length : Int) then (if 0 ≤ x4 then (if x4 < (x3.length : Int) then (laws_toIntS.l0 k x0 (x3.set (x4 : Int).toNat (rd x0 x4)) (wrap64 (x4 + 1))) else (none)) else (none)) else (some x3)
def laws_toIntS.f (k : Nat) (l0 : List Int) : Option (List Int) := if 0 ≤ (l0.length : Int) then (if ((l0.length : Int) : Int).toNat ≤ 35184372088832 then (laws_toIntS.l0 k l0 (List.replicate ((l0.length : Int) : Int).toNat 0) 0) else (none)) else (none)
set_option maxHeartbeats 8000000 in
set_option maxRecDepth 100000 in
theorem laws_toIntS.calls (k : Nat) (A0 : Option Addr) (c0 : Nat) (l0 : List Int) (r : List Int) (w : World) (hr0 : Kd.C (Kd.int .i64) w A0 l0.length l0) (hc0 : l0.length ≤ c0) (h : laws_toIntS.f k l0 = some r) :
  Calls Try.prog 17 #[.slice A0 l0.length c0] w fun e w' => ∃ v0_ : Value, e = .returned (v0_) ∧ Kd.R (Kd.int .i64) 3 w' w.heap.size (fun _ => True) v0_ r ∧ Below w.heap.size w w' := by
 have HR0 := sd_ hr0
 have HC0 := sd_ hc0
 clear hr0 hc0
 have HB := sd_ (Below.refl w.heap.size w)
 have H : (if 0 ≤ (l0.length : Int) then (if ((l0.length : Int) : Int).toNat ≤ 35184372088832 then (laws_toIntS.l0 k l0 (List.replicate ((l0.length : Int) : Int).toNat 0) 0) else (none)) else (none)) = some r := h
 clear h
 by_cases c2 : 0 ≤ (l0.length : Int)
 ·rw [if_pos c2] at H
  have c2b0 := eq_true c2
  have c2b1 : decide (0 ≤ (l0.length : Int)) = true := decide_eq_true c2
  clear c2
  by_cases c3 : ((l0.length : Int) : Int).toNat ≤ 35184372088832
  ·rw [if_pos c3] at H
   have c3b0 := eq_true c3
   have c3b1 : decide (((l0.length : Int) : Int).toNat ≤ 35184372088832) = true := decide_eq_true c3
   clear c3
   obtain ⟨y105, hy105⟩ : ∃ y_ : List Int, y_ = (List.replicate ((l0.length : Int) : Int).toNat 0) := ⟨_, rfl⟩
   replace H : (laws_toIntS.l0 k l0 y105 0) = some r := by first | (rw [hy105]; with_reducible exact H) | (have H2_ := (Option.bind_some _ _).symm.trans H; rw [hy105]; with_reducible exact H2_) | (have H2_ := (Option.bind_some _ _).symm.trans H; with_reducible exact H2_) | with_reducible exact H | (rw [hy105]; exact H) | exact H
   have Ny105 := sd_ hy105
   clear hy105
   have H' := sd_ H
   clear H
   go_enter Try.func17, Try.ntmps17
   go_wp2_with (first | ((with_reducible refine gate_dst (N := 7) rfl ?_); refine Kd.R_make (Kd.int .i64) _ 3 rfl (N := 7) rfl 22 _ _ rfl (l0.length : Int) rfl rfl Try.underlying22 (.int .i64 0) 8 info3 rfl (by decide) (by omega) 0 (ok := fun _ => True) (okp := fun _ => True) rfl (fun _ hk => hk) trivial (dt_) (Nat.le_trans (Nat.mul_le_mul_right _ (dt_ : (l0.length : Int).toNat ≤ 35184372088832)) (by omega)) (Below.refl _ _) (Nat.le_refl _) ?_; intro v106 w4 ho5 hb hg_ hnew_; clear hg_ hnew_; (first | rw [← Ny105.out] at ho5 | (simp only [Int.reduceToNat] at ho5; rw [← Ny105.out] at ho5)); have HO107 := sd_ (Kd.R_lower ho5 (below_size (bw0_ HB.out))); replace HB := sd_ (below_step (bw0_ HB.out) hb); clear hb ho5))
   go_loopg [4] k (fun kq v4 w' => ∃ (x3_1 : List Int) (x4_1 : Int), v4 = .int .i64 x4_1 ∧ Aside0 (laws_toIntS.l0 kq l0 x3_1 x4_1 = some r) ∧ Aside0 (kq ≤ k) ∧ Aside0 (Kd.R (Kd.int .i64) 3 w' w.heap.size (fun _ => True) v106 x3_1) ∧ Aside0 (Below w.heap.size w w'))
   case atStart => exact ⟨(y105), (0), sm_, H', ⟨Nat.le_refl _⟩, ⟨by (with_reducible repeat (first | apply Kd.R_alloc | apply Kd.R_drewN | apply Kd.R_drew)); exact HO107.out⟩, ⟨bw0_ HB.out⟩⟩
   case round =>
    clear H'
    try clear c1
    try clear c2
    try clear c2b0
    try clear c2b1
    try clear p2
    try clear c3
    try clear c3b0
    try clear c3b1
    obtain ⟨x3_1, x4_1, rfl, HA, HK1, HO_3, HB⟩ := hrel
    cases gk with
    | zero => exact absurd HA.out (by simp [laws_toIntS.l0])
    | succ k1 =>
     have H := HA.out
     clear HA
     simp only [laws_toIntS.l0] at H
     by_cases c6 : x4_1 < (l0.length : Int)
     ·rw [if_pos c6] at H
      have c6b0 : decide (x4_1 < (l0.length : Int)) = true := decide_eq_true c6
      clear c6
      by_cases c7 : 0 ≤ x4_1
      ·rw [if_pos c7] at H
       have c7b0 : decide (0 ≤ x4_1) = true := decide_eq_true c7
       clear c7
       by_cases c8 : x4_1 < (x3_1.length : Int)
       ·rw [if_pos c8] at H
        have c8b0 : decide (x4_1 < (x3_1.length : Int)) = true := decide_eq_true c8
        clear c8
        obtain ⟨y109, hy109⟩ : ∃ y_ : List Int, y_ = (x3_1.set (x4_1 : Int).toNat (rd l0 x4_1)) := ⟨_, rfl⟩
        replace H : (laws_toIntS.l0 k1 l0 y109 (wrap64 (x4_1 + 1))) = some r := by first | (rw [hy109]; with_reducible exact H) | (have H2_ := (Option.bind_some _ _).symm.trans H; rw [hy109]; with_reducible exact H2_) | (have H2_ := (Option.bind_some _ _).symm.trans H; with_reducible exact H2_) | with_reducible exact H | (rw [hy109]; exact H) | exact H
        have Ny109 := sd_ hy109
        clear hy109
        have H' := sd_ H
        clear H
        have p108 : 0 ≤ (x4_1 : Int) := dt_
        have q108 : x4_1 < (l0.length : Int) := dt_
        obtain ⟨ad108, e108, hx108_0⟩ := Kd.at_int HR0.out x4_1 p108 q108
        cases e108
        replace hx108_0 := (HB.out.cell (World.block_lt_of_cell? w _ hx108_0)).trans hx108_0
        replace p108 := eq_true p108
        replace q108 := eq_true q108
        have p9 : 0 ≤ (x4_1 : Int) := dt_
        have q9 : (x4_1 : Int) < ((x3_1.length : Int) : Int) := dt_
        obtain ⟨go9, co9, eo9, gb9, gl9, cl9, HG9⟩ := Kd.R_form HO_3.out (by omega)
        (first | cases eo9 | (injection eo9 with ea_ en_ ec_; (first | subst ea_ | (injection ea_ with ea_; subst ea_)); subst ec_; clear en_))
        have GB9 := sd_ gb9
        have GG9 := sd_ HG9
        clear gb9 gl9 HG9
        obtain ⟨hx9_0, hf9_0⟩ := Kd.R_celln 0 HO_3.out (x4_1 : Int) p9 q9
        replace p9 := eq_true p9
        replace q9 := eq_true q9
        have HP10 := Kd.R_putg HO_3.out (x4_1 : Int) (rd l0 x4_1)
        go_wp2_with (first | ((with_reducible refine gate_store (t := 3) (p := 20) rfl ?_); refine store_event (t := 3) (p := 20) (v := ?vo_w11) (w1 := (wr.setCell ⟨go9, (x4_1 : Int).toNat, none⟩ (.int .i64 (rd l0 x4_1)))) ?hg ?ho ?hn ?hr ?_; (case ho => rfl); (case hg => rfl); (case hn => rfl); (case hr => first | (go_simp; done) | (go_simp; rfl)); intro w11 hw; have hg : wr.grownBy w11 (some go9) := (by rw [hw]; exact HP10.2); have hp_ : Kd.R (Kd.int .i64) 3 w11 w.heap.size (fun _ => True) (.slice (some ⟨go9, 0, none⟩) x3_1.length co9) y109 := (by rw [hw, Ny109.out]; exact HP10.1); clear HP10; replace HO_3 := sd_ (hp_); replace HB := sd_ ((by rw [hw]; exact below_set (HB.out) GB9.out : Below w.heap.size w w11)); clear hg hw hp_))
        go_roundg k1
        case measure => have := HK1.out; omega
        case rel => exact ⟨(y109), (wrap64 (x4_1 + 1)), sm_, H', ⟨by have := HK1.out; omega⟩, ⟨by (with_reducible repeat (first | apply Kd.R_alloc | apply Kd.R_drewN | apply Kd.R_drew)); exact HO_3.out⟩, ⟨bw0_ HB.out⟩⟩
       rw [if_neg c8] at H
       exact absurd H (by simp)
      rw [if_neg c7] at H
      exact absurd H (by simp)
     rw [if_neg c6] at H
     have c6b0 : decide (x4_1 < (l0.length : Int)) = false := decide_eq_false c6
     clear c6
     obtain rfl := Option.some.inj H
     go_wp2
     go_ret
     exact ⟨_, an_, by (with_reducible repeat (first | apply Kd.R_alloc | apply Kd.R_drewN | apply Kd.R_drew)); exact HO_3.out, bw0_ HB.out⟩
  rw [if_neg c3] at H
  exact absurd H (by simp)
 rw [if_neg c2] at H
 exact absurd H (by simp)


/-! ### laws_eqIntS: function 21 -/
def laws_eqIntS.l0 : Nat → List Int → List Int → Int → Option (Bool)
 | 0, _, _, _ => none
 | k + 1, x0, x1, x5 => if x5 < (x0.length : Int) then (if 0 ≤ x5 then (if x5 < (x1.length : Int) then (if (rd x0 x5) = (rd x1 x5) then (laws_eqIntS.l0 k x0 x1 (wrap64 (x5 + 1))) else (some false)) else (none)) else (none)) else (some true)
def laws_eqIntS.f (k : Nat) (l0 : List Int) (l1 : List Int) : Option (Bool) := if (l0.length : Int) = (l1.length : Int) then (laws_eqIntS.l0 k l0 l1 0) else (some false)
set_option maxHeartbeats 8000000 in
set_option maxRecDepth 100000 in
theorem laws_eqIntS.calls (k : Nat) (A0 : Option Addr) (c0 : Nat) (l0 : List Int) (A1 : Option Addr) (c1 : Nat) (l1 : List Int) (r : Bool) (w : World) (hr0 : Kd.C (Kd.int .i64) w A0 l0.length l0) (hc0 : l0.length ≤ c0) (hr1 : Kd.C (Kd.int .i64) w A1 l1.length l1) (hc1 : l1.length ≤ c1) (h : laws_eqIntS.f k l0 l1 = some r) :
  Calls Try.prog 21 #[.slice A0 l0.length c0, .slice A1 l1.length c1] w fun e w' => e = .returned (.bool r) ∧ Drawn0 w w' := by
 have HR0 := sd_ hr0
 have HC0 := sd_ hc0
 clear hr0 hc0
 have HR1 := sd_ hr1
 have HC1 := sd_ hc1
 clear hr1 hc1
 have H : (if (l0.length : Int) = (l1.length : Int) then (laws_eqIntS.l0 k l0 l1 0) else (some false)) = some r := h
 clear h
 by_cases c3 : (l0.length : Int) = (l1.length : Int)
 ·rw [if_pos c3] at H
  have c3b0 : ((l0.length : Int) == (l1.length : Int)) = true := beq_iff_eq.mpr c3
  have c3b1 : ((l0.length : Int) != (l1.length : Int)) = false := bne_eq_false_iff_eq.mpr c3
  have c3b2 : (l0.length == l1.length) = true := by first | simpa using c3 | (simp at c3 ⊢; omega)
  clear c3
  have H' := sd_ H
  clear H
  go_enter Try.func21, Try.ntmps21
  go_wp2
  repeat (go_quiet (fail); try go_wp2)
  go_loopg [5] k (fun kq v5 w' => ∃ (x5_1 : Int), v5 = .int .i64 x5_1 ∧ Aside0 (laws_eqIntS.l0 kq l0 l1 x5_1 = some r) ∧ Aside0 (kq ≤ k) ∧ Drawn0 w w')
  case atStart => exact ⟨(0), sm_, H', ⟨Nat.le_refl _⟩, by repeat (first | exact Drawn0.refl _ | apply Drawn0.step)⟩
  case round =>
   clear H'
   try clear c1
   try clear c2
   try clear p2
   try clear c3
   try clear c3b0
   try clear c3b1
   try clear c3b2
   obtain ⟨x5_1, rfl, HA, HK1, ⟨m1, rfl⟩⟩ := hrel
   cases gk with
   | zero => exact absurd HA.out (by simp [laws_eqIntS.l0])
   | succ k1 =>
    have H := HA.out
    clear HA
    simp only [laws_eqIntS.l0] at H
    by_cases c4 : x5_1 < (l0.length : Int)
    ·rw [if_pos c4] at H
     have c4b0 : decide (x5_1 < (l0.length : Int)) = true := decide_eq_true c4
     clear c4
     by_cases c5 : 0 ≤ x5_1
     ·rw [if_pos c5] at H
      have c5b0 : decide (0 ≤ x5_1) = true := decide_eq_true c5
      clear c5
      by_cases c6 : x5_1 < (l1.length : Int)
      ·rw [if_pos c6] at H
       have c6b0 : decide (x5_1 < (l1.length : Int)) = true := decide_eq_true c6
       clear c6
       by_cases c7 : (rd l0 x5_1) = (rd l1 x5_1)
       ·rw [if_pos c7] at H
        have c7b0 : ((rd l0 x5_1) == (rd l1 x5_1)) = true := beq_iff_eq.mpr c7
        have c7b1 : ((rd l0 x5_1) != (rd l1 x5_1)) = false := bne_eq_false_iff_eq.mpr c7
        clear c7
        have H' := sd_ H
        clear H
        have p127 : 0 ≤ (x5_1 : Int) := dt_
        have q127 : x5_1 < (l0.length : Int) := dt_
        obtain ⟨ad127, e127, hx127_0⟩ := Kd.at_int HR0.out x5_1 p127 q127
        cases e127
        replace p127 := eq_true p127
        replace q127 := eq_true q127
        have p128 : 0 ≤ (x5_1 : Int) := dt_
        have q128 : x5_1 < (l1.length : Int) := dt_
        obtain ⟨ad128, e128, hx128_0⟩ := Kd.at_int HR1.out x5_1 p128 q128
        cases e128
        replace p128 := eq_true p128
        replace q128 := eq_true q128
        go_wp2
        repeat (go_quiet (fail); try go_wp2)
        go_roundg k1
        case measure => have := HK1.out; omega
        case rel => exact ⟨(wrap64 (x5_1 + 1)), sm_, H', ⟨by have := HK1.out; omega⟩, by repeat (first | exact Drawn0.refl _ | apply Drawn0.step)⟩
       rw [if_neg c7] at H
       have c7b0 : ((rd l0 x5_1) == (rd l1 x5_1)) = false := beq_eq_false_iff_ne.mpr c7
       have c7b1 : ((rd l0 x5_1) != (rd l1 x5_1)) = true := bne_iff_ne.mpr c7
       obtain rfl := Option.some.inj H
       have p127 : 0 ≤ (x5_1 : Int) := dt_
       have q127 : x5_1 < (l0.length : Int) := dt_
       obtain ⟨ad127, e127, hx127_0⟩ := Kd.at_int HR0.out x5_1 p127 q127
       cases e127
       replace p127 := eq_true p127
       replace q127 := eq_true q127
       have p128 : 0 ≤ (x5_1 : Int) := dt_
       have q128 : x5_1 < (l1.length : Int) := dt_
       obtain ⟨ad128, e128, hx128_0⟩ := Kd.at_int HR1.out x5_1 p128 q128
       cases e128
       replace p128 := eq_true p128
       replace q128 := eq_true q128
       go_wp2
       repeat (go_quiet (fail); try go_wp2)
       go_ret
       exact ⟨by first | rfl | (simp; done) | (simp [*]; done), by repeat (first | exact Drawn0.refl _ | apply Drawn0.step)⟩
      rw [if_neg c6] at H
      exact absurd H (by simp)
     rw [if_neg c5] at H
     exact absurd H (by simp)
    rw [if_neg c4] at H
    have c4b0 : decide (x5_1 < (l0.length : Int)) = false := decide_eq_false c4
    clear c4
    obtain rfl := Option.some.inj H
    go_wp2
    repeat (go_quiet (fail); try go_wp2)
    go_ret
    exact ⟨by first | rfl | (simp; done) | (simp [*]; done), by repeat (first | exact Drawn0.refl _ | apply Drawn0.step)⟩
 rw [if_neg c3] at H
 have c3b0 : ((l0.length : Int) == (l1.length : Int)) = false := beq_eq_false_iff_ne.mpr c3
 have c3b1 : ((l0.length : Int) != (l1.length : Int)) = true := bne_iff_ne.mpr c3
 have c3b2 : (l0.length == l1.length) = false := by first | simpa using c3 | (simp at c3 ⊢; omega)
 obtain rfl := Option.some.inj H
 go_enter Try.func21, Try.ntmps21
 go_wp2
 repeat (go_quiet (fail); try go_wp2)
 go_ret
 exact ⟨by first | rfl | (simp; done) | (simp [*]; done), by repeat (first | exact Drawn0.refl _ | apply Drawn0.step)⟩


/-! ### impl_within: function 104 -/
def impl_within.f (a0 : Int) (a1 : Int) (a2 : Int) : Option (Bool) := if a0 ≥ a1 then (some (decide (a0 ≤ a2))) else (some false)
set_option maxHeartbeats 8000000 in
set_option maxRecDepth 100000 in
theorem impl_within.calls (a0 : Int) (a1 : Int) (a2 : Int) (r : Bool) (w : World) (h : impl_within.f a0 a1 a2 = some r) :
  Calls Try.prog 104 #[.int .i64 a0, .int .i64 a1, .int .i64 a2] w fun e w' => e = .returned (.bool r) ∧ Drawn0 w w' := by
 have H : (if a0 ≥ a1 then (some (decide (a0 ≤ a2))) else (some false)) = some r := h
 clear h
 by_cases c4 : a0 ≥ a1
 ·rw [if_pos c4] at H
  have c4b0 : decide (a1 ≤ a0) = true := decide_eq_true c4
  clear c4
  obtain rfl := Option.some.inj H
  go_enter Try.func104, Try.ntmps104
  go_wp2
  go_ret
  exact ⟨by first | rfl | (simp; done) | (simp [*]; done), by repeat (first | exact Drawn0.refl _ | apply Drawn0.step)⟩
 rw [if_neg c4] at H
 have c4b0 : decide (a1 ≤ a0) = false := decide_eq_false c4
 clear c4
 obtain rfl := Option.some.inj H
 go_enter Try.func104, Try.ntmps104
 go_wp2
 go_ret
 exact ⟨by first | rfl | (simp; done) | (simp [*]; done), by repeat (first | exact Drawn0.refl _ | apply Drawn0.step)⟩

end Go.Proofs.Ytipfkicndjddgaa.P
end
