-- Several texts in one (wip/tools/merge.py).
import Derived.Test.YtjjkagnbdfofbaaM1
import Derived.Test.YtjjkagnbdfofbaaM2
import Derived.Laws.EntriesVeiled
section
/- Lists of marks, all of them; lists put in order. -/
set_option linter.unusedSimpArgs false
set_option linter.unusedVariables false
namespace Go.Proofs.Ytjjkagnbdfofbaa.Pure
open Go.RowKit Go.Proofs.Ytjjkagnbdfofbaa.P Go.Proofs.YtjjkagnbdfofbaaW.PrintWords Go.Proofs.YtjjkagnbdfofbaaW.PrintLast
theorem w64v {x : Int} (h1 : -9223372036854775808 ≤ x) (h2 : x ≤ 9223372036854775807) : wrap64 x = x := by unfold wrap64; omega
theorem and_low (x j : Nat) (hx : x < 4611686018427387904) (hj : j ≤ 2) : Go.bits .and .i64 (x : Int) ((2 ^ j - 1 : Nat) : Int) = ((x % 2 ^ j : Nat) : Int) := by
  have h1 : (BitVec.ofInt 64 (x : Int)).toNat = x := by rw [BitVec.toNat_ofInt]; omega
  have h3 : (2 ^ j - 1 : Nat) < 4 := by rcases j with _ | _ | _ | j <;> simp_all
  have h2 : (BitVec.ofInt 64 ((2 ^ j - 1 : Nat) : Int)).toNat = 2 ^ j - 1 := by rw [BitVec.toNat_ofInt]; omega
  have h4 : (BitVec.ofInt 64 (x : Int) &&& BitVec.ofInt 64 ((2 ^ j - 1 : Nat) : Int)).toNat = x % 2 ^ j := by rw [BitVec.toNat_and, h1, h2, Nat.and_two_pow_sub_one_eq_mod]
  show IntKind.i64.wrap ((BitVec.ofInt 64 (x : Int) &&& BitVec.ofInt 64 ((2 ^ j - 1 : Nat) : Int)).toNat : Int) = _
  rw [h4, i64_w, w64v (by omega) (by have := Nat.mod_le x (2 ^ j); omega)]
theorem and3 (x : Nat) (hx : x < 4611686018427387904) : Go.bits .and .i64 (x : Int) 3 = ((x % 4 : Nat) : Int) := and_low x 2 hx (by decide)
theorem and1 (x : Nat) (hx : x < 4611686018427387904) : Go.bits .and .i64 (x : Int) 1 = ((x % 2 : Nat) : Int) := and_low x 1 hx (by decide)
theorem shr_nat (x g : Nat) (hg : g ≤ 64) : shr .i64 (x : Int) (g : Int) = ((x / 2 ^ g : Nat) : Int) := by
  unfold shr
  rw [Int.toNat_natCast, Nat.min_eq_left (by exact hg), Int.natCast_ediv, Int.natCast_pow]
  rfl
theorem shl_nat (N : Nat) (hN : N ≤ 16) : shl .i64 1 (N : Int) = ((2 ^ N : Nat) : Int) := by
  have h : ∀ q : Nat, q < 17 → shl .i64 1 (q : Int) = ((2 ^ q : Nat) : Int) := by decide
  exact h N (by omega)
def bitsm : Nat → Nat → List Bool
  | 0, _ => []
  | m + 1, y => decide (y % 2 = 1) :: bitsm m (y / 2)
theorem bitsm_len : ∀ m y, (bitsm m y).length = m
  | 0, _ => rfl
  | m + 1, y => by simp [bitsm, bitsm_len m]
theorem fm_congr {α β : Type} {f g : α → Option β} : ∀ {l : List α}, (∀ x, x ∈ l → f x = g x) → l.filterMap f = l.filterMap g
  | [], _ => rfl
  | a :: l, h => by rw [List.filterMap_cons, List.filterMap_cons, h a (List.mem_cons_self ..), fm_congr fun x hx => h x (List.mem_cons_of_mem _ hx)]
def allM : Nat → List (List Bool)
  | 0 => [[]]
  | m + 1 => (allM m).map (true :: ·) ++ (allM m).map (false :: ·)
theorem allM_len : ∀ m, (allM m).length = 2 ^ m
  | 0 => rfl
  | m + 1 => by rw [allM, List.length_append, List.length_map, List.length_map, allM_len m, Nat.pow_succ]; omega
theorem range_two : ∀ K : Nat, (List.range (2 * K)).Perm ((List.range K).map (fun y => 2 * y + 1) ++ (List.range K).map (fun y => 2 * y))
  | 0 => by simp
  | K + 1 => by
    rw [show 2 * (K + 1) = 2 * K + 1 + 1 by omega, List.range_succ, List.range_succ, List.range_succ (n := K), List.map_append, List.map_append]
    have ih := range_two K
    have h1 : (List.range (2 * K) ++ [2 * K] ++ [2 * K + 1]).Perm (((List.range K).map (fun y => 2 * y + 1) ++ (List.range K).map (fun y => 2 * y)) ++ [2 * K] ++ [2 * K + 1]) := (ih.append_right _).append_right _
    refine h1.trans ?_
    rw [List.append_assoc, List.append_assoc, List.append_assoc]
    refine List.Perm.append_left _ ?_
    rw [← List.append_assoc]
    exact List.perm_append_comm
theorem enumM : ∀ m : Nat, ((List.range (2 ^ m)).map (bitsm m)).Perm (allM m)
  | 0 => by simp [bitsm, allM, List.range_succ]
  | m + 1 => by
    rw [Nat.pow_succ, Nat.mul_comm]
    refine ((range_two (2 ^ m)).map _).trans ?_
    rw [List.map_append, List.map_map, List.map_map]
    have e1 : (List.range (2 ^ m)).map (bitsm (m + 1) ∘ fun y => 2 * y + 1) = ((List.range (2 ^ m)).map (bitsm m)).map (true :: ·) := by
      rw [List.map_map]
      refine List.map_congr_left fun y _ => ?_
      show bitsm (m + 1) (2 * y + 1) = true :: bitsm m y
      rw [bitsm, show (2 * y + 1) / 2 = y by omega, decide_eq_true (by omega)]
    have e2 : (List.range (2 ^ m)).map (bitsm (m + 1) ∘ fun y => 2 * y) = ((List.range (2 ^ m)).map (bitsm m)).map (false :: ·) := by
      rw [List.map_map]
      refine List.map_congr_left fun y _ => ?_
      show bitsm (m + 1) (2 * y) = false :: bitsm m y
      rw [bitsm, show (2 * y) / 2 = y by omega, decide_eq_false (by omega)]
    rw [e1, e2, allM]
    exact ((enumM m).map _).append ((enumM m).map _)
theorem skip4 {β : Type} (g : Nat → Option β) (h : ∀ x, x % 4 ≠ 2 → g x = none) : ∀ K : Nat, (List.range (4 * K)).filterMap g = (List.range K).filterMap (fun y => g (4 * y + 2))
  | 0 => by simp
  | K + 1 => by
    rw [show 4 * (K + 1) = 4 * K + 1 + 1 + 1 + 1 by omega, List.range_succ, List.range_succ, List.range_succ, List.range_succ, List.range_succ (n := K)]
    simp only [List.filterMap_append, skip4 g h K, List.filterMap_cons, List.filterMap_nil, h (4 * K) (by omega), h (4 * K + 1) (by omega), h (4 * K + 1 + 1 + 1) (by omega), List.append_nil]
def memL : List Bool → Int → List Int
  | [], _ => []
  | b :: bs, i => if b = true then i :: memL bs (i + 1) else memL bs (i + 1)
theorem memL_len : ∀ (s : List Bool) (i : Int), (memL s i).length ≤ s.length
  | [], _ => by simp [memL]
  | b :: bs, i => by
    have := memL_len bs (i + 1)
    unfold memL
    split <;> simp <;> omega
/-- The lists that a set of marks tells, ahead of which pre stands. -/
def viewsL (M : List Bool → Bool) (m : Nat) (pre : List Bool) : List (List Int) := (allM m).filterMap fun v => if M (pre ++ v) = true then some (memL (pre ++ v) 0) else none
theorem viewsL_zero (M : List Bool → Bool) (pre : List Bool) : viewsL M 0 pre = if M pre = true then [memL pre 0] else [] := by
  unfold viewsL allM
  simp only [List.filterMap_cons, List.filterMap_nil, List.append_nil]
  by_cases c : M pre = true
  · simp [c]
  · simp [c]
theorem viewsL_succ (M : List Bool → Bool) (m : Nat) (pre : List Bool) : viewsL M (m + 1) pre = viewsL M m (pre ++ [true]) ++ viewsL M m (pre ++ [false]) := by
  unfold viewsL
  rw [allM, List.filterMap_append, List.filterMap_map, List.filterMap_map]
  congr 1 <;> (refine fm_congr fun v _ => ?_; simp)
theorem viewsL_len (M : List Bool → Bool) (m : Nat) (pre : List Bool) : (viewsL M m pre).length ≤ 2 ^ m := by
  unfold viewsL
  refine Nat.le_trans (List.length_filterMap_le _ _) ?_
  rw [allM_len]; exact Nat.le_refl _
/-- The same, by the sets' numbers. -/
theorem viewsL_sets (M : List Bool → Bool) (m : Nat) : ((List.range (2 ^ (m + 2))).filterMap fun x => if x % 4 = 2 then (if M (bitsm (m + 2) x) = true then some (memL (bitsm (m + 2) x) 0) else none) else none).Perm (viewsL M m [false, true]) := by
  rw [show 2 ^ (m + 2) = 4 * 2 ^ m by rw [Nat.pow_add]; omega, skip4 _ (fun x hx => by rw [if_neg hx])]
  have e : ∀ y, bitsm (m + 2) (4 * y + 2) = [false, true] ++ bitsm m y := fun y => by
    rw [bitsm, bitsm, decide_eq_false (by omega), decide_eq_true (by omega), show (4 * y + 2) / 2 / 2 = y by omega]; rfl
  have e2 : ((List.range (2 ^ m)).filterMap fun y => if (4 * y + 2) % 4 = 2 then (if M (bitsm (m + 2) (4 * y + 2)) = true then some (memL (bitsm (m + 2) (4 * y + 2)) 0) else none) else none) = ((List.range (2 ^ m)).map (bitsm m)).filterMap (fun v => if M ([false, true] ++ v) = true then some (memL ([false, true] ++ v) 0) else none) := by
    rw [List.filterMap_map]
    refine fm_congr fun y _ => ?_
    rw [if_pos (by omega), e]
    rfl
  rw [e2]
  exact (enumM m).filterMap _
def findK (x : List Int) (out : List (List Int)) : Nat → Nat
  | 0 => 0
  | k + 1 => if cmpL x (out.getD k []) < 0 then findK x out k else k + 1
theorem findK_le (x : List Int) (out : List (List Int)) : ∀ k, findK x out k ≤ k
  | 0 => Nat.le_refl 0
  | k + 1 => by
    have := findK_le x out k
    unfold findK
    split <;> omega
def insL (out : List (List Int)) (x : List Int) : List (List Int) := out.take (findK x out out.length) ++ x :: out.drop (findK x out out.length)
theorem insL_len (out : List (List Int)) (x : List Int) : (insL out x).length = out.length + 1 := by
  have := findK_le x out out.length
  unfold insL
  simp; omega
theorem insL_perm (out : List (List Int)) (x : List Int) : (insL out x).Perm (out ++ [x]) := by
  unfold insL
  refine (List.perm_middle).trans ?_
  rw [List.take_append_drop]
  exact (List.perm_append_comm (l₁ := [x]) (l₂ := out))
theorem findK_after (x : List Int) (out : List (List Int)) : ∀ k j, findK x out k ≤ j → j < k → cmpL x (out.getD j []) < 0
  | 0, j, _, h => absurd h (by omega)
  | k + 1, j, h1, h2 => by
    unfold findK at h1
    by_cases c : cmpL x (out.getD k []) < 0
    · rw [if_pos c] at h1
      by_cases e : j = k
      · rw [e]; exact c
      · exact findK_after x out k j h1 (by omega)
    · rw [if_neg c] at h1; omega
theorem findK_ahead (x : List Int) (out : List (List Int)) : ∀ k, 0 < findK x out k → ¬ cmpL x (out.getD (findK x out k - 1) []) < 0
  | 0, h => absurd h (by simp [findK])
  | k + 1, h => by
    unfold findK at h ⊢
    by_cases c : cmpL x (out.getD k []) < 0
    · rw [if_pos c] at h ⊢; exact findK_ahead x out k h
    · rw [if_neg c]; exact c
theorem insL_sorted (out : List (List Int)) (x : List Int) (hs : out.Pairwise fun a b => cmpL a b ≤ 0) : (insL out x).Pairwise fun a b => cmpL a b ≤ 0 := by
  have hK := findK_le x out out.length
  have hi := List.pairwise_iff_getElem.1 hs
  have gd : ∀ j (hj : j < out.length), out.getD j [] = out[j] := fun j hj => by rw [List.getD_eq_getElem?_getD, List.getElem?_eq_getElem hj]; rfl
  have af : ∀ j (hj : j < out.length), findK x out out.length ≤ j → cmpL x out[j] ≤ 0 := fun j hj h => by
    have := findK_after x out out.length j h hj
    rw [gd j hj] at this; omega
  have ah : ∀ j (hj : j < out.length), j < findK x out out.length → cmpL out[j] x ≤ 0 := fun j hj h => by
    have h1 := findK_ahead x out out.length (by omega)
    have hq : findK x out out.length - 1 < out.length := by omega
    rw [gd _ hq] at h1
    have h2 := cmpL_neg x out[findK x out out.length - 1]
    by_cases e : j = findK x out out.length - 1
    · subst e; omega
    · have h3 := hi j (findK x out out.length - 1) hj hq (by omega)
      exact cmpL_trans _ _ _ h3 (by omega)
  unfold insL
  rw [List.pairwise_append]
  refine ⟨hs.sublist (List.take_sublist _ _), ?_, ?_⟩
  · rw [List.pairwise_cons]
    refine ⟨fun y hy => ?_, hs.sublist (List.drop_sublist _ _)⟩
    obtain ⟨j, hj, rfl⟩ := List.mem_iff_getElem.1 hy
    rw [List.getElem_drop]
    exact af _ (by rw [List.length_drop] at hj; omega) (Nat.le_add_right _ _)
  · intro a ha b hb
    obtain ⟨j, hj, rfl⟩ := List.mem_iff_getElem.1 ha
    rw [List.length_take] at hj
    rw [List.getElem_take]
    have a1 := ah j (by omega) (by omega)
    rcases List.mem_cons.1 hb with rfl | hb
    · exact a1
    · obtain ⟨q, hq, rfl⟩ := List.mem_iff_getElem.1 hb
      rw [List.length_drop] at hq
      rw [List.getElem_drop]
      exact cmpL_trans _ _ _ a1 (af _ (by omega) (Nat.le_add_right _ _))
theorem insAll (all : List (List Int)) : ∀ out : List (List Int), (out.Pairwise fun a b => cmpL a b ≤ 0) → ((all.foldl insL out).Pairwise fun a b => cmpL a b ≤ 0) ∧ (all.foldl insL out).Perm (out ++ all) := by
  induction all with
  | nil => intro out h; exact ⟨h, by simp⟩
  | cons x xs ih =>
    intro out h
    obtain ⟨h1, h2⟩ := ih (insL out x) (insL_sorted out x h)
    refine ⟨h1, h2.trans ?_⟩
    refine ((insL_perm out x).append_right xs).trans ?_
    rw [List.append_assoc]
    exact List.Perm.refl _
theorem insAll_sort (all : List (List Int)) : all.foldl insL [] = sortL all := by
  obtain ⟨h1, h2⟩ := insAll all [] List.Pairwise.nil
  exact sort_one (by simpa using h2) h1
theorem sortL_perm {a b : List (List Int)} (h : a.Perm b) : sortL a = sortL b := by
  obtain ⟨h1, h2⟩ := insAll a [] List.Pairwise.nil
  rw [← insAll_sort a]
  exact sort_one ((show (a.foldl insL []).Perm a by simpa using h2).trans h) h1
theorem sortL_len (l : List (List Int)) : (sortL l).length = l.length := (List.mergeSort_perm l _).length_eq
theorem sortL_mem {l : List (List Int)} {x : List Int} : x ∈ sortL l ↔ x ∈ l := (List.mergeSort_perm l _).mem_iff
end Go.Proofs.Ytjjkagnbdfofbaa.Pure
end

section
namespace Go.Proofs.Ytjjkagnbdfofbaa.P
open Go.RowKit Go.Proofs.YtjjkagnbdfofbaaW.PrintWords Go.Proofs.YtjjkagnbdfofbaaW.PrintLast Go.Proofs.YtjjkagnbdfofbaaW.PrintMore
attribute [local go_sem] max2_int min2_int max_two min_two
set_option linter.unusedVariables false
set_option linter.unusedSimpArgs false

def laws_big.f (l0 : List Int) : Option (Bool) := some (decide ((l0.length : Int) > 1048576))
set_option maxHeartbeats 8000000 in
set_option maxRecDepth 100000 in
theorem laws_big.calls (A0 : Option Addr) (c0 : Nat) (l0 : List Int) (r : Bool) (w : World) (hr0 : Kd.C (Kd.int .u8) w A0 l0.length l0) (hc0 : l0.length ≤ c0) (h : laws_big.f l0 = some r) :
  Calls Try.prog 5 #[.slice A0 l0.length c0] w fun e w' => e = .returned (.bool r) ∧ Drawn0 w w' := by
 have HR0 := sd_ hr0; have HC0 := sd_ hc0; clear hr0 hc0; have H : (some (decide ((l0.length : Int) > 1048576))) = some r := h; clear h; obtain rfl := Option.some.inj H; go_enter Try.func5, Try.ntmps5; go_wp2; go_ret; exact ⟨by first | rfl | (simp; done) | (simp [*]; done), by repeat (first | exact Drawn0.refl _ | apply Drawn0.step)⟩


/-- A state of type 61 at block g of W; what its slices lead to came in by w0. -/
def IsS61 (w0 W : World) (g : Nat) (f0 : List Int) (f1 : Int) (f2 : Int) : Prop := ∃ A0 c0, W.heap[g]? = some (.cells #[.slice A0 f0.length c0, .int .i64 f1, .int .i64 f2] 61 (0, 0)) ∧ w0.heap.size ≤ g ∧ Kd.C (Kd.int .u8) w0 A0 f0.length f0
theorem IsS61.grown {w0 W : World} {g : Nat} {f0 : List Int} {f1 : Int} {f2 : Int} {W1 : World} {row : Option Nat} (h : IsS61 w0 W g f0 f1 f2) (hw : W.grownBy W1 row) (hne : some g ≠ row) : IsS61 w0 W1 g f0 f1 f2 := by
 obtain ⟨A0, c0, hb, hg, hr0⟩ := h; exact ⟨A0, c0, blk_grown hb hw hne, hg, hr0⟩
theorem IsS61.below {w0 W : World} {g : Nat} {f0 : List Int} {f1 : Int} {f2 : Int} {W1 : World} (h : IsS61 w0 W g f0 f1 f2) (hw : Below W.heap.size W W1) : IsS61 w0 W1 g f0 f1 f2 := h.grown (grown_of_below hw none) (by simp)
theorem IsS61.alloc {w0 W : World} {g : Nat} {f0 : List Int} {f1 : Int} {f2 : Int} (h : IsS61 w0 W g f0 f1 f2) (o : Obj) : IsS61 w0 (W.alloc o) g f0 f1 f2 := h.below (below_alloc (Below.refl _ _) o)
theorem IsS61.drewN {w0 W : World} {g : Nat} {f0 : List Int} {f1 : Int} {f2 : Int} (h : IsS61 w0 W g f0 f1 f2) (m : Nat) : IsS61 w0 (W.drewN m) g f0 f1 f2 := h
theorem IsS61.drew {w0 W : World} {g : Nat} {f0 : List Int} {f1 : Int} {f2 : Int} (h : IsS61 w0 W g f0 f1 f2) : IsS61 w0 W.drew g f0 f1 f2 := h
theorem IsS61.apart {w0 W : World} {g : Nat} {f0 : List Int} {f1 : Int} {f2 : Int} {α : Type} {d : Kd α} {e : Nat} {base : Nat} {ok : Nat → Prop} {v : Value} {xs : List α} (h : IsS61 w0 W g f0 f1 f2) (ho : d.R e W base ok v xs) (ht : ∀ q, q ∈ e :: d.E → q ≠ 61) : d.R e W base (fun k => ok k ∧ k ≠ g) v xs := by
 obtain ⟨A0, c0, hb, hg, hr0⟩ := h; exact Kd.R_types ho hb ht
theorem IsS61.own_ne {w0 W : World} {g : Nat} {f0 : List Int} {f1 : Int} {f2 : Int} {α : Type} {d : Kd α} {e : Nat} {base : Nat} {ok : Nat → Prop} {v : Value} {xs : List α} (h : IsS61 w0 W g f0 f1 f2) (ho : d.R e W base ok v xs) (ht : e ≠ 61) : some g ≠ v.ownBlock := by
 obtain ⟨A0, c0, hb, hg, hr0⟩ := h; exact Kd.R_ne ho hb ht
theorem IsS61.lt {w0 W : World} {g : Nat} {f0 : List Int} {f1 : Int} {f2 : Int} (h : IsS61 w0 W g f0 f1 f2) : g < W.heap.size := by
 obtain ⟨A0, c0, hb, hg, hr0⟩ := h; exact blk_lt hb
theorem IsS61.ge {w0 W : World} {g : Nat} {f0 : List Int} {f1 : Int} {f2 : Int} (h : IsS61 w0 W g f0 f1 f2) : w0.heap.size ≤ g := by
 obtain ⟨A0, c0, hb, hg, hr0⟩ := h; exact hg
theorem IsS61.ne_blk {w0 W : World} {g : Nat} {f0 : List Int} {f1 : Int} {f2 : Int} {a : Nat} {cs : Array Value} {t : TypeId} {fr : Nat × Nat} (h : IsS61 w0 W g f0 f1 f2) (hb2 : W.heap[a]? = some (.cells cs t fr)) (ht : t ≠ 61) : g ≠ a := by
 obtain ⟨A0, c0, hb, hg, hr0⟩ := h; rintro rfl; rw [hb] at hb2; injection hb2 with hb2; injection hb2 with _ ht2; exact ht ht2.symm
theorem IsS61.far {w0 W : World} {g : Nat} {f0 : List Int} {f1 : Int} {f2 : Int} {p : Addr} (h : IsS61 w0 W g f0 f1 f2) (hne : g ≠ p.block) (u : Value) : IsS61 w0 (W.setCell p u) g f0 f1 f2 := by
 obtain ⟨A0, c0, hb, hg, hr0⟩ := h; exact ⟨A0, c0, blk_far hb hne u, hg, hr0⟩
theorem cellS61_0 {W : World} {g : Nat} {A0 : Option Addr} {c0 : Nat} {f0 : List Int} {f1 : Int} {f2 : Int} (h : W.heap[g]? = some (.cells #[.slice A0 f0.length c0, .int .i64 f1, .int .i64 f2] 61 (0, 0))) : W.cell? ⟨g, 0, none⟩ = some (.slice A0 f0.length c0) := (blk_cell h 0).trans rfl
theorem cellS61_1 {W : World} {g : Nat} {A0 : Option Addr} {c0 : Nat} {f0 : List Int} {f1 : Int} {f2 : Int} (h : W.heap[g]? = some (.cells #[.slice A0 f0.length c0, .int .i64 f1, .int .i64 f2] 61 (0, 0))) : W.cell? ⟨g, 1, none⟩ = some (.int .i64 f1) := (blk_cell h 1).trans rfl
theorem IsS61.set_1 {w0 W : World} {g : Nat} {f0 : List Int} {f1 : Int} {f2 : Int} (h : IsS61 w0 W g f0 f1 f2) (x : Int) : IsS61 w0 (W.setCell ⟨g, 1, none⟩ (.int .i64 x)) g f0 x f2 := by
 obtain ⟨A0, c0, hb, hg, hr0⟩ := h; exact ⟨A0, c0, by simpa using blk_set hb 1 (.int .i64 x), hg, hr0⟩
theorem cellS61_2 {W : World} {g : Nat} {A0 : Option Addr} {c0 : Nat} {f0 : List Int} {f1 : Int} {f2 : Int} (h : W.heap[g]? = some (.cells #[.slice A0 f0.length c0, .int .i64 f1, .int .i64 f2] 61 (0, 0))) : W.cell? ⟨g, 2, none⟩ = some (.int .i64 f2) := (blk_cell h 2).trans rfl
theorem IsS61.set_2 {w0 W : World} {g : Nat} {f0 : List Int} {f1 : Int} {f2 : Int} (h : IsS61 w0 W g f0 f1 f2) (x : Int) : IsS61 w0 (W.setCell ⟨g, 2, none⟩ (.int .i64 x)) g f0 f1 x := by
 obtain ⟨A0, c0, hb, hg, hr0⟩ := h; exact ⟨A0, c0, by simpa using blk_set hb 2 (.int .i64 x), hg, hr0⟩
theorem IsS61.new (w0 W : World) (A0 : Option Addr) (c0 : Nat) (f0 : List Int) (f1 : Int) (f2 : Int) (hB : Below w0.heap.size w0 W) (hr0 : Kd.C (Kd.int .u8) w0 A0 f0.length f0) : IsS61 w0 (W.alloc (.cells #[.slice A0 f0.length c0, .int .i64 f1, .int .i64 f2] 61)) W.heap.size f0 f1 f2 := ⟨A0, c0, by simpa using heap_alloc_new W _, hB.size, hr0⟩
theorem is0_ {P Q : Prop} (h : P)  (hs : P → Q := by intro  h_; repeat (first | (with_reducible first | exact h_ | apply IsS61.alloc | apply IsS61.drewN | apply IsS61.drew | apply IsS61.set_1 | apply IsS61.set_2) | exact h_)) : Q := hs  h
theorem ij0_ {w0 w w2 w3 : World} {g : Nat} {f0 : List Int} {f1 f2 : Int} (hk : KeepBut w2 w3 g none) (h : IsS61 w0 w g f0 f1 f2)  (hs : IsS61 w0 w g f0 f1 f2 → IsS61 w0 w2 g f0 f1 f2 := by intro  h_; repeat (first | (with_reducible first | exact h_ | apply IsS61.alloc | apply IsS61.drewN | apply IsS61.drew | apply IsS61.set_1 | apply IsS61.set_2) | exact h_)) : IsS61 w0 w2 g f0 f1 f2 := hs  h
theorem ik_ {w0 w w2 w3 : World} {g : Nat} {f0 : List Int} {f1 f2 : Int} {α : Type} {d : Kd α} {e base : Nat} {ok : Nat → Prop} {v : Value} {xs : List α} (hk : KeepBut w2 w3 g none) (hj : IsS61 w0 w2 g f0 f1 f2) (h : d.R e w base ok v xs) (ht : ∀ q, q ∈ e :: d.E → q ≠ 61 := by decide) (hs : d.R e w base ok v xs → d.R e w2 base ok v xs := by intro h_; (with_reducible repeat (first | apply Kd.R_alloc | apply Kd.R_drewN | apply Kd.R_drew)); exact h_) : d.R e w3 base ok v xs := Kd.R_mono (Kd.R_keep (IsS61.apart hj (hs h) ht) hk (fun _ h => h.2)) (fun _ h => h.1)
theorem is1_ {P Q : Prop} {A0_ : Prop} (h : P) (a0_ : A0_) (hs : A0_ → P → Q := by intro a0_ h_; repeat (first | (with_reducible first | exact h_ | apply IsS61.alloc | apply IsS61.drewN | apply IsS61.drew | apply IsS61.set_1 | apply IsS61.set_2 | refine IsS61.far ?_ a0_ _) | exact h_)) : Q := hs a0_ h
theorem ij1_ {w0 w w2 w3 : World} {g : Nat} {f0 : List Int} {f1 f2 : Int} {A0_ : Prop} (hk : KeepBut w2 w3 g none) (h : IsS61 w0 w g f0 f1 f2) (a0_ : A0_) (hs : A0_ → IsS61 w0 w g f0 f1 f2 → IsS61 w0 w2 g f0 f1 f2 := by intro a0_ h_; repeat (first | (with_reducible first | exact h_ | apply IsS61.alloc | apply IsS61.drewN | apply IsS61.drew | apply IsS61.set_1 | apply IsS61.set_2 | refine IsS61.far ?_ a0_ _) | exact h_)) : IsS61 w0 w2 g f0 f1 f2 := hs a0_ h
theorem is2_ {P Q : Prop} {A0_ A1_ : Prop} (h : P) (a0_ : A0_) (a1_ : A1_) (hs : A0_ → A1_ → P → Q := by intro a0_ a1_ h_; repeat (first | (with_reducible first | exact h_ | apply IsS61.alloc | apply IsS61.drewN | apply IsS61.drew | apply IsS61.set_1 | apply IsS61.set_2 | refine IsS61.far ?_ a0_ _ | refine IsS61.far ?_ a1_ _) | exact h_)) : Q := hs a0_ a1_ h
theorem ij2_ {w0 w w2 w3 : World} {g : Nat} {f0 : List Int} {f1 f2 : Int} {A0_ A1_ : Prop} (hk : KeepBut w2 w3 g none) (h : IsS61 w0 w g f0 f1 f2) (a0_ : A0_) (a1_ : A1_) (hs : A0_ → A1_ → IsS61 w0 w g f0 f1 f2 → IsS61 w0 w2 g f0 f1 f2 := by intro a0_ a1_ h_; repeat (first | (with_reducible first | exact h_ | apply IsS61.alloc | apply IsS61.drewN | apply IsS61.drew | apply IsS61.set_1 | apply IsS61.set_2 | refine IsS61.far ?_ a0_ _ | refine IsS61.far ?_ a1_ _) | exact h_)) : IsS61 w0 w2 g f0 f1 f2 := hs a0_ a1_ h
theorem is3_ {P Q : Prop} {A0_ A1_ A2_ : Prop} (h : P) (a0_ : A0_) (a1_ : A1_) (a2_ : A2_) (hs : A0_ → A1_ → A2_ → P → Q := by intro a0_ a1_ a2_ h_; repeat (first | (with_reducible first | exact h_ | apply IsS61.alloc | apply IsS61.drewN | apply IsS61.drew | apply IsS61.set_1 | apply IsS61.set_2 | refine IsS61.far ?_ a0_ _ | refine IsS61.far ?_ a1_ _ | refine IsS61.far ?_ a2_ _) | exact h_)) : Q := hs a0_ a1_ a2_ h
theorem is4_ {P Q : Prop} {A0_ A1_ A2_ A3_ : Prop} (h : P) (a0_ : A0_) (a1_ : A1_) (a2_ : A2_) (a3_ : A3_) (hs : A0_ → A1_ → A2_ → A3_ → P → Q := by intro a0_ a1_ a2_ a3_ h_; repeat (first | (with_reducible first | exact h_ | apply IsS61.alloc | apply IsS61.drewN | apply IsS61.drew | apply IsS61.set_1 | apply IsS61.set_2 | refine IsS61.far ?_ a0_ _ | refine IsS61.far ?_ a1_ _ | refine IsS61.far ?_ a2_ _ | refine IsS61.far ?_ a3_ _) | exact h_)) : Q := hs a0_ a1_ a2_ a3_ h
theorem ij4_ {w0 w w2 w3 : World} {g : Nat} {f0 : List Int} {f1 f2 : Int} {A0_ A1_ A2_ A3_ : Prop} (hk : KeepBut w2 w3 g none) (h : IsS61 w0 w g f0 f1 f2) (a0_ : A0_) (a1_ : A1_) (a2_ : A2_) (a3_ : A3_) (hs : A0_ → A1_ → A2_ → A3_ → IsS61 w0 w g f0 f1 f2 → IsS61 w0 w2 g f0 f1 f2 := by intro a0_ a1_ a2_ a3_ h_; repeat (first | (with_reducible first | exact h_ | apply IsS61.alloc | apply IsS61.drewN | apply IsS61.drew | apply IsS61.set_1 | apply IsS61.set_2 | refine IsS61.far ?_ a0_ _ | refine IsS61.far ?_ a1_ _ | refine IsS61.far ?_ a2_ _ | refine IsS61.far ?_ a3_ _) | exact h_)) : IsS61 w0 w2 g f0 f1 f2 := hs a0_ a1_ a2_ a3_ h
theorem is5_ {P Q : Prop} {A0_ A1_ A2_ A3_ A4_ : Prop} (h : P) (a0_ : A0_) (a1_ : A1_) (a2_ : A2_) (a3_ : A3_) (a4_ : A4_) (hs : A0_ → A1_ → A2_ → A3_ → A4_ → P → Q := by intro a0_ a1_ a2_ a3_ a4_ h_; repeat (first | (with_reducible first | exact h_ | apply IsS61.alloc | apply IsS61.drewN | apply IsS61.drew | apply IsS61.set_1 | apply IsS61.set_2 | refine IsS61.far ?_ a0_ _ | refine IsS61.far ?_ a1_ _ | refine IsS61.far ?_ a2_ _ | refine IsS61.far ?_ a3_ _ | refine IsS61.far ?_ a4_ _) | exact h_)) : Q := hs a0_ a1_ a2_ a3_ a4_ h

def spec_l1New.l0 : Nat → List Int → Int → Int → Option (List Int × Int × Int)
 | 0, _, _, _ => none
 | k + 1, x0, x3, x4 => if x4 < (x0.length : Int) then (if x4 < 4000 then (if 0 ≤ x4 then (spec_l1New.l0 k x0 (Go.bits .and .i64 (wrap64 ((wrap64 ((wrap64 (x3 * 151)) + (wrap64 (rd x0 x4)))) + 7)) 1073741823) (wrap64 (x4 + 1))) else (none)) else (some (x0, 0, x3))) else (some (x0, 0, x3))
def spec_l1New.f (k : Nat) (l0 : List Int) : Option (List Int × Int × Int) := spec_l1New.l0 k l0 (wrap64 (242117 + (l0.length : Int))) 0
set_option maxHeartbeats 8000000 in
set_option maxRecDepth 100000 in
theorem spec_l1New.calls (k : Nat) (A0 : Option Addr) (c0 : Nat) (l0 : List Int) (r1 : List Int) (r2 : Int) (r3 : Int) (w0 w : World) (hB : Below w0.heap.size w0 w) (hr0 : Kd.C (Kd.int .u8) w0 A0 l0.length l0) (hc0 : l0.length ≤ c0) (h : spec_l1New.f k l0 = some (r1, r2, r3)) :
  Calls Try.prog 15 #[.slice A0 l0.length c0] w fun e w' => ∃ g_ : Nat, e = .returned (.pointer (some ⟨g_, 0, none⟩)) ∧ IsS61 w0 w' g_ r1 r2 r3 ∧ Below w0.heap.size w0 w' ∧ Below w.heap.size w w' := by
 have hu61 := Try.underlying61; have HR0 := sd_ hr0; have HC0 := sd_ hc0; clear hr0 hc0; have HBW := sd_ (Below.refl w.heap.size w); have HW0 := sd_ hB.size; have HB := sd_ hB; clear hB; have H : (spec_l1New.l0 k l0 (wrap64 (242117 + (l0.length : Int))) 0) = some (r1, r2, r3) := h; clear h; have H' := sd_ H; clear H; go_enter Try.func15, Try.ntmps15; go_wp2
 go_loopg [3, 4] k (fun kq v3 v4 w' => ∃ (x3_1 : Int) (x4_1 : Int), v3 = .int .i64 x3_1 ∧ v4 = .int .i64 x4_1 ∧ Aside0 (spec_l1New.l0 kq l0 x3_1 x4_1 = some (r1, r2, r3)) ∧ Aside0 (kq ≤ k) ∧ Aside0 (Below w0.heap.size w0 w') ∧ Aside0 (Below w.heap.size w w'))
 case atStart => exact ⟨(wrap64 (242117 + (l0.length : Int))), (0), sm_, sm_, H', ⟨Nat.le_refl _⟩, ⟨bw0_ HB.out⟩, ⟨bw0_ HBW.out⟩⟩
 case round =>
  clear H'; (try clear c1); obtain ⟨x3_1, x4_1, rfl, rfl, HA, HK1, HB, HBW⟩ := hrel
  cases gk with
  | zero => exact absurd HA.out (by simp [spec_l1New.l0])
  | succ k1 =>
   have H := HA.out; clear HA; simp only [spec_l1New.l0] at H; revert H; refine ic_ (fun c2b0 H => ?_) (fun c2b0 H => ?_)
   ·revert H; refine ic_ (fun c3b0 H => ?_) (fun c3b0 H => ?_)
    ·revert H; refine ih_ fun c4b0 H => ?_
     have H' := sd_ H; clear H; have p318 : 0 ≤ (x4_1 : Int) := dt_; have q318 : x4_1 < (l0.length : Int) := dt_; obtain ⟨J8, e318, hx318_0⟩ := Kd.at_int HR0.out x4_1 p318 q318
     cases e318
     replace hx318_0 := pw_cell_below HB.out hx318_0; replace p318 := eq_true p318; replace q318 := eq_true q318; go_wp2; go_roundg k1
     case measure => have := HK1.out; omega
     case rel => exact ⟨(Go.bits .and .i64 (wrap64 ((wrap64 ((wrap64 (x3_1 * 151)) + (wrap64 (rd l0 x4_1)))) + 7)) 1073741823), (wrap64 (x4_1 + 1)), sm_, sm_, H', ⟨by have := HK1.out; omega⟩, ⟨bw0_ HB.out⟩, ⟨bw0_ HBW.out⟩⟩
    simp only [Option.some.injEq, Prod.mk.injEq] at H; obtain ⟨rfl, rfl, rfl⟩ := H; go_wp2_with (first | ((with_reducible refine gate_dst (N := 31) rfl ?_); refine bx_ (N := 31) (cs := #[.slice A0 l0.length c0, .int .i64 0, .int .i64 x3_1]) (t := 61) ?_; intro J0 hg w5 hbox hb; replace HB := sd_ (below_step (bw0_ HB.out) hb); have J4 := sd_ (hbox); have J5 := sd_ (gs_ hg (bw0_ HBW.out)); have J2 := sd_ ((Nat.le_trans HW0.out (by rw [hg]; exact (below_size (bw0_ HBW.out)) : w.heap.size ≤ J0) : w0.heap.size ≤ J0)); replace HBW := sd_ (below_step HBW.out hb); clear hb hbox hg)); go_ret; exact ⟨_, rfl, (show IsS61 w0 _ J0 l0 0 x3_1 from ⟨_, _, by exact bz_ J4.out, J2.out, HR0.out⟩), bw1_ HB.out J2.out, bw1_ HBW.out J5.out⟩
   simp only [Option.some.injEq, Prod.mk.injEq] at H; obtain ⟨rfl, rfl, rfl⟩ := H; go_wp2_with (first | ((with_reducible refine gate_dst (N := 31) rfl ?_); refine bx_ (N := 31) (cs := #[.slice A0 l0.length c0, .int .i64 0, .int .i64 x3_1]) (t := 61) ?_; intro J1 hg w6 hbox hb; replace HB := sd_ (below_step (bw0_ HB.out) hb); have J6 := sd_ (hbox); have J7 := sd_ (gs_ hg (bw0_ HBW.out)); have J3 := sd_ ((Nat.le_trans HW0.out (by rw [hg]; exact (below_size (bw0_ HBW.out)) : w.heap.size ≤ J1) : w0.heap.size ≤ J1)); replace HBW := sd_ (below_step HBW.out hb); clear hb hbox hg)); go_ret; exact ⟨_, rfl, (show IsS61 w0 _ J1 l0 0 x3_1 from ⟨_, _, by exact bz_ J6.out, J3.out, HR0.out⟩), bw1_ HB.out J3.out, bw1_ HBW.out J7.out⟩


def impl_within.f (a0 : Int) (a1 : Int) (a2 : Int) : Option (Bool) := if a0 ≥ a1 then (some (decide (a0 ≤ a2))) else (some false)
set_option maxHeartbeats 8000000 in
set_option maxRecDepth 100000 in
theorem impl_within.calls (a0 : Int) (a1 : Int) (a2 : Int) (r : Bool) (w : World) (h : impl_within.f a0 a1 a2 = some r) :
  Calls Try.prog 22 #[.int .i64 a0, .int .i64 a1, .int .i64 a2] w fun e w' => e = .returned (.bool r) ∧ Drawn0 w w' := by
 have H : (if a0 ≥ a1 then (some (decide (a0 ≤ a2))) else (some false)) = some r := h; clear h; by_cases c4 : a0 ≥ a1
 ·rw [if_pos c4] at H; have c4b0 : decide (a1 ≤ a0) = true := decide_eq_true c4; clear c4; obtain rfl := Option.some.inj H; go_enter Try.func22, Try.ntmps22; go_wp2; go_ret; exact ⟨by first | rfl | (simp; done) | (simp [*]; done), by repeat (first | exact Drawn0.refl _ | apply Drawn0.step)⟩
 rw [if_neg c4] at H; have c4b0 : decide (a1 ≤ a0) = false := decide_eq_false c4; clear c4; obtain rfl := Option.some.inj H; go_enter Try.func22, Try.ntmps22; go_wp2; go_ret; exact ⟨by first | rfl | (simp; done) | (simp [*]; done), by repeat (first | exact Drawn0.refl _ | apply Drawn0.step)⟩


def impl_System_has.f (a0_0 : Int) (l0_1 : List Int) (l0_2 : List Int) (l0_3 : List Bool) (a1 : Int) : Option (Bool) := (impl_within.f a1 0 (wrap64 (a0_0 - 1))).bind fun J0 => (some J0)
set_option maxHeartbeats 8000000 in
set_option maxRecDepth 100000 in
theorem impl_System_has.calls (a0_0 : Int) (A0_1 : Option Addr) (c0_1 : Nat) (l0_1 : List Int) (A0_2 : Option Addr) (c0_2 : Nat) (l0_2 : List Int) (A0_3 : Option Addr) (c0_3 : Nat) (l0_3 : List Bool) (a1 : Int) (r : Bool) (w : World) (hr0_1 : Kd.C (Kd.int .i64) w A0_1 l0_1.length l0_1) (hc0_1 : l0_1.length ≤ c0_1) (hr0_2 : Kd.C (Kd.int .i64) w A0_2 l0_2.length l0_2) (hc0_2 : l0_2.length ≤ c0_2) (hr0_3 : Kd.C Kd.bool w A0_3 l0_3.length l0_3) (hc0_3 : l0_3.length ≤ c0_3) (h : impl_System_has.f a0_0 l0_1 l0_2 l0_3 a1 = some r) :
  Calls Try.prog 20 #[.agg #[.int .i64 a0_0, .slice A0_1 l0_1.length c0_1, .slice A0_2 l0_2.length c0_2, .slice A0_3 l0_3.length c0_3], .int .i64 a1] w fun e w' => e = .returned (.bool r) ∧ Below w.heap.size w w' := by
 have hu27 := Try.underlying27; have HR0_1 := sd_ hr0_1; have HC0_1 := sd_ hc0_1; clear hr0_1 hc0_1; have HR0_2 := sd_ hr0_2; have HC0_2 := sd_ hc0_2; clear hr0_2 hc0_2; have HR0_3 := sd_ hr0_3; have HC0_3 := sd_ hc0_3; clear hr0_3 hc0_3; have HB := sd_ (Below.refl w.heap.size w); have H : ((impl_within.f a1 0 (wrap64 (a0_0 - 1))).bind fun J0 => (some J0)) = some r := h; clear h
 revert H; refine ob_ fun J0 A3 H => ?_
 obtain rfl := Option.some.inj H; go_enter Try.func20, Try.ntmps20; go_wp2_with (first | ((with_reducible refine gate_dst (N := 2) rfl ?_); refine bx_ (N := 2) (cs := #[.int .i64 a0_0, .slice A0_1 l0_1.length c0_1, .slice A0_2 l0_2.length c0_2, .slice A0_3 l0_3.length c0_3]) (t := 27) ?_; intro J3 hg w4 hbox hb; have J1 := sd_ (hbox); have J4 := sd_ (gs_ hg (bw0_ HB.out)); have J2 := sd_ (gs_ hg (bw0_ HB.out)); replace HB := sd_ (below_step (bw0_ HB.out) hb); clear hb hbox hg; obtain ⟨J5, J6, J7, J8, J9, K0, K1, K2⟩ := bf4_ J1.out) | ((with_reducible refine gate_callee (f := 22) rfl ?_); refine goesL_ (some 9) rfl rfl Try.func22 (by kernel_rfl) rfl #[.int .i64 a1, .int .i64 0, .int .i64 (wrap64 (a0_0 - 1))] rfl la_ ?_; (with_reducible refine (impl_within.calls a1 0 (wrap64 (a0_0 - 1)) J0 _ A3.out).mono ?_); rintro e w' ⟨rfl, ⟨nd, rfl⟩⟩; refine ⟨_, rfl, ?_⟩)); go_ret; exact ⟨an_, bw1_ HB.out J2.out⟩


def impl_LevelSystem_1.f (a0 : Int) (a1_0 : Int) : Option (Int) := if a0 = 0 then (some 0) else (some (wrap64 ((wrap64 (a1_0 + 1)) - a0)))
set_option maxHeartbeats 8000000 in
set_option maxRecDepth 100000 in
theorem impl_LevelSystem_1.calls (a0 : Int) (g1 : Nat) (a1_0 : Int) (r : Int) (w : World) (hb1 : w.heap[g1]? = some (.cells #[.int .i64 a1_0] 3 (0, 0))) (h : impl_LevelSystem_1.f a0 a1_0 = some r) :
  Calls Try.prog 23 #[.int .i64 a0, .pointer (some ⟨g1, 0, none⟩)] w fun e w' => e = .returned (.int .i64 r) ∧ Drawn0 w w' := by
 have BK1 := sd_ hb1; clear hb1; have H : (if a0 = 0 then (some 0) else (some (wrap64 ((wrap64 (a1_0 + 1)) - a0)))) = some r := h; clear h; by_cases c3 : a0 = 0
 ·rw [if_pos c3] at H; have c3b0 : (a0 == 0) = true := beq_iff_eq.mpr c3; have c3b1 : (a0 != 0) = false := bne_eq_false_iff_eq.mpr c3; clear c3; obtain rfl := Option.some.inj H; go_enter Try.func23, Try.ntmps23; go_wp2; go_ret; exact ⟨by first | rfl | (simp; done) | (simp [*]; done), by repeat (first | exact Drawn0.refl _ | apply Drawn0.step)⟩
 rw [if_neg c3] at H; have c3b0 : (a0 == 0) = false := beq_eq_false_iff_ne.mpr c3; have c3b1 : (a0 != 0) = true := bne_iff_ne.mpr c3; obtain rfl := Option.some.inj H; have J0 : w.cell? ⟨g1, 0, none⟩ = some (.int .i64 a1_0) := bk_ BK1 0; have J1 := blk_frozen BK1.out 0; go_enter Try.func23, Try.ntmps23; go_wp2; go_ret; exact ⟨by first | rfl | (simp; done) | (simp [*]; done), by repeat (first | exact Drawn0.refl _ | apply Drawn0.step)⟩


def impl_LevelSystem_4.f (a0 : Int) (a1 : Int) (x2_0 : (Int → Option (Int))) : Option (Bool) := (x2_0 a0).bind fun J0 => ((x2_0 a1).bind fun J1 => (some (decide (J0 ≤ J1))))
def impl_LevelSystem_4.T1 : Bool × List (List Nat × List Nat) := (true, [([], []), ([], []), ([0, 1], [0, 1]), ([], []), ([], []), ([3, 4, 2], [3, 4]), ([2, 5], [2, 5]), ([6, 5, 0, 1, 2, 3, 4, 5, 6], [6])])
def impl_LevelSystem_4.B1 : List Nat := [0, 0, 3, 0, 0, 31, 63, 127]
theorem impl_LevelSystem_4.tab1 : rtab .any (opsOf Try.f27 1) = impl_LevelSystem_4.T1 := by kernel_rfl
theorem impl_LevelSystem_4.bits1 : waitsOk impl_LevelSystem_4.T1.2 impl_LevelSystem_4.B1 = true := by kernel_rfl
set_option maxHeartbeats 8000000 in
set_option maxRecDepth 100000 in
theorem impl_LevelSystem_4.calls (a0 : Int) (a1 : Int) (g2 : Nat) (x2_0 : (Int → Option (Int))) (K2_0_ : Nat) (F2_0_ C2_0_ : Array Value) (r : Bool) (w : World) (hG2_0 : OFn K2_0_) (hF2_0 : OC48 w x2_0 K2_0_ F2_0_ C2_0_) (hb2 : w.heap[g2]? = some (.cells #[.func (.func K2_0_) F2_0_ C2_0_] 48 (0, 0))) (h : impl_LevelSystem_4.f a0 a1 x2_0 = some r) :
  Calls Try.prog 27 #[.int .i64 a0, .int .i64 a1, .pointer (some ⟨g2, 0, none⟩)] w fun e w' => e = .returned (.bool r) ∧ Below w.heap.size w w' := by
 have HG2_0 := sd_ hG2_0; have HF2_0 := sd_ hF2_0; clear hG2_0 hF2_0; have BK2 := sd_ hb2; clear hb2; have HB := sd_ (Below.refl w.heap.size w); have H : ((x2_0 a0).bind fun J0 => ((x2_0 a1).bind fun J1 => (some (decide (J0 ≤ J1))))) = some r := h; clear h
 revert H; refine ob_ fun J0 A4 H => ?_
 revert H; refine ob_ fun J1 A5 H => ?_
 obtain rfl := Option.some.inj H; go_enter Try.func27, Try.ntmps27
 try go_wp2
 replace BK2 := sd_ (blk_drew BK2.out); replace HB := sd_ (below_drew1 HB.out); refine start_ (n := 8) (S := fun w' => w'.cell? ⟨g2, 0, none⟩ = some (.func (.func K2_0_) F2_0_ C2_0_)) (ds := []) #[false, false, false, false, false, false, false, false] (by kernel_rfl) rfl rfl (bk_ BK2 0) (fun hHeld => ?_); refine with_tabW impl_LevelSystem_4.tab1 impl_LevelSystem_4.bits1 (fun HT_ HW_ => ?_); generalize w.drew = w6 at BK2 HB hHeld ⊢; refine pv_ 1 rfl rfl (any_of HT_.out (by kernel_rfl)) ?_; refine pv_ 4 rfl rfl (any_of HT_.out (by kernel_rfl)) ?_; refine take_ (i := 0) (N := some 6) (v := ?_) (a' := ?_) #[true, true, false, false, true, false, false, false] rfl rfl (take_ofW HT_.out HW_.out (by kernel_rfl)) (fun _ _ _ h => h) (Or.inl ⟨by rfl, ?_⟩) hHeld ?_ ?_; rotate_left
 ·intro w' s0; go_simp
  with_reducible rfl
 rotate_left
 ·simp only [Act.put, List.setIfInBounds_toArray, List.set_cons_zero, List.set_cons_succ, i64_w, i32_w]; rfl
 refine take_ (i := 3) (N := some 9) (v := ?_) (a' := ?_) #[true, true, false, true, true, false, false, false] rfl rfl (take_ofW HT_.out HW_.out (by kernel_rfl)) (fun _ _ _ h => h) (Or.inl ⟨by rfl, ?_⟩) hHeld ?_ ?_; rotate_left
 ·intro w' s0; go_simp
  with_reducible rfl
 rotate_left
 ·simp only [Act.put, List.setIfInBounds_toArray, List.set_cons_zero, List.set_cons_succ, i64_w, i32_w]; rfl
 refine on_ 2 rfl rfl (one_of HT_.out (by kernel_rfl)) fun K hK => ?_
 refine goesO_ HG2_0.out #[.int .i64 a0] (by rfl) rfl rfl la_ rfl ?_
 with_reducible refine (HF2_0.out a0 J0 _ ?side1 A4.out).mono ?_
 (case side1 => exact (bw0_ HB.out)); rintro e w7 ⟨rfl, hb⟩; refine ⟨_, rfl, ?_⟩; replace BK2 := sd_ (bb_ BK2.out hb); replace HB := sd_ (below_step (bw0_ HB.out) hb); (try clear hb); (try clear hb2); (try clear hk); (try clear hi); refine hK.out _ _ (bk_ BK2 0) (fun hHeld => ?_); clear hK K; refine nm_ ?_
 refine on_ 5 rfl rfl (one_of HT_.out (by kernel_rfl)) fun K hK => ?_
 refine goesO_ HG2_0.out #[.int .i64 a1] (by rfl) rfl rfl la_ rfl ?_
 with_reducible refine (HF2_0.out a1 J1 _ ?side1 A5.out).mono ?_
 (case side1 => exact (bw0_ HB.out)); rintro e w8 ⟨rfl, hb⟩; refine ⟨_, rfl, ?_⟩; replace BK2 := sd_ (bb_ BK2.out hb); replace HB := sd_ (below_step (bw0_ HB.out) hb); (try clear hb); (try clear hb2); (try clear hk); (try clear hi); refine hK.out _ _ (bk_ BK2 0) (fun hHeld => ?_); clear hK K; refine nm_ ?_; refine pv_ 6 rfl rfl (any_of HT_.out (by kernel_rfl)) ?_; refine pv_ 7 rfl rfl (any_of HT_.out (by kernel_rfl)) ?_; refine done_ (done_of HT_.out (by kernel_rfl)) ?_
 try go_wp2
 go_ret; exact ⟨an_, bw0_ HB.out⟩

end Go.Proofs.Ytjjkagnbdfofbaa.P
end
