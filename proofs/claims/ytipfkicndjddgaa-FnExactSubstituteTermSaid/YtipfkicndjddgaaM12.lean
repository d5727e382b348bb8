-- Several texts in one (wip/tools/merge.py).
import Derived.Test.YtipfkicndjddgaaM3
import Derived.Test.YtipfkicndjddgaaPf83
import Derived.Test.YtipfkicndjddgaaPf118
import Derived.Test.YtipfkicndjddgaaM11
import Derived.Test.YtipfkicndjddgaaM10
import Derived.Test.YtipfkicndjddgaaP0
import Derived.Test.YtipfkicndjddgaaM4
import Derived.Laws.EntriesVeiled
import Derived.Test.YtipfkicndjddgaaM8
section
/- Terms: what is told of a node; how much a term bears; what is written. -/
set_option linter.unusedSimpArgs false
set_option linter.unusedVariables false
namespace Go.Proofs.Ytipfkicndjddgaa.Pure
open Go.RowKit Go.Proofs.Ytipfkicndjddgaa.P Go.Proofs.YtipfkicndjddgaaW.PrintWords Go.Proofs.YtipfkicndjddgaaW.PrintLast
def addsV (op i : Int) : Int := if op = 5 ∧ i = 1 then 2 else if (op = 8 ∧ i > 0) ∨ op = 9 ∨ (op = 12 ∧ i = 1) then 1 else 0
theorem adds_le (op i : Int) : 0 ≤ addsV op i ∧ addsV op i ≤ 2 := by unfold addsV; repeat' split <;> omega
theorem specAdds (k : Nat) (op i : Int) : spec_l2Adds.f (k + 1) op i = some (addsV op i) := by
  unfold spec_l2Adds.f addsV
  simp only [spec_l2Adds.j0]
  by_cases c5 : op = 5
  · subst c5
    by_cases c : i = 1
    · simp [c]
    · simp [c]
  · by_cases c8 : op = 8
    · subst c8
      by_cases c : i > 0 <;> simp [c]
    · by_cases c9 : op = 9
      · simp [c9]
      · by_cases c12 : op = 12
        · subst c12
          by_cases c : i = 1 <;> simp [c]
        · simp [c5, c8, c9, c12]
theorem implAdds (k : Nat) (op i : Int) : impl_adds.f (k + 2) op i = some (addsV op i) := by
  unfold impl_adds.f addsV
  simp only [impl_adds.j0, impl_adds.j1]
  by_cases c5 : op = 5
  · subst c5
    by_cases c : i = 1
    · simp [c]
    · simp [c]
  · by_cases c8 : op = 8
    · subst c8
      by_cases c : i > 0 <;> simp [c]
    · by_cases c9 : op = 9
      · simp [c9]
      · by_cases c12 : op = 12
        · subst c12
          by_cases c : i = 1 <;> simp [c]
        · simp [c5, c8, c9, c12]
def manyV (op : Int) : Int := if op = 2 ∨ op = 4 ∨ op = 5 ∨ op = 10 ∨ op = 12 then 2 else if op = 3 ∨ op = 8 then 3 else if op = 6 ∨ op = 7 ∨ op = 9 ∨ op = 11 then 1 else if op = 0 ∨ op = 1 then 0 else -1
def hasV (op : Int) : Bool := decide (op = 5 ∨ op = 8 ∨ op = 9 ∨ op = 11 ∨ op = 12)
def typedV (op : Int) : Bool := decide (op = 6 ∨ op = 7 ∨ op = 9)
theorem ops_cases {op : Int} (h : 0 ≤ op ∧ op ≤ 12) : op = 0 ∨ op = 1 ∨ op = 2 ∨ op = 3 ∨ op = 4 ∨ op = 5 ∨ op = 6 ∨ op = 7 ∨ op = 8 ∨ op = 9 ∨ op = 10 ∨ op = 11 ∨ op = 12 := by omega
theorem specMany (op : Int) : spec_l2Many.f op = some (manyV op) := by
  unfold spec_l2Many.f
  rw [in_eq, Option.bind_some]
  by_cases c : 0 ≤ op ∧ op ≤ 12
  · rw [(inV_iff _ _ _).mpr c]
    rcases ops_cases c with h | h | h | h | h | h | h | h | h | h | h | h | h <;> subst h <;> decide
  · have e : inV op 0 12 = false := by rw [Bool.eq_false_iff]; exact fun hh => c ((inV_iff _ _ _).mp hh)
    rw [e, if_neg (by decide)]
    unfold manyV
    rw [if_neg (by omega), if_neg (by omega), if_neg (by omega), if_neg (by omega)]
theorem specHas (op : Int) : spec_l2Has.f op = some (hasV op) := by
  unfold spec_l2Has.f hasV
  by_cases c5 : op = 5
  · simp [c5]
  · by_cases c8 : op = 8
    · simp [c8]
    · by_cases c9 : op = 9
      · simp [c9]
      · by_cases c11 : op = 11
        · simp [c11]
        · by_cases c12 : op = 12
          · simp [c12]
          · simp [c5, c8, c9, c11, c12]
theorem specTyped (op : Int) : spec_l2Typed.f op = some (typedV op) := by
  unfold spec_l2Typed.f typedV
  by_cases c6 : op = 6
  · simp [c6]
  · by_cases c7 : op = 7
    · simp [c7]
    · by_cases c9 : op = 9
      · simp [c9]
      · simp [c6, c7, c9]
theorem implForm (op : Int) : ∃ s, impl_formOf.f op = some (s, if 0 ≤ op ∧ op ≤ 12 then manyV op else 0, hasV op, typedV op, decide (0 ≤ op ∧ op ≤ 12)) := by
  unfold impl_formOf.f
  rw [within_eq, Option.bind_some]
  by_cases c : 0 ≤ op ∧ op ≤ 12
  · rw [(inV_iff _ _ _).mpr c]
    rcases ops_cases c with h | h | h | h | h | h | h | h | h | h | h | h | h <;> subst h <;> exact ⟨_, rfl⟩
  · have e : inV op 0 12 = false := by rw [Bool.eq_false_iff]; exact fun hh => c ((inV_iff _ _ _).mp hh)
    refine ⟨⟨#[]⟩, ?_⟩
    rw [e, if_neg (by decide), if_neg c, decide_eq_false c]
    have h1 : hasV op = false := by unfold hasV; exact decide_eq_false (by omega)
    have h2 : typedV op = false := by unfold typedV; exact decide_eq_false (by omega)
    rw [h1, h2]
/-- How many nodes a term has. -/
def nodes (x : S40) : Nat := 1 + (x.f3.attach.map fun y => nodes y.1).sum
termination_by SizeOf.sizeOf x
decreasing_by exact kid_ltI y.2
theorem nodes_eq (x : S40) : nodes x = 1 + (x.f3.map nodes).sum := by
  rw [nodes, List.attach_map_val (f := nodes)]
def leftV (a n : Int) : Int := if n ≤ a then a - n else -1
theorem specLeft (x : S40) (hs : Small x) : ∀ a : Int, 0 ≤ a → a ≤ 1048576 → Ev (fun k => spec_l2Left.f k x.f0 x.f1 x.f2 x.f3 a) (leftV a (nodes x)) := by
  revert hs
  refine indI (P := fun x => Small x → ∀ a : Int, 0 ≤ a → a ≤ 1048576 → Ev (fun k => spec_l2Left.f k x.f0 x.f1 x.f2 x.f3 a) (leftV a (nodes x))) ?_ (SizeOf.sizeOf x + 1) x (by omega)
  clear x
  intro x ih hs a ha hb
  obtain ⟨s2, s3, sk⟩ := hs.out
  have stop : ∀ (i : Int) (acc : Int), acc < 0 → Ev (fun k => spec_l2Left.l0 k acc i x.f0 x.f1 x.f2 x.f3) acc := fun i acc h => by
    refine Ev.step (f := fun _ => some acc) (fun k => ?_) (Ev.now _)
    simp only [spec_l2Left.l0]
    by_cases c : i < (x.f3.length : Int)
    · rw [if_pos c, if_neg (by omega)]
    · rw [if_neg c]
  have lp : ∀ (m i : Nat) (acc : Int), i + m = x.f3.length → 0 ≤ acc → acc ≤ 1048576 → Ev (fun k => spec_l2Left.l0 k acc (i : Int) x.f0 x.f1 x.f2 x.f3) (leftV acc ((x.f3.drop i).map nodes).sum) := by
    intro m
    induction m with
    | zero =>
      intro i acc hi h0 h1
      rw [List.drop_eq_nil_of_le (by omega)]
      refine Ev.step (f := fun _ => some acc) (fun k => ?_) (by simpa [leftV, h0] using Ev.now acc)
      simp only [spec_l2Left.l0]; rw [if_neg (by omega)]
    | succ m ihm =>
      intro i acc hi h0 h1
      have hmem : x.f3[i] ∈ x.f3 := List.getElem_mem _
      have h2 := ih _ hmem (sk _ hmem) acc h0 h1
      rw [List.drop_eq_getElem_cons (show i < x.f3.length by omega), List.map_cons, List.sum_cons]
      refine Ev.step (f := fun k => (spec_l2Left.f k x.f3[i].f0 x.f3[i].f1 x.f3[i].f2 x.f3[i].f3 acc).bind fun t => spec_l2Left.l0 k t ((i + 1 : Nat) : Int) x.f0 x.f1 x.f2 x.f3) (fun k => ?_) (Ev.bind h2 ?_)
      · simp only [spec_l2Left.l0, rdI_get (show i < x.f3.length by omega)]
        rw [if_pos (by omega), if_pos h0, if_pos (by omega), w64 (x := (i : Int) + 1) (by omega) (by omega)]; rfl
      · unfold leftV
        by_cases c : (nodes x.f3[i] : Int) ≤ acc
        · rw [if_pos c]
          have := ihm (i + 1) (acc - nodes x.f3[i]) (by omega) (by omega) (by omega)
          unfold leftV at this
          by_cases c2 : (((x.f3.drop (i + 1)).map nodes).sum : Int) ≤ acc - nodes x.f3[i]
          · rw [if_pos c2] at this
            rw [if_pos (by omega)]
            rw [show acc - ((nodes x.f3[i] + ((x.f3.drop (i + 1)).map nodes).sum : Nat) : Int) = acc - nodes x.f3[i] - ((x.f3.drop (i + 1)).map nodes).sum by omega]
            exact this
          · rw [if_neg c2] at this
            rw [if_neg (by omega)]
            exact this
        · rw [if_neg c, if_neg (by omega)]
          exact stop _ _ (by omega)
  rw [nodes_eq]
  refine Ev.step (f := fun k => spec_l2Left.l0 k (a - 1) 0 x.f0 x.f1 x.f2 x.f3) (fun k => ?_) ?_
  · simp only [spec_l2Left.f]; rw [w64 (x := a - 1) (by omega) (by omega)]
  · by_cases c : a - 1 < 0
    · have : leftV a ((1 + (x.f3.map nodes).sum : Nat) : Int) = a - 1 := by
        unfold leftV
        by_cases c2 : ((1 + (x.f3.map nodes).sum : Nat) : Int) ≤ a
        · omega
        · rw [if_neg c2]; omega
      rw [this]
      exact stop _ _ c
    · have := lp x.f3.length 0 (a - 1) (by omega) (by omega) (by omega)
      rw [List.drop_zero] at this
      unfold leftV at this ⊢
      by_cases c2 : ((x.f3.map nodes).sum : Int) ≤ a - 1
      · rw [if_pos c2] at this
        rw [if_pos (by omega), show a - ((1 + (x.f3.map nodes).sum : Nat) : Int) = a - 1 - (x.f3.map nodes).sum by omega]
        exact this
      · rw [if_neg c2] at this
        rw [if_neg (by omega)]
        exact this
end Go.Proofs.Ytipfkicndjddgaa.Pure
end

section
/- Terms: the reference's and the program's walks over a term tell the same. -/
set_option linter.unusedSimpArgs false
set_option linter.unusedVariables false
namespace Go.Proofs.Ytipfkicndjddgaa.Pure
open Go.RowKit Go.Proofs.Ytipfkicndjddgaa.P Go.Proofs.YtipfkicndjddgaaW.PrintWords Go.Proofs.YtipfkicndjddgaaW.PrintLast
def Ev2 {α : Type} (g : Nat → Nat → Option α) (r : α) : Prop := ∃ K, ∀ k, K ≤ k → ∀ j, K ≤ j → g k j = some r
theorem ev2_now {α : Type} (r : α) : Ev2 (fun _ _ => some r) r := ⟨0, fun _ _ _ _ => rfl⟩
theorem ev2_step {α : Type} {g h : Nat → Nat → Option α} {r : α} (H : ∀ k j, g (k + 1) j = h k j) (e : Ev2 h r) : Ev2 g r := by
  obtain ⟨K, e⟩ := e
  refine ⟨K + 1, fun k hk j hj => ?_⟩
  obtain ⟨m, rfl⟩ : ∃ m, k = m + 1 := ⟨k - 1, by omega⟩
  rw [H]; exact e m (by omega) j (by omega)
theorem ev2_bind {α β : Type} {g : Nat → Nat → Option α} {f : Nat → Nat → α → Option β} {a : α} {r : β} (h : Ev2 g a) (e : Ev2 (fun k j => f k j a) r) : Ev2 (fun k j => (g k j).bind (f k j)) r := by
  obtain ⟨K, h⟩ := h
  obtain ⟨K', e⟩ := e
  refine ⟨max K K', fun k hk j hj => ?_⟩
  have h1 := h k (by omega) j (by omega)
  have h2 := e k (by omega) j (by omega)
  simp only [h1, Option.bind_some]
  exact h2
theorem ev2_congr {α : Type} {g f : Nat → Nat → Option α} {r : α} (h : ∀ k j, g k j = f k j) (e : Ev2 f r) : Ev2 g r := by
  obtain ⟨K, e⟩ := e
  exact ⟨K, fun k hk j hj => (h k j).trans (e k hk j hj)⟩
theorem ev2_right {α : Type} {g : Nat → Option α} {r : α} (h : Ev g r) : Ev2 (fun _ j => g j) r := by
  obtain ⟨K, h⟩ := h
  exact ⟨K, fun _ _ j hj => h j hj⟩
theorem ev2_diag {α : Type} {g : Nat → Nat → Option α} {r : α} (h : Ev2 g r) : Ev (fun k => g k k) r := by
  obtain ⟨K, h⟩ := h
  exact ⟨K, fun k hk => h k hk k hk⟩
/-- What a node must be: g of its number where it bears a grade, T of its type where it bears one. -/
def gradeV (g : Int → Bool) (x : S40) (d : Int) : Bool :=
  if x.f0 = 0 then inV x.f1 0 (wrap64 (d - 1)) else if x.f0 = 1 then inV x.f1 0 2 else if hasV x.f0 = true then g x.f1 else decide (x.f1 = 0)
def typeOf (T : List Int → Bool) (x : S40) : Bool := if typedV x.f0 = true then T x.f2 else decide ((x.f2.length : Int) = 0)
def nodeV (g : Int → Bool) (T : List Int → Bool) (x : S40) (d : Int) : Bool := decide ((x.f3.length : Int) = manyV x.f0) && (gradeV g x d && typeOf T x)
section
variable {g : Int → Bool} {T : List Int → Bool} {n : Int} {strict : Bool}
theorem specNode (hg : ∀ N : Int, (if N ≥ n then false else if N < -1 then false else if strict = true then (if N < 0 then false else true) else true) = g N)
    (hT : ∀ ty : List Int, ty.length ≤ 1048576 → Ev (fun k => (spec_l2Type.f k ty).bind fun t => if t = true then (spec_l2Graded.f k ty n strict).bind (fun u => some u) else some false) (T ty))
    (x : S40) (hs : Small x) (d : Int) : Ev (fun k => spec_l2Node.f k x.f0 x.f1 x.f2 x.f3 d n strict) (nodeV g T x d) := by
  have tail : Ev (fun k => spec_l2Node.j0 k n strict x.f0 x.f1 x.f2 x.f3) (typeOf T x) := by
    refine Ev.step (f := fun k => if typedV x.f0 = true then (spec_l2Type.f k x.f2).bind (fun t => if t = true then (spec_l2Graded.f k x.f2 n strict).bind (fun u => some u) else some false) else some (decide ((x.f2.length : Int) = 0))) (fun k => ?_) ?_
    · simp only [spec_l2Node.j0, specTyped, Option.bind_some]; rfl
    · unfold typeOf
      cases typedV x.f0
      · simpa using Ev.now (decide ((x.f2.length : Int) = 0))
      · simpa using hT x.f2 hs.out.1
  unfold spec_l2Node.f nodeV gradeV
  simp only [specMany, specHas, in_eq, Option.bind_some]
  by_cases c : (x.f3.length : Int) = manyV x.f0
  · simp only [if_pos c, decide_eq_true c, Bool.true_and]
    by_cases c0 : x.f0 = 0
    · simp only [if_pos c0]
      cases inV x.f1 0 (wrap64 (d - 1))
      · simpa using Ev.now false
      · simpa using tail
    · simp only [if_neg c0]
      by_cases c1 : x.f0 = 1
      · simp only [if_pos c1]
        cases inV x.f1 0 2
        · simpa using Ev.now false
        · simpa using tail
      · simp only [if_neg c1]
        cases hasV x.f0
        · simp only [Bool.false_eq_true, if_false]
          by_cases cz : x.f1 = 0
          · simp only [if_pos cz, decide_eq_true cz, Bool.true_and]; exact tail
          · simp only [if_neg cz, decide_eq_false cz, Bool.false_and]; exact Ev.now _
        · simp only [if_true]
          rw [← hg x.f1]
          by_cases d1 : x.f1 ≥ n
          · simp only [if_pos d1, Bool.false_and]; exact Ev.now _
          · simp only [if_neg d1]
            by_cases d2 : x.f1 < -1
            · simp only [if_pos d2, Bool.false_and]; exact Ev.now _
            · simp only [if_neg d2]
              cases strict
              · simpa using tail
              · simp only [if_true]
                by_cases d3 : x.f1 < 0
                · simp only [if_pos d3, Bool.false_and]; exact Ev.now _
                · simp only [if_neg d3, Bool.true_and]; exact tail
  · simp only [if_neg c, decide_eq_false c, Bool.false_and]
    exact Ev.now _
/-- What is known of a term that passed. -/
inductive Fine (g : Int → Bool) (T : List Int → Bool) : S40 → Int → Prop
  | mk (x : S40) (d : Int) : nodeV g T x d = true → (∀ (q : Nat) (h : q < x.f3.length), Fine g T (x.f3[q]) (wrap64 (d + addsV x.f0 q))) → Fine g T x d
/-- What the program's walk tells: the count, or 401. -/
def outV (v : Bool) (s m : Int) : Int := if v = true ∧ s + m ≤ 400 then s + m else 401
theorem termBoth {x2 : Int → Option Bool} {x3 : Nat → List Int → Option Bool}
    (hg : ∀ N : Int, (if N ≥ n then false else if N < -1 then false else if strict = true then (if N < 0 then false else true) else true) = g N)
    (hT : ∀ ty : List Int, ty.length ≤ 1048576 → Ev (fun k => (spec_l2Type.f k ty).bind fun t => if t = true then (spec_l2Graded.f k ty n strict).bind (fun u => some u) else some false) (T ty))
    (h2 : ∀ N, x2 N = some (g N)) (h3 : ∀ ty : List Int, ty.length ≤ 1048576 → Ev (fun k => x3 k ty) (T ty)) (x : S40) (hs : Small x) :
    ∀ d : Int, ∃ v : Bool, (v = true → Fine g T x d) ∧ Ev (fun k => spec_l2Term.f k x.f0 x.f1 x.f2 x.f3 d n strict) v ∧ ∀ s : Int, 0 ≤ s → s ≤ 400 → Ev2 (fun k j => impl_check.f k x.f0 x.f1 x.f2 x.f3 d x2 (x3 j) s) (outV v s (nodes x)) := by
  revert hs
  refine indI (P := fun x => Small x → ∀ d : Int, ∃ v : Bool, (v = true → Fine g T x d) ∧ Ev (fun k => spec_l2Term.f k x.f0 x.f1 x.f2 x.f3 d n strict) v ∧ ∀ s : Int, 0 ≤ s → s ≤ 400 → Ev2 (fun k j => impl_check.f k x.f0 x.f1 x.f2 x.f3 d x2 (x3 j) s) (outV v s (nodes x))) ?_ (SizeOf.sizeOf x + 1) x (by omega)
  clear x
  intro x ih hs d
  obtain ⟨s2, s3, sk⟩ := hs.out
  have hn := specNode hg hT x hs d
  have lp : ∀ (m i : Nat), i + m = x.f3.length → ∃ v : Bool, (v = true → ∀ (q : Nat) (h : q < x.f3.length), i ≤ q → Fine g T (x.f3[q]) (wrap64 (d + addsV x.f0 q))) ∧ Ev (fun k => spec_l2Term.l0 k d n strict (i : Int) x.f0 x.f1 x.f2 x.f3) v ∧ ∀ s : Int, 0 ≤ s → s ≤ 400 → Ev2 (fun k j => impl_check.l0 k d x2 (x3 j) s x.f3 (x.f3.length : Int) (i : Int) x.f0 x.f1 x.f2 x.f3) (outV v s ((x.f3.drop i).map nodes).sum) := by
    intro m
    induction m with
    | zero =>
      intro i hi
      refine ⟨true, fun _ q h hq => absurd h (by omega), Ev.step (f := fun _ => some true) (fun k => ?_) (Ev.now _), fun s h0 h1 => ?_⟩
      · simp only [spec_l2Term.l0]; rw [if_neg (by omega)]
      · rw [List.drop_eq_nil_of_le (by omega)]
        refine ev2_step (h := fun _ _ => some s) (fun k j => ?_) (by simpa [outV, h1] using ev2_now s)
        simp only [impl_check.l0]; rw [if_neg (by omega)]
    | succ m ihm =>
      intro i hi
      have hmem : x.f3[i] ∈ x.f3 := List.getElem_mem _
      obtain ⟨v, hv0, hv1, hv2⟩ := ih _ hmem (sk _ hmem) (wrap64 (d + addsV x.f0 i))
      obtain ⟨u, hu0, hu1, hu2⟩ := ihm (i + 1) (by omega)
      have i1 : (i : Int) < (x.f3.length : Int) := by omega
      have up : wrap64 ((i : Int) + 1) = ((i + 1 : Nat) : Int) := by rw [w64 (by omega) (by omega)]; omega
      refine ⟨v && u, fun hvu q h hq => ?_, ?_, fun s h0 h1 => ?_⟩
      · rw [Bool.and_eq_true] at hvu
        by_cases e : q = i
        · subst e; exact hv0 hvu.1
        · exact hu0 hvu.2 q h (by omega)
      · obtain ⟨K, hK⟩ := Ev.bind (f := fun k t => if t = true then spec_l2Term.l0 k d n strict ((i + 1 : Nat) : Int) x.f0 x.f1 x.f2 x.f3 else some false) (r := v && u) hv1 (by
          cases v
          · simpa using Ev.now false
          · simpa using hu1)
        refine ⟨K + 2, fun k hk => ?_⟩
        obtain ⟨k, rfl⟩ : ∃ q, k = q + 2 := ⟨k - 2, by omega⟩
        have := hK (k + 1) (by omega)
        show spec_l2Term.l0 (k + 1 + 1) d n strict (i : Int) x.f0 x.f1 x.f2 x.f3 = _
        simp only [spec_l2Term.l0, rdI_get (show i < x.f3.length by omega)]
        rw [if_pos i1, if_pos (by omega), specAdds, Option.bind_some, up]
        exact this
      · obtain ⟨K, hK⟩ := ev2_bind (f := fun k j t => if t > 400 then some 401 else impl_check.l0 k d x2 (x3 j) t x.f3 (x.f3.length : Int) ((i + 1 : Nat) : Int) x.f0 x.f1 x.f2 x.f3) (r := outV (v && u) s ((x.f3.drop i).map nodes).sum) (hv2 s h0 h1) (by
          rw [List.drop_eq_getElem_cons (show i < x.f3.length by omega), List.map_cons, List.sum_cons]
          unfold outV
          by_cases c : v = true ∧ s + (nodes x.f3[i] : Int) ≤ 400
          · simp only [if_pos c, if_neg (show ¬ s + (nodes x.f3[i] : Int) > 400 by omega)]
            have := hu2 (s + nodes x.f3[i]) (by omega) c.2
            unfold outV at this
            by_cases c2 : u = true ∧ s + (nodes x.f3[i] : Int) + (((x.f3.drop (i + 1)).map nodes).sum : Int) ≤ 400
            · rw [if_pos c2] at this
              rw [if_pos ⟨by simp [c.1, c2.1], by omega⟩, show s + ((nodes x.f3[i] + ((x.f3.drop (i + 1)).map nodes).sum : Nat) : Int) = s + nodes x.f3[i] + ((x.f3.drop (i + 1)).map nodes).sum by omega]
              exact this
            · rw [if_neg c2] at this
              rw [if_neg (fun hh => c2 ⟨by have := hh.1; simp at this; exact this.2, by omega⟩)]
              exact this
          · simp only [if_neg c]
            rw [if_neg (fun hh => c ⟨by have := hh.1; simp at this; exact this.1, by omega⟩)]
            simpa using ev2_now (401 : Int))
        refine ⟨K + 4, fun k hk j hj => ?_⟩
        obtain ⟨k, rfl⟩ : ∃ q, k = q + 4 := ⟨k - 4, by omega⟩
        have := hK (k + 3) (by omega) j (by omega)
        show impl_check.l0 (k + 3 + 1) d x2 (x3 j) s x.f3 (x.f3.length : Int) (i : Int) x.f0 x.f1 x.f2 x.f3 = _
        simp only [impl_check.l0, rdI_get (show i < x.f3.length by omega)]
        rw [if_pos i1, if_pos (by omega), if_pos i1, show k + 3 = (k + 1) + 2 by omega, implAdds, Option.bind_some, up]
        exact this
  obtain ⟨u, hu0, hu1, hu2⟩ := lp x.f3.length 0 (by omega)
  refine ⟨nodeV g T x d && u, fun hv => ?_, ?_, fun s h0 h1 => ?_⟩
  · rw [Bool.and_eq_true] at hv
    exact .mk x d hv.1 fun q h => hu0 hv.2 q h (by omega)
  · refine Ev.step (fun k => by simp only [spec_l2Term.f]; rfl) (Ev.bind hn ?_)
    cases nodeV g T x d
    · simpa using Ev.now false
    · simpa using hu1
  · obtain ⟨nm, hf⟩ := implForm x.f0
    rw [nodes_eq]
    have s1 : wrap64 (s + 1) = s + 1 := w64 (by omega) (by omega)
    have bad : ∀ mm hh ty, Ev2 (fun k j => impl_check.j0 k d x2 (x3 j) (s + 1) true x.f0 x.f1 x.f2 x.f3 nm mm hh ty) 401 := fun mm hh ty =>
      ev2_step (h := fun _ _ => some 401) (fun k j => by simp only [impl_check.j0, if_true]) (ev2_now _)
    by_cases hfound : 0 ≤ x.f0 ∧ x.f0 ≤ 12
    · rw [if_pos hfound, decide_eq_true hfound] at hf
      by_cases hbig : s + 1 > 400
      · have e : outV (nodeV g T x d && u) s ((1 + (x.f3.map nodes).sum : Nat) : Int) = 401 := by unfold outV; rw [if_neg (by omega)]
        rw [e]
        exact ev2_step (fun k j => by simp only [impl_check.f, hf, Option.bind_some, if_true, s1, if_pos hbig]) (bad (manyV x.f0) (hasV x.f0) (typedV x.f0))
      · by_cases hlen : (x.f3.length : Int) = manyV x.f0
        · have e : outV (nodeV g T x d && u) s ((1 + (x.f3.map nodes).sum : Nat) : Int) = if (gradeV g x d && typeOf T x) = true then outV u (s + 1) ((x.f3.map nodes).sum : Nat) else 401 := by
            unfold nodeV
            rw [decide_eq_true hlen, Bool.true_and]
            unfold outV
            cases (gradeV g x d && typeOf T x)
            · simp
            · simp only [Bool.true_and, if_true]
              by_cases c : u = true ∧ s + 1 + (((x.f3.map nodes).sum : Nat) : Int) ≤ 400
              · rw [if_pos c, if_pos ⟨c.1, by omega⟩]; omega
              · rw [if_neg c, if_neg (fun hh => c ⟨hh.1, by omega⟩)]
          have main := hu2 (s + 1) (by omega) (by omega)
          rw [List.drop_zero] at main
          have j2 : ∀ b : Bool, Ev2 (fun k j => impl_check.j2 k d x2 (x3 j) (s + 1) b x.f0 x.f1 x.f2 x.f3) (if b = true then outV u (s + 1) ((x.f3.map nodes).sum : Nat) else 401) := fun b => by
            cases b
            · exact ev2_step (h := fun _ _ => some 401) (fun k j => by simp only [impl_check.j2, Bool.false_eq_true, if_false]) (ev2_now _)
            · exact ev2_step (fun k j => by simp only [impl_check.j2, if_true]; rfl) main
          have j1 : ∀ b : Bool, Ev2 (fun k j => impl_check.j1 k d x2 (x3 j) (s + 1) b x.f0 x.f1 x.f2 x.f3 nm (manyV x.f0) (hasV x.f0) (typedV x.f0)) (if (b && typeOf T x) = true then outV u (s + 1) ((x.f3.map nodes).sum : Nat) else 401) := fun b => by
            unfold typeOf
            cases ht : typedV x.f0
            · cases b
              · exact ev2_step (fun k j => by simp only [impl_check.j1, Bool.false_eq_true, if_false]) (j2 false)
              · refine ev2_step (h := fun k j => impl_check.j2 k d x2 (x3 j) (s + 1) (decide ((x.f2.length : Int) = 0)) x.f0 x.f1 x.f2 x.f3) (fun k j => ?_) (by simpa using j2 (decide ((x.f2.length : Int) = 0)))
                simp only [impl_check.j1, Bool.false_eq_true, if_false, if_true]
                by_cases c : (x.f2.length : Int) = 0
                · rw [decide_eq_true c, c]; rfl
                · rw [decide_eq_false c, beq_eq_false_iff_ne.mpr c]
            · cases b
              · exact ev2_step (fun k j => by simp only [impl_check.j1, Bool.false_eq_true, if_false, if_true]) (j2 false)
              · refine ev2_step (h := fun k j => (x3 j x.f2).bind fun t => impl_check.j2 k d x2 (x3 j) (s + 1) t x.f0 x.f1 x.f2 x.f3) (fun k j => by simp only [impl_check.j1, if_true]) (ev2_bind (ev2_right (h3 x.f2 s2)) ?_)
                simpa using j2 (T x.f2)
          rw [e]
          have ebne : ((x.f3.length : Int) != manyV x.f0) = false := bne_eq_false_iff_eq.mpr hlen
          refine ev2_step (h := fun k j => impl_check.j0 k d x2 (x3 j) (s + 1) false x.f0 x.f1 x.f2 x.f3 nm (manyV x.f0) (hasV x.f0) (typedV x.f0)) (fun k j => by simp only [impl_check.f, hf, Option.bind_some, if_true, s1, if_neg hbig, ebne]) ?_
          refine ev2_step (h := fun k j => impl_check.j1 k d x2 (x3 j) (s + 1) (gradeV g x d) x.f0 x.f1 x.f2 x.f3 nm (manyV x.f0) (hasV x.f0) (typedV x.f0)) (fun k j => ?_) (j1 _)
          unfold gradeV
          simp only [impl_check.j0, Bool.false_eq_true, if_false, within_eq, Option.bind_some, h2]
          by_cases c0 : x.f0 = 0
          · simp only [if_pos c0]
          · simp only [if_neg c0]
            by_cases c1 : x.f0 = 1
            · simp only [if_pos c1]
            · simp only [if_neg c1]
              cases hasV x.f0
              · simp only [Bool.false_eq_true, if_false]
                by_cases cz : x.f1 = 0
                · rw [decide_eq_true cz, cz]; rfl
                · rw [decide_eq_false cz, beq_eq_false_iff_ne.mpr cz]
              · simp only [if_true]
        · have e : outV (nodeV g T x d && u) s ((1 + (x.f3.map nodes).sum : Nat) : Int) = 401 := by unfold outV nodeV; rw [decide_eq_false hlen]; simp
          rw [e]
          have ebne : ((x.f3.length : Int) != manyV x.f0) = true := bne_iff_ne.mpr hlen
          exact ev2_step (fun k j => by simp only [impl_check.f, hf, Option.bind_some, if_true, s1, if_neg hbig, ebne]) (bad (manyV x.f0) (hasV x.f0) (typedV x.f0))
    · rw [if_neg hfound, decide_eq_false hfound] at hf
      have hm : manyV x.f0 = -1 := by unfold manyV; rw [if_neg (by omega), if_neg (by omega), if_neg (by omega), if_neg (by omega)]
      have e : outV (nodeV g T x d && u) s ((1 + (x.f3.map nodes).sum : Nat) : Int) = 401 := by unfold outV nodeV; rw [hm, decide_eq_false (by omega)]; simp
      rw [e]
      exact ev2_step (fun k j => by simp only [impl_check.f, hf, Option.bind_some, Bool.false_eq_true, if_false, s1]) (bad 0 (hasV x.f0) (typedV x.f0))
end
end Go.Proofs.Ytipfkicndjddgaa.Pure
end

section
namespace Go.Proofs.Ytipfkicndjddgaa.P
open Go.RowKit Go.Proofs.YtipfkicndjddgaaW.PrintWords Go.Proofs.YtipfkicndjddgaaW.PrintLast Go.Proofs.YtipfkicndjddgaaW.PrintMore
attribute [local go_sem] max2_int min2_int max_two min_two max_three min_three max_four min_four   -- for this text's walks alone
set_option linter.unusedVariables false
set_option linter.unusedSimpArgs false

/-! ### impl_writtenSize: function 88 -/
def impl_writtenSize.f (k : Nat) (a0_0 : Int) (a0_1 : Int) (l0_2 : List Int) (l0_3 : List (S40)) : Option (Int) := (impl_check.f k a0_0 a0_1 l0_2 l0_3 8 (fun z0_ => impl_writtenSize_1.f z0_) (fun z0_ => impl_isWrittenType.f k z0_) 0).bind fun t302 => (some t302)
set_option maxHeartbeats 8000000 in
set_option maxRecDepth 100000 in
theorem impl_writtenSize.calls (k : Nat) (a0_0 : Int) (a0_1 : Int) (A0_2 : Option Addr) (c0_2 : Nat) (l0_2 : List Int) (A0_3 : Option Addr) (c0_3 : Nat) (l0_3 : List (S40)) (r : Int) (w : World) (hr0_2 : Kd.C (Kd.int .i64) w A0_2 l0_2.length l0_2) (hc0_2 : l0_2.length ≤ c0_2) (hr0_3 : Kd.C k40 w A0_3 l0_3.length l0_3) (hc0_3 : l0_3.length ≤ c0_3) (h : impl_writtenSize.f k a0_0 a0_1 l0_2 l0_3 = some r) :
  Calls Try.prog 88 #[.agg #[.int .i64 a0_0, .int .i64 a0_1, .slice A0_2 l0_2.length c0_2, .slice A0_3 l0_3.length c0_3]] w fun e w' => e = .returned (.int .i64 r) ∧ Below w.heap.size w w' := by
 have hu40 := Try.underlying40
 have HR0_2 := sd_ hr0_2
 have HC0_2 := sd_ hc0_2
 clear hr0_2 hc0_2
 have HR0_3 := sd_ hr0_3
 have HC0_3 := sd_ hc0_3
 clear hr0_3 hc0_3
 have HB := sd_ (Below.refl w.heap.size w)
 have H : ((impl_check.f k a0_0 a0_1 l0_2 l0_3 8 (fun z0_ => impl_writtenSize_1.f z0_) (fun z0_ => impl_isWrittenType.f k z0_) 0).bind fun t302 => (some t302)) = some r := h
 clear h
 replace H := Option.bind_eq_some_iff.mp H
 obtain ⟨t302, A20, H⟩ := H
 try dsimp only at H
 have A2 := sd_ A20
 clear A20
 obtain rfl := Option.some.inj H
 go_enter Try.func88, Try.ntmps88
 go_wp2_with (first | ((with_reducible refine gate_dst (N := 1) rfl ?_); refine bx_ (N := 1) (cs := #[.int .i64 a0_0, .int .i64 a0_1, .slice A0_2 l0_2.length c0_2, .slice A0_3 l0_3.length c0_3]) (t := 40) ?_; intro gb301 hg w3 hbox hb; have BK301 := sd_ (hbox); have GW301 := sd_ (gs_ hg (bw0_ HB.out)); have GE301 := sd_ (gs_ hg (bw0_ HB.out)); replace HB := sd_ (below_step (bw0_ HB.out) hb); clear hb hbox hg; obtain ⟨hcz4_0, hcz4_1, hcz4_2, hcz4_3, hfz4_0, hfz4_1, hfz4_2, hfz4_3⟩ := bf4_ BK301.out) | ((with_reducible refine gate_callee (f := 118) rfl ?_); refine goesL_ (some 4) rfl rfl Try.func118 (by kernel_rfl) rfl #[.agg #[.int .i64 a0_0, .int .i64 a0_1, .slice A0_2 l0_2.length c0_2, .slice A0_3 l0_3.length c0_3], .int .i64 8, .func (.func 119) #[] #[], .func (.func 120) #[] #[], .int .i64 0] rfl la_ ?_; (with_reducible refine (impl_check.calls k a0_0 a0_1 _ _ l0_2 _ _ l0_3 8 (fun z0_ => impl_writtenSize_1.f z0_) 119 #[] #[] (fun z0_ => impl_isWrittenType.f k z0_) 120 #[] #[] 0 t302 _ ?side1 ?side2 ?side3 ?side4 ?side5 ?side6 ?side7 ?side8 A2.out).mono ?_); (case side1 => exact kc_ HR0_2.out HB.out); (case side2 => exact HC0_2.out); (case side3 => exact kc_ HR0_3.out HB.out); (case side4 => exact HC0_3.out); (case side5 => exact ⟨_, Try.func119, (by kernel_rfl), rfl⟩); (case side6 => intro z0_0 rr0_0 w9_0  hb9_0 h9_0; refine calls_of_args (args' := #[.int .i64 z0_0]) (by first | rfl | simp) ?_; refine (impl_writtenSize_1.calls z0_0 rr0_0 w9_0  h9_0).mono ?_; exact fun _ _ h_ => ⟨h_.1, h_.2.below⟩); (case side7 => exact ⟨_, Try.func120, (by kernel_rfl), rfl⟩); (case side8 => intro A0_0 c0_0 z0_0 rr0_0 w9_0 hr0_0 hc0_0 hb9_0 h9_0; refine calls_of_args (args' := #[.slice A0_0 z0_0.length c0_0]) (by first | rfl | simp) ?_; refine (impl_isWrittenType.calls k A0_0 c0_0 z0_0 rr0_0 w9_0 hr0_0 hc0_0 h9_0).mono ?_; exact fun _ _ h_ => ⟨h_.1, h_.2.below⟩); rintro e w5 ⟨rfl, hb⟩; refine ⟨_, rfl, ?_⟩; replace BK301 := sd_ (bb_ BK301.out hb); replace HB := sd_ (below_step (bw1_ HB.out GE301.out) hb); (try clear hb)))
 go_ret
 exact ⟨an_, bw1_ HB.out GE301.out⟩

end Go.Proofs.Ytipfkicndjddgaa.P
end

section
/- What is written. -/
set_option linter.unusedSimpArgs false
set_option linter.unusedVariables false
namespace Go.Proofs.Ytipfkicndjddgaa.Pure
open Go.RowKit Go.Proofs.Ytipfkicndjddgaa.P Go.Proofs.YtipfkicndjddgaaW.PrintWords Go.Proofs.YtipfkicndjddgaaW.PrintLast
theorem grade_small (c : Int) (h : kidsV c > 0) (h2 : c > 2) : ∃ v, spec_l2Grade.f c = some v ∧ v < 16 := by
  unfold kidsV at h
  unfold spec_l2Grade.f
  by_cases c1 : c ≥ 35
  · exact ⟨-1, if_pos c1, by omega⟩
  · rw [if_neg c1]
    by_cases c2 : c ≥ 19
    · rw [if_pos c2, w64 (by omega) (by omega)]; exact ⟨_, rfl, by omega⟩
    · rw [if_neg c2, w64 (by omega) (by omega)]; exact ⟨_, rfl, by omega⟩
theorem specGraded16 (xs : List Int) (hl : xs.length ≤ 1048576) : Ev (fun k => spec_l2Graded.f k xs 16 false) true := by
  unfold spec_l2Graded.f
  have hh : (findO (fun _ => (none : Option Bool)) 0 xs.length).getD true = true := by rw [findO_nil]; rfl
  rw [← hh]
  refine loop (F := fun k i => spec_l2Graded.l0 k xs 16 false i) (n := (xs.length : Int)) ?_ ?_ xs.length 0 (by omega) (by omega)
  · refine Ev.step (f := fun _ => some true) (fun k => ?_) (Ev.now _)
    simp only [spec_l2Graded.l0]; rw [if_neg (by omega)]
  · intro i h0 h1 r hr
    have up : wrap64 (i + 1) = i + 1 := w64 (by omega) (by omega)
    have open_ : ∀ k, spec_l2Graded.l0 (k + 2) xs 16 false i = spec_l2Graded.l0 k xs 16 false (i + 1) := by
      intro k
      show (if i < (xs.length : Int) then _ else _) = _
      rw [if_pos h1, if_pos h0, kids_eq, Option.bind_some]
      by_cases ck : kidsV (rd xs i) > 0
      · rw [if_pos ck]
        by_cases c2 : rd xs i > 2
        · obtain ⟨v, eg, hv⟩ := grade_small (rd xs i) ck c2
          rw [decide_eq_true c2]
          simp only [spec_l2Graded.j1, if_true, if_pos h0, if_pos h1, eg, Option.bind_some, up, if_neg (show ¬ v ≥ 16 by omega), Bool.false_eq_true, if_false]
        · rw [decide_eq_false c2]
          simp only [spec_l2Graded.j1, Bool.false_eq_true, if_false, up]
      · rw [if_neg ck]
        simp only [spec_l2Graded.j1, Bool.false_eq_true, if_false, up]
    obtain ⟨K, hK⟩ := hr
    refine ⟨K + 2, fun k hk => ?_⟩
    obtain ⟨k, rfl⟩ : ∃ q, k = q + 2 := ⟨k - 2, by omega⟩
    show spec_l2Graded.l0 (k + 2) xs 16 false i = _
    rw [open_]
    exact hK k (by omega)
theorem writtenBoth (x : S40) (hs : Small x) : ∃ v : Bool, (v = true → Fine (fun N => inV N (-1) 15) writtenV x 8) ∧ Ev (fun k => spec_IsWritten.f k x.f0 x.f1 x.f2 x.f3) v ∧ Ev (fun k => impl_writtenSize.f k x.f0 x.f1 x.f2 x.f3) (if v = true then (nodes x : Int) else 401) ∧ (v = true → nodes x ≤ 400) := by
  obtain ⟨v, h0, h1, h2⟩ := termBoth (g := fun N => inV N (-1) 15) (T := writtenV) (n := 16) (strict := false) (x2 := fun z => impl_writtenSize_1.f z) (x3 := fun j z => impl_isWrittenType.f j z)
    (fun N => by
      by_cases c : -1 ≤ N ∧ N ≤ 15
      · rw [(inV_iff _ _ _).mpr c, if_neg (by omega), if_neg (by omega)]; rfl
      · have e : inV N (-1) 15 = false := by rw [Bool.eq_false_iff]; exact fun hh => c ((inV_iff _ _ _).mp hh)
        rw [e]
        by_cases c1 : N ≥ 16
        · rw [if_pos c1]
        · rw [if_neg c1, if_pos (by omega)])
    (fun ty hty => by
      refine Ev.bind (specWritten ty hty) ?_
      cases writtenV ty
      · simpa using Ev.now false
      · simp only [if_true]
        exact Ev.bind (specGraded16 ty hty) (Ev.now _))
    (fun N => by unfold impl_writtenSize_1.f; rw [within_eq]; rfl) (fun ty hty => implWritten ty hty) x hs 8
  have hl := specLeft x hs 400 (by omega) (by omega)
  have hc := ev2_diag (h2 0 (by omega) (by omega))
  by_cases c : (nodes x : Int) ≤ 400
  · refine ⟨v, h0, ?_, ?_, fun _ => by omega⟩
    · unfold spec_IsWritten.f
      refine Ev.bind hl ?_
      unfold leftV
      rw [if_pos c]
      simp only [if_pos (show (400 : Int) - nodes x ≥ 0 by omega), Option.bind_fun_some]
      exact h1
    · unfold impl_writtenSize.f
      simp only [Option.bind_fun_some]
      unfold outV at hc
      rw [Int.zero_add] at hc
      cases v
      · simpa using hc
      · simpa [c] using hc
  · refine ⟨false, (fun h => by cases h), ?_, ?_, (fun h => by cases h)⟩
    · unfold spec_IsWritten.f
      refine Ev.bind hl ?_
      unfold leftV
      rw [if_neg c]
      simpa using Ev.now false
    · unfold impl_writtenSize.f
      simp only [Option.bind_fun_some]
      unfold outV at hc
      rw [Int.zero_add, if_neg (fun hh => c hh.2)] at hc
      simpa using hc
end Go.Proofs.Ytipfkicndjddgaa.Pure
end

section
namespace Go.Proofs.Ytipfkicndjddgaa.P
open Go.RowKit Go.Proofs.YtipfkicndjddgaaW.PrintWords Go.Proofs.YtipfkicndjddgaaW.PrintLast Go.Proofs.YtipfkicndjddgaaW.PrintMore
attribute [local go_sem] max2_int min2_int max_two min_two max_three min_three max_four min_four   -- for this text's walks alone
set_option linter.unusedVariables false
set_option linter.unusedSimpArgs false

/-! ### impl_IsWritten: function 63 -/
def impl_IsWritten.f (k : Nat) (a0_0 : Int) (a0_1 : Int) (l0_2 : List Int) (l0_3 : List (S40)) : Option (Bool) := (impl_writtenSize.f k a0_0 a0_1 l0_2 l0_3).bind fun t304 => (some (decide (t304 ≤ 400)))
set_option maxHeartbeats 8000000 in
set_option maxRecDepth 100000 in
theorem impl_IsWritten.calls (k : Nat) (a0_0 : Int) (a0_1 : Int) (A0_2 : Option Addr) (c0_2 : Nat) (l0_2 : List Int) (A0_3 : Option Addr) (c0_3 : Nat) (l0_3 : List (S40)) (r : Bool) (w : World) (hr0_2 : Kd.C (Kd.int .i64) w A0_2 l0_2.length l0_2) (hc0_2 : l0_2.length ≤ c0_2) (hr0_3 : Kd.C k40 w A0_3 l0_3.length l0_3) (hc0_3 : l0_3.length ≤ c0_3) (h : impl_IsWritten.f k a0_0 a0_1 l0_2 l0_3 = some r) :
  Calls Try.prog 63 #[.agg #[.int .i64 a0_0, .int .i64 a0_1, .slice A0_2 l0_2.length c0_2, .slice A0_3 l0_3.length c0_3]] w fun e w' => e = .returned (.bool r) ∧ Below w.heap.size w w' := by
 have hu40 := Try.underlying40
 have HR0_2 := sd_ hr0_2
 have HC0_2 := sd_ hc0_2
 clear hr0_2 hc0_2
 have HR0_3 := sd_ hr0_3
 have HC0_3 := sd_ hc0_3
 clear hr0_3 hc0_3
 have HB := sd_ (Below.refl w.heap.size w)
 have H : ((impl_writtenSize.f k a0_0 a0_1 l0_2 l0_3).bind fun t304 => (some (decide (t304 ≤ 400)))) = some r := h
 clear h
 replace H := Option.bind_eq_some_iff.mp H
 obtain ⟨t304, A20, H⟩ := H
 try dsimp only at H
 have A2 := sd_ A20
 clear A20
 obtain rfl := Option.some.inj H
 go_enter Try.func63, Try.ntmps63
 go_wp2_with (first | ((with_reducible refine gate_dst (N := 1) rfl ?_); refine bx_ (N := 1) (cs := #[.int .i64 a0_0, .int .i64 a0_1, .slice A0_2 l0_2.length c0_2, .slice A0_3 l0_3.length c0_3]) (t := 40) ?_; intro gb303 hg w3 hbox hb; have BK303 := sd_ (hbox); have GW303 := sd_ (gs_ hg (bw0_ HB.out)); have GE303 := sd_ (gs_ hg (bw0_ HB.out)); replace HB := sd_ (below_step (bw0_ HB.out) hb); clear hb hbox hg; obtain ⟨hcz4_0, hcz4_1, hcz4_2, hcz4_3, hfz4_0, hfz4_1, hfz4_2, hfz4_3⟩ := bf4_ BK303.out) | ((with_reducible refine gate_callee (f := 88) rfl ?_); refine goesL_ (some 4) rfl rfl Try.func88 (by kernel_rfl) rfl #[.agg #[.int .i64 a0_0, .int .i64 a0_1, .slice A0_2 l0_2.length c0_2, .slice A0_3 l0_3.length c0_3]] rfl la_ ?_; (with_reducible refine (impl_writtenSize.calls k a0_0 a0_1 _ _ l0_2 _ _ l0_3 t304 _ (kc_ HR0_2.out HB.out) HC0_2.out (kc_ HR0_3.out HB.out) HC0_3.out A2.out).mono ?_); rintro e w5 ⟨rfl, hb⟩; refine ⟨_, rfl, ?_⟩; replace BK303 := sd_ (bb_ BK303.out hb); replace HB := sd_ (below_step (bw1_ HB.out GE303.out) hb); (try clear hb)))
 go_ret
 exact ⟨an_, bw1_ HB.out GE303.out⟩

end Go.Proofs.Ytipfkicndjddgaa.P
end
