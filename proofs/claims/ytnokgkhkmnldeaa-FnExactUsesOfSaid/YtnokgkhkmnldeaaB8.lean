/- Terms: what is told of a node; how much a term bears; what is written. -/
import Derived.Test.YtnokgkhkmnldeaaPf69
import Derived.Test.YtnokgkhkmnldeaaPf70
import Derived.Test.YtnokgkhkmnldeaaPf101
import Derived.Test.YtnokgkhkmnldeaaB6
import Derived.Test.YtnokgkhkmnldeaaB5
set_option linter.unusedSimpArgs false
set_option linter.unusedVariables false
namespace Go.Proofs.Ytnokgkhkmnldeaa.Pure
open Go.RowKit Go.Proofs.Ytnokgkhkmnldeaa.P Go.Proofs.YtnokgkhkmnldeaaW.PrintWords Go.Proofs.YtnokgkhkmnldeaaW.PrintLast
def addsV (op i : Int) : Int := if op = 5 ∧ i = 1 then 2 else if (op = 8 ∧ i > 0) ∨ op = 9 ∨ (op = 12 ∧ i = 1) then 1 else 0
theorem adds_le (op i : Int) : 0 ≤ addsV op i ∧ addsV op i ≤ 2 := by unfold addsV; repeat' split <;> omega
theorem specAdds (k : Nat) (op i : Int) : spec_l2Adds.f (k + 1) op i = some (addsV op i) := by
  unfold spec_l2Adds.f addsV
  simp only [spec_l2Adds.j0]
  by_cases c5 : op = 5
  · subst c5
    by_cases c : i = 1
    · simp [c]
    · simp [c]
  · by_cases c8 : op = 8
    · subst c8
      by_cases c : i > 0 <;> simp [c]
    · by_cases c9 : op = 9
      · simp [c9]
      · by_cases c12 : op = 12
        · subst c12
          by_cases c : i = 1 <;> simp [c]
        · simp [c5, c8, c9, c12]
theorem implAdds (k : Nat) (op i : Int) : impl_adds.f (k + 2) op i = some (addsV op i) := by
  unfold impl_adds.f addsV
  simp only [impl_adds.j0, impl_adds.j1]
  by_cases c5 : op = 5
  · subst c5
    by_cases c : i = 1
    · simp [c]
    · simp [c]
  · by_cases c8 : op = 8
    · subst c8
      by_cases c : i > 0 <;> simp [c]
    · by_cases c9 : op = 9
      · simp [c9]
      · by_cases c12 : op = 12
        · subst c12
          by_cases c : i = 1 <;> simp [c]
        · simp [c5, c8, c9, c12]
def manyV (op : Int) : Int := if op = 2 ∨ op = 4 ∨ op = 5 ∨ op = 10 ∨ op = 12 then 2 else if op = 3 ∨ op = 8 then 3 else if op = 6 ∨ op = 7 ∨ op = 9 ∨ op = 11 then 1 else if op = 0 ∨ op = 1 then 0 else -1
def hasV (op : Int) : Bool := decide (op = 5 ∨ op = 8 ∨ op = 9 ∨ op = 11 ∨ op = 12)
def typedV (op : Int) : Bool := decide (op = 6 ∨ op = 7 ∨ op = 9)
theorem ops_cases {op : Int} (h : 0 ≤ op ∧ op ≤ 12) : op = 0 ∨ op = 1 ∨ op = 2 ∨ op = 3 ∨ op = 4 ∨ op = 5 ∨ op = 6 ∨ op = 7 ∨ op = 8 ∨ op = 9 ∨ op = 10 ∨ op = 11 ∨ op = 12 := by omega
theorem specMany (op : Int) : spec_l2Many.f op = some (manyV op) := by
  unfold spec_l2Many.f
  rw [in_eq, Option.bind_some]
  by_cases c : 0 ≤ op ∧ op ≤ 12
  · rw [(inV_iff _ _ _).mpr c]
    rcases ops_cases c with h | h | h | h | h | h | h | h | h | h | h | h | h <;> subst h <;> decide
  · have e : inV op 0 12 = false := by rw [Bool.eq_false_iff]; exact fun hh => c ((inV_iff _ _ _).mp hh)
    rw [e, if_neg (by decide)]
    unfold manyV
    rw [if_neg (by omega), if_neg (by omega), if_neg (by omega), if_neg (by omega)]
theorem specHas (op : Int) : spec_l2Has.f op = some (hasV op) := by
  unfold spec_l2Has.f hasV
  by_cases c5 : op = 5
  · simp [c5]
  · by_cases c8 : op = 8
    · simp [c8]
    · by_cases c9 : op = 9
      · simp [c9]
      · by_cases c11 : op = 11
        · simp [c11]
        · by_cases c12 : op = 12
          · simp [c12]
          · simp [c5, c8, c9, c11, c12]
theorem specTyped (op : Int) : spec_l2Typed.f op = some (typedV op) := by
  unfold spec_l2Typed.f typedV
  by_cases c6 : op = 6
  · simp [c6]
  · by_cases c7 : op = 7
    · simp [c7]
    · by_cases c9 : op = 9
      · simp [c9]
      · simp [c6, c7, c9]
theorem implForm (op : Int) : ∃ s, impl_formOf.f op = some (s, if 0 ≤ op ∧ op ≤ 12 then manyV op else 0, hasV op, typedV op, decide (0 ≤ op ∧ op ≤ 12)) := by
  unfold impl_formOf.f
  rw [within_eq, Option.bind_some]
  by_cases c : 0 ≤ op ∧ op ≤ 12
  · rw [(inV_iff _ _ _).mpr c]
    rcases ops_cases c with h | h | h | h | h | h | h | h | h | h | h | h | h <;> subst h <;> exact ⟨_, rfl⟩
  · have e : inV op 0 12 = false := by rw [Bool.eq_false_iff]; exact fun hh => c ((inV_iff _ _ _).mp hh)
    refine ⟨⟨#[]⟩, ?_⟩
    rw [e, if_neg (by decide), if_neg c, decide_eq_false c]
    have h1 : hasV op = false := by unfold hasV; exact decide_eq_false (by omega)
    have h2 : typedV op = false := by unfold typedV; exact decide_eq_false (by omega)
    rw [h1, h2]
/-- How many nodes a term has. -/
def nodes (x : S48) : Nat := 1 + (x.f3.attach.map fun y => nodes y.1).sum
termination_by SizeOf.sizeOf x
decreasing_by exact kid_ltI y.2
theorem nodes_eq (x : S48) : nodes x = 1 + (x.f3.map nodes).sum := by
  rw [nodes, List.attach_map_val (f := nodes)]
def leftV (a n : Int) : Int := if n ≤ a then a - n else -1
theorem specLeft (x : S48) (hs : Small x) : ∀ a : Int, 0 ≤ a → a ≤ 1048576 → Ev (fun k => spec_l2Left.f k x.f0 x.f1 x.f2 x.f3 a) (leftV a (nodes x)) := by
  revert hs
  refine indI (P := fun x => Small x → ∀ a : Int, 0 ≤ a → a ≤ 1048576 → Ev (fun k => spec_l2Left.f k x.f0 x.f1 x.f2 x.f3 a) (leftV a (nodes x))) ?_ (SizeOf.sizeOf x + 1) x (by omega)
  clear x
  intro x ih hs a ha hb
  obtain ⟨s2, s3, sk⟩ := hs.out
  have stop : ∀ (i : Int) (acc : Int), acc < 0 → Ev (fun k => spec_l2Left.l0 k acc i x.f0 x.f1 x.f2 x.f3) acc := fun i acc h => by
    refine Ev.step (f := fun _ => some acc) (fun k => ?_) (Ev.now _)
    simp only [spec_l2Left.l0]
    by_cases c : i < (x.f3.length : Int)
    · rw [if_pos c, if_neg (by omega)]
    · rw [if_neg c]
  have lp : ∀ (m i : Nat) (acc : Int), i + m = x.f3.length → 0 ≤ acc → acc ≤ 1048576 → Ev (fun k => spec_l2Left.l0 k acc (i : Int) x.f0 x.f1 x.f2 x.f3) (leftV acc ((x.f3.drop i).map nodes).sum) := by
    intro m
    induction m with
    | zero =>
      intro i acc hi h0 h1
      rw [List.drop_eq_nil_of_le (by omega)]
      refine Ev.step (f := fun _ => some acc) (fun k => ?_) (by simpa [leftV, h0] using Ev.now acc)
      simp only [spec_l2Left.l0]; rw [if_neg (by omega)]
    | succ m ihm =>
      intro i acc hi h0 h1
      have hmem : x.f3[i] ∈ x.f3 := List.getElem_mem _
      have h2 := ih _ hmem (sk _ hmem) acc h0 h1
      rw [List.drop_eq_getElem_cons (show i < x.f3.length by omega), List.map_cons, List.sum_cons]
      refine Ev.step (f := fun k => (spec_l2Left.f k x.f3[i].f0 x.f3[i].f1 x.f3[i].f2 x.f3[i].f3 acc).bind fun t => spec_l2Left.l0 k t ((i + 1 : Nat) : Int) x.f0 x.f1 x.f2 x.f3) (fun k => ?_) (Ev.bind h2 ?_)
      · simp only [spec_l2Left.l0, rdI_get (show i < x.f3.length by omega)]
        rw [if_pos (by omega), if_pos h0, if_pos (by omega), w64 (x := (i : Int) + 1) (by omega) (by omega)]; rfl
      · unfold leftV
        by_cases c : (nodes x.f3[i] : Int) ≤ acc
        · rw [if_pos c]
          have := ihm (i + 1) (acc - nodes x.f3[i]) (by omega) (by omega) (by omega)
          unfold leftV at this
          by_cases c2 : (((x.f3.drop (i + 1)).map nodes).sum : Int) ≤ acc - nodes x.f3[i]
          · rw [if_pos c2] at this
            rw [if_pos (by omega)]
            rw [show acc - ((nodes x.f3[i] + ((x.f3.drop (i + 1)).map nodes).sum : Nat) : Int) = acc - nodes x.f3[i] - ((x.f3.drop (i + 1)).map nodes).sum by omega]
            exact this
          · rw [if_neg c2] at this
            rw [if_neg (by omega)]
            exact this
        · rw [if_neg c, if_neg (by omega)]
          exact stop _ _ (by omega)
  rw [nodes_eq]
  refine Ev.step (f := fun k => spec_l2Left.l0 k (a - 1) 0 x.f0 x.f1 x.f2 x.f3) (fun k => ?_) ?_
  · simp only [spec_l2Left.f]; rw [w64 (x := a - 1) (by omega) (by omega)]
  · by_cases c : a - 1 < 0
    · have : leftV a ((1 + (x.f3.map nodes).sum : Nat) : Int) = a - 1 := by
        unfold leftV
        by_cases c2 : ((1 + (x.f3.map nodes).sum : Nat) : Int) ≤ a
        · omega
        · rw [if_neg c2]; omega
      rw [this]
      exact stop _ _ c
    · have := lp x.f3.length 0 (a - 1) (by omega) (by omega) (by omega)
      rw [List.drop_zero] at this
      unfold leftV at this ⊢
      by_cases c2 : ((x.f3.map nodes).sum : Int) ≤ a - 1
      · rw [if_pos c2] at this
        rw [if_pos (by omega), show a - ((1 + (x.f3.map nodes).sum : Nat) : Int) = a - 1 - (x.f3.map nodes).sum by omega]
        exact this
      · rw [if_neg c2] at this
        rw [if_neg (by omega)]
        exact this
end Go.Proofs.Ytnokgkhkmnldeaa.Pure
