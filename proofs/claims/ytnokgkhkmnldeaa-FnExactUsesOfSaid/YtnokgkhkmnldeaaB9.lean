/- Terms: the reference's and the program's walks over a term tell the same. -/
import Derived.Test.YtnokgkhkmnldeaaB8
set_option linter.unusedSimpArgs false
set_option linter.unusedVariables false
namespace Go.Proofs.Ytnokgkhkmnldeaa.Pure
open Go.RowKit Go.Proofs.Ytnokgkhkmnldeaa.P Go.Proofs.YtnokgkhkmnldeaaW.PrintWords Go.Proofs.YtnokgkhkmnldeaaW.PrintLast
def Ev2 {α : Type} (g : Nat → Nat → Option α) (r : α) : Prop := ∃ K, ∀ k, K ≤ k → ∀ j, K ≤ j → g k j = some r
theorem ev2_now {α : Type} (r : α) : Ev2 (fun _ _ => some r) r := ⟨0, fun _ _ _ _ => rfl⟩
theorem ev2_step {α : Type} {g h : Nat → Nat → Option α} {r : α} (H : ∀ k j, g (k + 1) j = h k j) (e : Ev2 h r) : Ev2 g r := by
  obtain ⟨K, e⟩ := e
  refine ⟨K + 1, fun k hk j hj => ?_⟩
  obtain ⟨m, rfl⟩ : ∃ m, k = m + 1 := ⟨k - 1, by omega⟩
  rw [H]; exact e m (by omega) j (by omega)
theorem ev2_bind {α β : Type} {g : Nat → Nat → Option α} {f : Nat → Nat → α → Option β} {a : α} {r : β} (h : Ev2 g a) (e : Ev2 (fun k j => f k j a) r) : Ev2 (fun k j => (g k j).bind (f k j)) r := by
  obtain ⟨K, h⟩ := h
  obtain ⟨K', e⟩ := e
  refine ⟨max K K', fun k hk j hj => ?_⟩
  have h1 := h k (by omega) j (by omega)
  have h2 := e k (by omega) j (by omega)
  simp only [h1, Option.bind_some]
  exact h2
theorem ev2_congr {α : Type} {g f : Nat → Nat → Option α} {r : α} (h : ∀ k j, g k j = f k j) (e : Ev2 f r) : Ev2 g r := by
  obtain ⟨K, e⟩ := e
  exact ⟨K, fun k hk j hj => (h k j).trans (e k hk j hj)⟩
theorem ev2_right {α : Type} {g : Nat → Option α} {r : α} (h : Ev g r) : Ev2 (fun _ j => g j) r := by
  obtain ⟨K, h⟩ := h
  exact ⟨K, fun _ _ j hj => h j hj⟩
theorem ev2_diag {α : Type} {g : Nat → Nat → Option α} {r : α} (h : Ev2 g r) : Ev (fun k => g k k) r := by
  obtain ⟨K, h⟩ := h
  exact ⟨K, fun k hk => h k hk k hk⟩
/-- What a node must be: g of its number where it bears a grade, T of its type where it bears one. -/
def gradeV (g : Int → Bool) (x : S48) (d : Int) : Bool :=
  if x.f0 = 0 then inV x.f1 0 (wrap64 (d - 1)) else if x.f0 = 1 then inV x.f1 0 2 else if hasV x.f0 = true then g x.f1 else decide (x.f1 = 0)
def typeOf (T : List Int → Bool) (x : S48) : Bool := if typedV x.f0 = true then T x.f2 else decide ((x.f2.length : Int) = 0)
def nodeV (g : Int → Bool) (T : List Int → Bool) (x : S48) (d : Int) : Bool := decide ((x.f3.length : Int) = manyV x.f0) && (gradeV g x d && typeOf T x)
section
variable {g : Int → Bool} {T : List Int → Bool} {n : Int} {strict : Bool}
theorem specNode (hg : ∀ N : Int, (if N ≥ n then false else if N < -1 then false else if strict = true then (if N < 0 then false else true) else true) = g N)
    (hT : ∀ ty : List Int, ty.length ≤ 1048576 → Ev (fun k => (spec_l2Type.f k ty).bind fun t => if t = true then (spec_l2Graded.f k ty n strict).bind (fun u => some u) else some false) (T ty))
    (x : S48) (hs : Small x) (d : Int) : Ev (fun k => spec_l2Node.f k x.f0 x.f1 x.f2 x.f3 d n strict) (nodeV g T x d) := by
  have tail : Ev (fun k => spec_l2Node.j0 k n strict x.f0 x.f1 x.f2 x.f3) (typeOf T x) := by
    refine Ev.step (f := fun k => if typedV x.f0 = true then (spec_l2Type.f k x.f2).bind (fun t => if t = true then (spec_l2Graded.f k x.f2 n strict).bind (fun u => some u) else some false) else some (decide ((x.f2.length : Int) = 0))) (fun k => ?_) ?_
    · simp only [spec_l2Node.j0, specTyped, Option.bind_some]; rfl
    · unfold typeOf
      cases typedV x.f0
      · simpa using Ev.now (decide ((x.f2.length : Int) = 0))
      · simpa using hT x.f2 hs.out.1
  unfold spec_l2Node.f nodeV gradeV
  simp only [specMany, specHas, in_eq, Option.bind_some]
  by_cases c : (x.f3.length : Int) = manyV x.f0
  · simp only [if_pos c, decide_eq_true c, Bool.true_and]
    by_cases c0 : x.f0 = 0
    · simp only [if_pos c0]
      cases inV x.f1 0 (wrap64 (d - 1))
      · simpa using Ev.now false
      · simpa using tail
    · simp only [if_neg c0]
      by_cases c1 : x.f0 = 1
      · simp only [if_pos c1]
        cases inV x.f1 0 2
        · simpa using Ev.now false
        · simpa using tail
      · simp only [if_neg c1]
        cases hasV x.f0
        · simp only [Bool.false_eq_true, if_false]
          by_cases cz : x.f1 = 0
          · simp only [if_pos cz, decide_eq_true cz, Bool.true_and]; exact tail
          · simp only [if_neg cz, decide_eq_false cz, Bool.false_and]; exact Ev.now _
        · simp only [if_true]
          rw [← hg x.f1]
          by_cases d1 : x.f1 ≥ n
          · simp only [if_pos d1, Bool.false_and]; exact Ev.now _
          · simp only [if_neg d1]
            by_cases d2 : x.f1 < -1
            · simp only [if_pos d2, Bool.false_and]; exact Ev.now _
            · simp only [if_neg d2]
              cases strict
              · simpa using tail
              · simp only [if_true]
                by_cases d3 : x.f1 < 0
                · simp only [if_pos d3, Bool.false_and]; exact Ev.now _
                · simp only [if_neg d3, Bool.true_and]; exact tail
  · simp only [if_neg c, decide_eq_false c, Bool.false_and]
    exact Ev.now _
/-- What is known of a term that passed. -/
inductive Fine : S48 → Int → Prop
  | mk (x : S48) (d : Int) : (x.f0 = 0 → inV x.f1 0 (wrap64 (d - 1)) = true) → ((x.f3.length : Int) = manyV x.f0) → (∀ (q : Nat) (h : q < x.f3.length), Fine (x.f3[q]) (wrap64 (d + addsV x.f0 q))) → Fine x d
/-- What the program's walk tells: the count, or 401. -/
def outV (v : Bool) (s m : Int) : Int := if v = true ∧ s + m ≤ 400 then s + m else 401
theorem termBoth {x2 : Int → Option Bool} {x3 : Nat → List Int → Option Bool}
    (hg : ∀ N : Int, (if N ≥ n then false else if N < -1 then false else if strict = true then (if N < 0 then false else true) else true) = g N)
    (hT : ∀ ty : List Int, ty.length ≤ 1048576 → Ev (fun k => (spec_l2Type.f k ty).bind fun t => if t = true then (spec_l2Graded.f k ty n strict).bind (fun u => some u) else some false) (T ty))
    (h2 : ∀ N, x2 N = some (g N)) (h3 : ∀ ty : List Int, ty.length ≤ 1048576 → Ev (fun k => x3 k ty) (T ty)) (x : S48) (hs : Small x) :
    ∀ d : Int, ∃ v : Bool, (v = true → Fine x d) ∧ Ev (fun k => spec_l2Term.f k x.f0 x.f1 x.f2 x.f3 d n strict) v ∧ ∀ s : Int, 0 ≤ s → s ≤ 400 → Ev2 (fun k j => impl_check.f k x.f0 x.f1 x.f2 x.f3 d x2 (x3 j) s) (outV v s (nodes x)) := by
  revert hs
  refine indI (P := fun x => Small x → ∀ d : Int, ∃ v : Bool, (v = true → Fine x d) ∧ Ev (fun k => spec_l2Term.f k x.f0 x.f1 x.f2 x.f3 d n strict) v ∧ ∀ s : Int, 0 ≤ s → s ≤ 400 → Ev2 (fun k j => impl_check.f k x.f0 x.f1 x.f2 x.f3 d x2 (x3 j) s) (outV v s (nodes x))) ?_ (SizeOf.sizeOf x + 1) x (by omega)
  clear x
  intro x ih hs d
  obtain ⟨s2, s3, sk⟩ := hs.out
  have hn := specNode hg hT x hs d
  have lp : ∀ (m i : Nat), i + m = x.f3.length → ∃ v : Bool, (v = true → ∀ (q : Nat) (h : q < x.f3.length), i ≤ q → Fine (x.f3[q]) (wrap64 (d + addsV x.f0 q))) ∧ Ev (fun k => spec_l2Term.l0 k d n strict (i : Int) x.f0 x.f1 x.f2 x.f3) v ∧ ∀ s : Int, 0 ≤ s → s ≤ 400 → Ev2 (fun k j => impl_check.l0 k d x2 (x3 j) s x.f3 (x.f3.length : Int) (i : Int) x.f0 x.f1 x.f2 x.f3) (outV v s ((x.f3.drop i).map nodes).sum) := by
    intro m
    induction m with
    | zero =>
      intro i hi
      refine ⟨true, fun _ q h hq => absurd h (by omega), Ev.step (f := fun _ => some true) (fun k => ?_) (Ev.now _), fun s h0 h1 => ?_⟩
      · simp only [spec_l2Term.l0]; rw [if_neg (by omega)]
      · rw [List.drop_eq_nil_of_le (by omega)]
        refine ev2_step (h := fun _ _ => some s) (fun k j => ?_) (by simpa [outV, h1] using ev2_now s)
        simp only [impl_check.l0]; rw [if_neg (by omega)]
    | succ m ihm =>
      intro i hi
      have hmem : x.f3[i] ∈ x.f3 := List.getElem_mem _
      obtain ⟨v, hv0, hv1, hv2⟩ := ih _ hmem (sk _ hmem) (wrap64 (d + addsV x.f0 i))
      obtain ⟨u, hu0, hu1, hu2⟩ := ihm (i + 1) (by omega)
      have i1 : (i : Int) < (x.f3.length : Int) := by omega
      have up : wrap64 ((i : Int) + 1) = ((i + 1 : Nat) : Int) := by rw [w64 (by omega) (by omega)]; omega
      refine ⟨v && u, fun hvu q h hq => ?_, ?_, fun s h0 h1 => ?_⟩
      · rw [Bool.and_eq_true] at hvu
        by_cases e : q = i
        · subst e; exact hv0 hvu.1
        · exact hu0 hvu.2 q h (by omega)
      · obtain ⟨K, hK⟩ := Ev.bind (f := fun k t => if t = true then spec_l2Term.l0 k d n strict ((i + 1 : Nat) : Int) x.f0 x.f1 x.f2 x.f3 else some false) (r := v && u) hv1 (by
          cases v
          · simpa using Ev.now false
          · simpa using hu1)
        refine ⟨K + 2, fun k hk => ?_⟩
        obtain ⟨k, rfl⟩ : ∃ q, k = q + 2 := ⟨k - 2, by omega⟩
        have := hK (k + 1) (by omega)
        show spec_l2Term.l0 (k + 1 + 1) d n strict (i : Int) x.f0 x.f1 x.f2 x.f3 = _
        simp only [spec_l2Term.l0, rdI_get (show i < x.f3.length by omega)]
        rw [if_pos i1, if_pos (by omega), specAdds, Option.bind_some, up]
        exact this
      · obtain ⟨K, hK⟩ := ev2_bind (f := fun k j t => if t > 400 then some 401 else impl_check.l0 k d x2 (x3 j) t x.f3 (x.f3.length : Int) ((i + 1 : Nat) : Int) x.f0 x.f1 x.f2 x.f3) (r := outV (v && u) s ((x.f3.drop i).map nodes).sum) (hv2 s h0 h1) (by
          rw [List.drop_eq_getElem_cons (show i < x.f3.length by omega), List.map_cons, List.sum_cons]
          unfold outV
          by_cases c : v = true ∧ s + (nodes x.f3[i] : Int) ≤ 400
          · simp only [if_pos c, if_neg (show ¬ s + (nodes x.f3[i] : Int) > 400 by omega)]
            have := hu2 (s + nodes x.f3[i]) (by omega) c.2
            unfold outV at this
            by_cases c2 : u = true ∧ s + (nodes x.f3[i] : Int) + (((x.f3.drop (i + 1)).map nodes).sum : Int) ≤ 400
            · rw [if_pos c2] at this
              rw [if_pos ⟨by simp [c.1, c2.1], by omega⟩, show s + ((nodes x.f3[i] + ((x.f3.drop (i + 1)).map nodes).sum : Nat) : Int) = s + nodes x.f3[i] + ((x.f3.drop (i + 1)).map nodes).sum by omega]
              exact this
            · rw [if_neg c2] at this
              rw [if_neg (fun hh => c2 ⟨by have := hh.1; simp at this; exact this.2, by omega⟩)]
              exact this
          · simp only [if_neg c]
            rw [if_neg (fun hh => c ⟨by have := hh.1; simp at this; exact this.1, by omega⟩)]
            simpa using ev2_now (401 : Int))
        refine ⟨K + 4, fun k hk j hj => ?_⟩
        obtain ⟨k, rfl⟩ : ∃ q, k = q + 4 := ⟨k - 4, by omega⟩
        have := hK (k + 3) (by omega) j (by omega)
        show impl_check.l0 (k + 3 + 1) d x2 (x3 j) s x.f3 (x.f3.length : Int) (i : Int) x.f0 x.f1 x.f2 x.f3 = _
        simp only [impl_check.l0, rdI_get (show i < x.f3.length by omega)]
        rw [if_pos i1, if_pos (by omega), if_pos i1, show k + 3 = (k + 1) + 2 by omega, implAdds, Option.bind_some, up]
        exact this
  obtain ⟨u, hu0, hu1, hu2⟩ := lp x.f3.length 0 (by omega)
  refine ⟨nodeV g T x d && u, fun hv => ?_, ?_, fun s h0 h1 => ?_⟩
  · rw [Bool.and_eq_true] at hv
    have hn := hv.1
    unfold nodeV at hn
    rw [Bool.and_eq_true, Bool.and_eq_true, decide_eq_true_eq] at hn
    refine .mk x d (fun h0 => ?_) hn.1 fun q h => hu0 hv.2 q h (by omega)
    have := hn.2.1
    unfold gradeV at this
    rwa [if_pos h0] at this
  · refine Ev.step (fun k => by simp only [spec_l2Term.f]; rfl) (Ev.bind hn ?_)
    cases nodeV g T x d
    · simpa using Ev.now false
    · simpa using hu1
  · obtain ⟨nm, hf⟩ := implForm x.f0
    rw [nodes_eq]
    have s1 : wrap64 (s + 1) = s + 1 := w64 (by omega) (by omega)
    have bad : ∀ mm hh ty, Ev2 (fun k j => impl_check.j0 k d x2 (x3 j) (s + 1) true x.f0 x.f1 x.f2 x.f3 nm mm hh ty) 401 := fun mm hh ty =>
      ev2_step (h := fun _ _ => some 401) (fun k j => by simp only [impl_check.j0, if_true]) (ev2_now _)
    by_cases hfound : 0 ≤ x.f0 ∧ x.f0 ≤ 12
    · rw [if_pos hfound, decide_eq_true hfound] at hf
      by_cases hbig : s + 1 > 400
      · have e : outV (nodeV g T x d && u) s ((1 + (x.f3.map nodes).sum : Nat) : Int) = 401 := by unfold outV; rw [if_neg (by omega)]
        rw [e]
        exact ev2_step (fun k j => by simp only [impl_check.f, hf, Option.bind_some, if_true, s1, if_pos hbig]) (bad (manyV x.f0) (hasV x.f0) (typedV x.f0))
      · by_cases hlen : (x.f3.length : Int) = manyV x.f0
        · have e : outV (nodeV g T x d && u) s ((1 + (x.f3.map nodes).sum : Nat) : Int) = if (gradeV g x d && typeOf T x) = true then outV u (s + 1) ((x.f3.map nodes).sum : Nat) else 401 := by
            unfold nodeV
            rw [decide_eq_true hlen, Bool.true_and]
            unfold outV
            cases (gradeV g x d && typeOf T x)
            · simp
            · simp only [Bool.true_and, if_true]
              by_cases c : u = true ∧ s + 1 + (((x.f3.map nodes).sum : Nat) : Int) ≤ 400
              · rw [if_pos c, if_pos ⟨c.1, by omega⟩]; omega
              · rw [if_neg c, if_neg (fun hh => c ⟨hh.1, by omega⟩)]
          have main := hu2 (s + 1) (by omega) (by omega)
          rw [List.drop_zero] at main
          have j2 : ∀ b : Bool, Ev2 (fun k j => impl_check.j2 k d x2 (x3 j) (s + 1) b x.f0 x.f1 x.f2 x.f3) (if b = true then outV u (s + 1) ((x.f3.map nodes).sum : Nat) else 401) := fun b => by
            cases b
            · exact ev2_step (h := fun _ _ => some 401) (fun k j => by simp only [impl_check.j2, Bool.false_eq_true, if_false]) (ev2_now _)
            · exact ev2_step (fun k j => by simp only [impl_check.j2, if_true]; rfl) main
          have j1 : ∀ b : Bool, Ev2 (fun k j => impl_check.j1 k d x2 (x3 j) (s + 1) b x.f0 x.f1 x.f2 x.f3 nm (manyV x.f0) (hasV x.f0) (typedV x.f0)) (if (b && typeOf T x) = true then outV u (s + 1) ((x.f3.map nodes).sum : Nat) else 401) := fun b => by
            unfold typeOf
            cases ht : typedV x.f0
            · cases b
              · exact ev2_step (fun k j => by simp only [impl_check.j1, Bool.false_eq_true, if_false]) (j2 false)
              · refine ev2_step (h := fun k j => impl_check.j2 k d x2 (x3 j) (s + 1) (decide ((x.f2.length : Int) = 0)) x.f0 x.f1 x.f2 x.f3) (fun k j => ?_) (by simpa using j2 (decide ((x.f2.length : Int) = 0)))
                simp only [impl_check.j1, Bool.false_eq_true, if_false, if_true]
                by_cases c : (x.f2.length : Int) = 0
                · rw [decide_eq_true c, c]; rfl
                · rw [decide_eq_false c, beq_eq_false_iff_ne.mpr c]
            · cases b
              · exact ev2_step (fun k j => by simp only [impl_check.j1, Bool.false_eq_true, if_false, if_true]) (j2 false)
              · refine ev2_step (h := fun k j => (x3 j x.f2).bind fun t => impl_check.j2 k d x2 (x3 j) (s + 1) t x.f0 x.f1 x.f2 x.f3) (fun k j => by simp only [impl_check.j1, if_true]) (ev2_bind (ev2_right (h3 x.f2 s2)) ?_)
                simpa using j2 (T x.f2)
          rw [e]
          have ebne : ((x.f3.length : Int) != manyV x.f0) = false := bne_eq_false_iff_eq.mpr hlen
          refine ev2_step (h := fun k j => impl_check.j0 k d x2 (x3 j) (s + 1) false x.f0 x.f1 x.f2 x.f3 nm (manyV x.f0) (hasV x.f0) (typedV x.f0)) (fun k j => by simp only [impl_check.f, hf, Option.bind_some, if_true, s1, if_neg hbig, ebne]) ?_
          refine ev2_step (h := fun k j => impl_check.j1 k d x2 (x3 j) (s + 1) (gradeV g x d) x.f0 x.f1 x.f2 x.f3 nm (manyV x.f0) (hasV x.f0) (typedV x.f0)) (fun k j => ?_) (j1 _)
          unfold gradeV
          simp only [impl_check.j0, Bool.false_eq_true, if_false, within_eq, Option.bind_some, h2]
          by_cases c0 : x.f0 = 0
          · simp only [if_pos c0]
          · simp only [if_neg c0]
            by_cases c1 : x.f0 = 1
            · simp only [if_pos c1]
            · simp only [if_neg c1]
              cases hasV x.f0
              · simp only [Bool.false_eq_true, if_false]
                by_cases cz : x.f1 = 0
                · rw [decide_eq_true cz, cz]; rfl
                · rw [decide_eq_false cz, beq_eq_false_iff_ne.mpr cz]
              · simp only [if_true]
        · have e : outV (nodeV g T x d && u) s ((1 + (x.f3.map nodes).sum : Nat) : Int) = 401 := by unfold outV nodeV; rw [decide_eq_false hlen]; simp
          rw [e]
          have ebne : ((x.f3.length : Int) != manyV x.f0) = true := bne_iff_ne.mpr hlen
          exact ev2_step (fun k j => by simp only [impl_check.f, hf, Option.bind_some, if_true, s1, if_neg hbig, ebne]) (bad (manyV x.f0) (hasV x.f0) (typedV x.f0))
    · rw [if_neg hfound, decide_eq_false hfound] at hf
      have hm : manyV x.f0 = -1 := by unfold manyV; rw [if_neg (by omega), if_neg (by omega), if_neg (by omega), if_neg (by omega)]
      have e : outV (nodeV g T x d && u) s ((1 + (x.f3.map nodes).sum : Nat) : Int) = 401 := by unfold outV nodeV; rw [hm, decide_eq_false (by omega)]; simp
      rw [e]
      exact ev2_step (fun k j => by simp only [impl_check.f, hf, Option.bind_some, Bool.false_eq_true, if_false, s1]) (bad 0 (hasV x.f0) (typedV x.f0))
end
end Go.Proofs.Ytnokgkhkmnldeaa.Pure
