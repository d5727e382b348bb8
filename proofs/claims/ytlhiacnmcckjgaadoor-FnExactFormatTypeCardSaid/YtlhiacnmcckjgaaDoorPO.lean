/- How what a law is handed reads as a value of the printed kinds: whole numbers, bools, strings, slices, structs. -/
import Derived.Test.YtlhiacnmcckjgaaDoorP0
import Derived.ProofKit
import Derived.ChangeArms
import Derived.Deep.Slices
import Derived.Lib.SmallJoins
namespace Go.Proofs.YtlhiacnmcckjgaaDoor.P
open Go.RowKit Go.Proofs.YtlhiacnmcckjgaaDoorW.PrintWords Go.Proofs.YtlhiacnmcckjgaaDoorW.PrintLast Go.Proofs.YtlhiacnmcckjgaaDoorW.PrintMore

/-- What reads as data of type t holds a value of the kind d. -/
def Opens {α : Type} (t : TypeId) (d : Kd α) (wf : α → Prop) : Prop :=
  ∀ (H : Type) (enc : TypeId × Value → H) (w : World) (fuel : Nat) (cs : List Value) (x : DataW H × List MemPlace),
    DataW.trod enc Tryd.prog w 0 (fun _ => true) true fuel t cs = some x → ∃ y : α, d.K w y cs ∧ wf y

theorem opens_int {t : TypeId} {k : IntKind} (hu : Tryd.prog.underlying t = some (.int k)) : Opens t (Kd.int k) (fun n => (Lit.int k n).wf = true) := by
  intro H enc w fuel cs x h
  obtain ⟨n, rfl, _, hw⟩ := DataW.trod_int hu h
  exact ⟨n, rfl, hw⟩
theorem opens_bool {t : TypeId} (hu : Tryd.prog.underlying t = some .bool) : Opens t Kd.bool (fun _ => True) := by
  intro H enc w fuel cs x h
  obtain ⟨n, rfl, _⟩ := DataW.trod_bool hu h
  exact ⟨n, rfl, trivial⟩
theorem opens_string {t : TypeId} (hu : Tryd.prog.underlying t = some .string) : Opens t Kd.string (fun s => s.size ≤ maxLen) := by
  intro H enc w fuel cs x h
  obtain ⟨n, rfl, _, hw⟩ := DataW.trod_string hu h
  exact ⟨n, rfl, hw⟩

theorem list_of {α : Type} (n : Nat) {p : Nat → α → Prop} (h : ∀ i, i < n → ∃ a, p i a) : ∃ l : List α, l.length = n ∧ ∀ i a, l[i]? = some a → p i a := by
  induction n with
  | zero => exact ⟨[], rfl, fun i a h => by simp at h⟩
  | succ n ih =>
    obtain ⟨l, hl, hp⟩ := ih (fun i hi => h i (by omega))
    obtain ⟨a, ha⟩ := h n (by omega)
    refine ⟨l ++ [a], by simp [hl], fun i b hb => ?_⟩
    rcases Nat.lt_or_ge i l.length with hi | hi
    · rw [List.getElem?_append_left hi] at hb
      exact hp i b hb
    · rw [List.getElem?_append_right hi] at hb
      have hi2 : i - l.length = 0 := by
        have := (List.getElem?_eq_some_iff.1 hb).1
        simp at this
        omega
      rw [hi2] at hb
      simp at hb
      subst hb
      rw [show i = n by omega]
      exact ha

/-- A slice's elements, each read with less fuel. -/
theorem slice_opens {α : Type} {t e : TypeId} {d : Kd α} {wf : α → Prop} (hu : Tryd.prog.underlying t = some (.slice e)) (hc : Tryd.prog.cellsOf e = d.sz) {H : Type} {enc : TypeId × Value → H} {w : World} {fuel : Nat} {cs : List Value} {x : DataW H × List MemPlace}
    (h : DataW.trod enc Tryd.prog w 0 (fun _ => true) true fuel t cs = some x)
    (he : ∀ n cs y, n < fuel → DataW.trod enc Tryd.prog w 0 (fun _ => true) true n e cs = some y → ∃ z : α, d.K w z cs ∧ wf z) :
    ∃ l : List α, (Kd.slice e d).K w l cs ∧ (∀ z ∈ l, wf z) ∧ l.length ≤ maxLen := by
  rcases DataW.trod_slice hu h with ⟨rfl, _⟩ | ⟨a, len, cap, elems, rest, n, rfl, rfl, _, _, hl, hm, hlen, hel, _⟩
  · exact ⟨[], ⟨none, 0, rfl, Nat.le_refl _, by exact Kd.C_nil _ _⟩, by simp, by simp⟩
  · obtain ⟨l, hll, hp⟩ := list_of (α := α) len (p := fun i z => wf z ∧ ∃ c, c.length = d.sz ∧ d.K w z c ∧ ∀ j u, c[j]? = some u → w.cell? (a.add (i * d.sz + j)) = some u) (fun i hi => by
      have h1 := hel i hi
      rw [List.getElem?_eq_getElem (by omega)] at h1
      obtain ⟨c, hc1, hc2⟩ := Option.bind_eq_some_iff.1 h1
      obtain ⟨z, hz, hwz⟩ := he n c _ (by omega) hc2
      obtain ⟨_, hlc, hcell⟩ := World.cells?_some hc1
      rw [hc] at hlc hcell
      refine ⟨z, hwz, c, hlc, hz, fun j u hu2 => ?_⟩
      have hj : j < d.sz := by have := (List.getElem?_eq_some_iff.1 hu2).1; omega
      have h2 := hcell j hj
      rw [hu2, Addr.add_add] at h2
      exact h2)
    refine ⟨l, ⟨some a, cap, by rw [hll], by omega, ?_⟩, fun z hz => ?_, by omega⟩
    · refine ⟨rfl, by rw [hll]; unfold maxLen at hm; omega, fun _ => ⟨a, rfl, fun j p hj => (hp j p hj).2⟩⟩
    · obtain ⟨i, hi⟩ := List.getElem?_of_mem hz
      exact (hp i z hi).1
theorem opens_slice {α : Type} {t e : TypeId} {d : Kd α} {wf : α → Prop} (hu : Tryd.prog.underlying t = some (.slice e)) (hc : Tryd.prog.cellsOf e = d.sz) (he : Opens e d wf) :
    Opens t (Kd.slice e d) (fun l => (∀ z ∈ l, wf z) ∧ l.length ≤ maxLen) :=
  fun H enc w _ _ _ h => slice_opens hu hc h (fun n cs y _ hy => he H enc w n cs y hy)
theorem struct1_parts {t : TypeId} {f0 : Field} {H : Type} {enc : TypeId × Value → H} {w : World} {fuel : Nat} {cs : List Value} {x : DataW H × List MemPlace} (ht : Tryd.prog.underlying t = some (.struct #[f0])) (h : DataW.trod enc Tryd.prog w 0 (fun _ => true) true fuel t cs = some x) :
    ∃ y0 n, n < fuel ∧ cs.length = Tryd.prog.cellsOf t ∧ DataW.trod enc Tryd.prog w 0 (fun _ => true) true n f0.type ((cs.drop f0.offset).take (Tryd.prog.cellsOf f0.type)) = some y0 := by
  obtain ⟨xs, n, hn, rfl, hl, hlen, hf⟩ := DataW.trod_struct ht h
  match xs, hlen with
  | [y0], _ => exact ⟨y0, n, by omega, hl, by simpa using hf 0 f0 rfl⟩
theorem list1_of {α : Type} {l : List α} (h : l.length = 1) : ∃ c0, l = [c0] := by
  match l, h with
  | [c0], _ => exact ⟨c0, rfl⟩
theorem struct2_parts {t : TypeId} {f0 f1 : Field} {H : Type} {enc : TypeId × Value → H} {w : World} {fuel : Nat} {cs : List Value} {x : DataW H × List MemPlace} (ht : Tryd.prog.underlying t = some (.struct #[f0, f1])) (h : DataW.trod enc Tryd.prog w 0 (fun _ => true) true fuel t cs = some x) :
    ∃ y0 y1 n, n < fuel ∧ cs.length = Tryd.prog.cellsOf t ∧ DataW.trod enc Tryd.prog w 0 (fun _ => true) true n f0.type ((cs.drop f0.offset).take (Tryd.prog.cellsOf f0.type)) = some y0 ∧ DataW.trod enc Tryd.prog w 0 (fun _ => true) true n f1.type ((cs.drop f1.offset).take (Tryd.prog.cellsOf f1.type)) = some y1 := by
  obtain ⟨xs, n, hn, rfl, hl, hlen, hf⟩ := DataW.trod_struct ht h
  match xs, hlen with
  | [y0, y1], _ => exact ⟨y0, y1, n, by omega, hl, by simpa using hf 0 f0 rfl, by simpa using hf 1 f1 rfl⟩
theorem list2_of {α : Type} {l : List α} (h : l.length = 2) : ∃ c0 c1, l = [c0, c1] := by
  match l, h with
  | [c0, c1], _ => exact ⟨c0, c1, rfl⟩
theorem struct3_parts {t : TypeId} {f0 f1 f2 : Field} {H : Type} {enc : TypeId × Value → H} {w : World} {fuel : Nat} {cs : List Value} {x : DataW H × List MemPlace} (ht : Tryd.prog.underlying t = some (.struct #[f0, f1, f2])) (h : DataW.trod enc Tryd.prog w 0 (fun _ => true) true fuel t cs = some x) :
    ∃ y0 y1 y2 n, n < fuel ∧ cs.length = Tryd.prog.cellsOf t ∧ DataW.trod enc Tryd.prog w 0 (fun _ => true) true n f0.type ((cs.drop f0.offset).take (Tryd.prog.cellsOf f0.type)) = some y0 ∧ DataW.trod enc Tryd.prog w 0 (fun _ => true) true n f1.type ((cs.drop f1.offset).take (Tryd.prog.cellsOf f1.type)) = some y1 ∧ DataW.trod enc Tryd.prog w 0 (fun _ => true) true n f2.type ((cs.drop f2.offset).take (Tryd.prog.cellsOf f2.type)) = some y2 := by
  obtain ⟨xs, n, hn, rfl, hl, hlen, hf⟩ := DataW.trod_struct ht h
  match xs, hlen with
  | [y0, y1, y2], _ => exact ⟨y0, y1, y2, n, by omega, hl, by simpa using hf 0 f0 rfl, by simpa using hf 1 f1 rfl, by simpa using hf 2 f2 rfl⟩
theorem list3_of {α : Type} {l : List α} (h : l.length = 3) : ∃ c0 c1 c2, l = [c0, c1, c2] := by
  match l, h with
  | [c0, c1, c2], _ => exact ⟨c0, c1, c2, rfl⟩
theorem struct4_parts {t : TypeId} {f0 f1 f2 f3 : Field} {H : Type} {enc : TypeId × Value → H} {w : World} {fuel : Nat} {cs : List Value} {x : DataW H × List MemPlace} (ht : Tryd.prog.underlying t = some (.struct #[f0, f1, f2, f3])) (h : DataW.trod enc Tryd.prog w 0 (fun _ => true) true fuel t cs = some x) :
    ∃ y0 y1 y2 y3 n, n < fuel ∧ cs.length = Tryd.prog.cellsOf t ∧ DataW.trod enc Tryd.prog w 0 (fun _ => true) true n f0.type ((cs.drop f0.offset).take (Tryd.prog.cellsOf f0.type)) = some y0 ∧ DataW.trod enc Tryd.prog w 0 (fun _ => true) true n f1.type ((cs.drop f1.offset).take (Tryd.prog.cellsOf f1.type)) = some y1 ∧ DataW.trod enc Tryd.prog w 0 (fun _ => true) true n f2.type ((cs.drop f2.offset).take (Tryd.prog.cellsOf f2.type)) = some y2 ∧ DataW.trod enc Tryd.prog w 0 (fun _ => true) true n f3.type ((cs.drop f3.offset).take (Tryd.prog.cellsOf f3.type)) = some y3 := by
  obtain ⟨xs, n, hn, rfl, hl, hlen, hf⟩ := DataW.trod_struct ht h
  match xs, hlen with
  | [y0, y1, y2, y3], _ => exact ⟨y0, y1, y2, y3, n, by omega, hl, by simpa using hf 0 f0 rfl, by simpa using hf 1 f1 rfl, by simpa using hf 2 f2 rfl, by simpa using hf 3 f3 rfl⟩
theorem list4_of {α : Type} {l : List α} (h : l.length = 4) : ∃ c0 c1 c2 c3, l = [c0, c1, c2, c3] := by
  match l, h with
  | [c0, c1, c2, c3], _ => exact ⟨c0, c1, c2, c3, rfl⟩

end Go.Proofs.YtlhiacnmcckjgaaDoor.P
