/- slices.ContainsFunc over whole numbers. -/
import Derived.Test.YthdbijjkcoafiaaPf66
import Derived.Test.YthdbijjkcoafiaaB1
set_option linter.unusedSimpArgs false
set_option linter.unusedVariables false
namespace Go.Proofs.Ythdbijjkcoafiaa.Pure
open Go.RowKit Go.Proofs.Ythdbijjkcoafiaa.P Go.Proofs.YthdbijjkcoafiaaW.PrintWords Go.Proofs.YthdbijjkcoafiaaW.PrintLast
def fi (xs : List Int) (φ : Int → Bool) (i : Int) : Option Int := if φ (rd xs i) = true then some i else none
theorem fi_any (xs : List Int) (φ : Int → Bool) : ∀ (m i : Nat), i + m = xs.length → decide ((findO (fi xs φ) (i : Int) m).getD (-1) ≥ 0) = (xs.drop i).any φ
  | 0, i, h => by
    rw [List.drop_eq_nil_of_le (by omega)]
    rfl
  | m + 1, i, h => by
    have ih := fi_any xs φ m (i + 1) (by omega)
    rw [List.drop_eq_getElem_cons (by omega), List.any_cons, ← ih]
    show decide (((fi xs φ (i : Int)).or (findO (fi xs φ) ((i : Int) + 1) m)).getD (-1) ≥ 0) = _
    unfold fi
    rw [rd_get (by omega)]
    cases φ xs[i]
    · simp
    · simp
theorem containsV (xs : List Int) (hl : xs.length ≤ 1048576) (f : Int → Option Bool) (φ : Int → Bool) (hf : ∀ x, f x = some (φ x)) : Ev (fun k => slices_ContainsFunc_int_int.f k xs f) (xs.any φ) := by
  unfold slices_ContainsFunc_int_int.f slices_IndexFunc_int_int.f
  have h0 := fi_any xs φ xs.length 0 (by omega)
  rw [List.drop_zero] at h0
  rw [← h0]
  refine Ev.bind (a := (findO (fi xs φ) 0 xs.length).getD (-1)) ?_ (Ev.now _)
  refine loop (F := fun k i => slices_IndexFunc_int_int.l0 k xs f (xs.length : Int) i) (n := (xs.length : Int)) ?_ ?_ xs.length 0 (by omega) (by omega)
  · refine Ev.step (f := fun _ => some (-1)) (fun k => ?_) (Ev.now _)
    simp only [slices_IndexFunc_int_int.l0]; rw [if_neg (by omega)]
  · intro i h0 h1 r hr
    refine Ev.step (f := fun k => if φ (rd xs i) = true then some i else slices_IndexFunc_int_int.l0 k xs f (xs.length : Int) (i + 1)) (fun k => ?_) ?_
    · simp only [slices_IndexFunc_int_int.l0, hf, Option.bind_some]
      rw [if_pos h1, if_pos h0, if_pos h1, w64 (x := i + 1) (by omega) (by omega)]
    · unfold fi
      cases φ (rd xs i)
      · simpa using hr
      · simpa using Ev.now i
end Go.Proofs.Ythdbijjkcoafiaa.Pure
