/-
  NARROWER THAN 'FOR EVERY INPUT', by the rows' own cells (each row's printed sentence says how): FnExactMapTerm: loops · FnExactShiftTerm: loops · FnExactSubstituteTerm: loops.
  DERIVED. THE GIVEN ROWS OF THIS SEAT. 5 by the template 'for every input the law returns true; each argument reads behind the call as it read before'; 0 by the template 'total and deterministic' (their statements: YtipfkicndjddgaaTotals.lean).
  GIVEN WITH THE SEED: the statements are not yours to turn. If you find one false, say at which input.
  Laid BY PROGRAM, IN A SANDBOX (cutbox-rows.mjs): the forced cells as the released guide's own fill.sh prints them over the translation b5aa556fb83e20e4… (all of the seat's roots in one cut). By AI agents, Wed Nov 11 2026. No macro, syntax, notation, axiom, sorry.
-/
import Derived.Test.YtipfkicndjddgaaChecked
import GoSem.Claim
import GoSem.ClaimJoined
import GoSem.ClaimMapViews
import Derived.JoinedTies
import Derived.KernelRfl
namespace Go.Proofs.Ytipfkicndjddgaa
/- THE CELL 'sum', in the pinned program and in every row, IS THE sha256 OF THE DUMP (.gsa) THAT YtipfkicndjddgaaProg.lean LOADS. Nothing in Lean hashes anything: it is a label: what it is worth is what the hold of that sum in a sandbox is worth. -/
noncomputable def Try.pinned : Pinned := { name := "ytipfkicndjddgaa", sum := "b5aa556fb83e20e439296047b889537caa4600c58d90157d6b60de4065b6bceb", checked := Try.checked }
namespace Rows
def none {H : Type} : Left H := { results := [], args := [] }

/-- 'laws.FnExactProductSystem': WHATEVER THE INPUT: true; the input reads as it did. -/
def fnExactProductSystemSpec : ChangeSpec := { name := "fnExactProductSystem", fn := fun _ => fun
  | [d1, d2] => { results := [.lit (.bool true)], args := [d1, d2] }
  | _ => none }
def fnExactProductSystemRow : OpenClaim := { program := "ytipfkicndjddgaa", sum := "b5aa556fb83e20e439296047b889537caa4600c58d90157d6b60de4065b6bceb", func := "loop.example/g03111/laws.FnExactProductSystem", spec := "fnExactProductSystem", unfollowed := true, recurses := true, apart := false }
def FnExactProductSystemSaid : Prop := fnExactProductSystemRow.holds Try.pinned (OpenSpec.ofChange fnExactProductSystemSpec)

/-- ITS FALSE NEIGHBOUR: 'it returns false'. Refute it at one input. -/
def fnExactProductSystemWrong : ChangeSpec := { name := "fnExactProductSystem", fn := fun _ => fun
  | [d1, d2] => { results := [.lit (.bool false)], args := [d1, d2] }
  | _ => none }
def FnExactProductSystemWrongFalsely : Prop := fnExactProductSystemRow.holds Try.pinned (OpenSpec.ofChange fnExactProductSystemWrong)

/-- 'laws.FnExactMapTerm': WHATEVER THE INPUT: true; the input reads as it did. -/
def fnExactMapTermSpec : ChangeSpec := { name := "fnExactMapTerm", fn := fun _ => fun
  | [d1, d2] => { results := [.lit (.bool true)], args := [d1, d2] }
  | _ => none }
def fnExactMapTermRow : OpenClaim := { program := "ytipfkicndjddgaa", sum := "b5aa556fb83e20e439296047b889537caa4600c58d90157d6b60de4065b6bceb", func := "loop.example/g03111/laws.FnExactMapTerm", spec := "fnExactMapTerm", unfollowed := true, recurses := true, loops := true, apart := false }
def FnExactMapTermSaid : Prop := fnExactMapTermRow.holds Try.pinned (OpenSpec.ofChange fnExactMapTermSpec)

/-- ITS FALSE NEIGHBOUR: 'it returns false'. Refute it at one input. -/
def fnExactMapTermWrong : ChangeSpec := { name := "fnExactMapTerm", fn := fun _ => fun
  | [d1, d2] => { results := [.lit (.bool false)], args := [d1, d2] }
  | _ => none }
def FnExactMapTermWrongFalsely : Prop := fnExactMapTermRow.holds Try.pinned (OpenSpec.ofChange fnExactMapTermWrong)

/-- 'laws.FnExactShiftTerm': WHATEVER THE INPUT: true; the input reads as it did. -/
def fnExactShiftTermSpec : ChangeSpec := { name := "fnExactShiftTerm", fn := fun _ => fun
  | [d1, d2, d3] => { results := [.lit (.bool true)], args := [d1, d2, d3] }
  | _ => none }
def fnExactShiftTermRow : OpenClaim := { program := "ytipfkicndjddgaa", sum := "b5aa556fb83e20e439296047b889537caa4600c58d90157d6b60de4065b6bceb", func := "loop.example/g03111/laws.FnExactShiftTerm", spec := "fnExactShiftTerm", unfollowed := true, recurses := true, loops := true, apart := false }
def FnExactShiftTermSaid : Prop := fnExactShiftTermRow.holds Try.pinned (OpenSpec.ofChange fnExactShiftTermSpec)

/-- ITS FALSE NEIGHBOUR: 'it returns false'. Refute it at one input. -/
def fnExactShiftTermWrong : ChangeSpec := { name := "fnExactShiftTerm", fn := fun _ => fun
  | [d1, d2, d3] => { results := [.lit (.bool false)], args := [d1, d2, d3] }
  | _ => none }
def FnExactShiftTermWrongFalsely : Prop := fnExactShiftTermRow.holds Try.pinned (OpenSpec.ofChange fnExactShiftTermWrong)

/-- 'laws.FnExactSubstituteTerm': WHATEVER THE INPUT: true; the input reads as it did. -/
def fnExactSubstituteTermSpec : ChangeSpec := { name := "fnExactSubstituteTerm", fn := fun _ => fun
  | [d1, d2, d3] => { results := [.lit (.bool true)], args := [d1, d2, d3] }
  | _ => none }
def fnExactSubstituteTermRow : OpenClaim := { program := "ytipfkicndjddgaa", sum := "b5aa556fb83e20e439296047b889537caa4600c58d90157d6b60de4065b6bceb", func := "loop.example/g03111/laws.FnExactSubstituteTerm", spec := "fnExactSubstituteTerm", unfollowed := true, recurses := true, loops := true, apart := false }
def FnExactSubstituteTermSaid : Prop := fnExactSubstituteTermRow.holds Try.pinned (OpenSpec.ofChange fnExactSubstituteTermSpec)

/-- ITS FALSE NEIGHBOUR: 'it returns false'. Refute it at one input. -/
def fnExactSubstituteTermWrong : ChangeSpec := { name := "fnExactSubstituteTerm", fn := fun _ => fun
  | [d1, d2, d3] => { results := [.lit (.bool false)], args := [d1, d2, d3] }
  | _ => none }
def FnExactSubstituteTermWrongFalsely : Prop := fnExactSubstituteTermRow.holds Try.pinned (OpenSpec.ofChange fnExactSubstituteTermWrong)

/-- 'laws.FnExactViewsOf': WHATEVER THE INPUT: true; the input reads as it did. -/
def fnExactViewsOfSpec : ChangeSpec := { name := "fnExactViewsOf", fn := fun _ => fun
  | [d] => { results := [.lit (.bool true)], args := [d] }
  | _ => none }
def fnExactViewsOfRow : OpenClaim := { program := "ytipfkicndjddgaa", sum := "b5aa556fb83e20e439296047b889537caa4600c58d90157d6b60de4065b6bceb", func := "loop.example/g03111/laws.FnExactViewsOf", spec := "fnExactViewsOf", unfollowed := true, recurses := true, apart := false }
def FnExactViewsOfSaid : Prop := fnExactViewsOfRow.holds Try.pinned (OpenSpec.ofChange fnExactViewsOfSpec)

/-- ITS FALSE NEIGHBOUR: 'it returns false'. Refute it at one input. -/
def fnExactViewsOfWrong : ChangeSpec := { name := "fnExactViewsOf", fn := fun _ => fun
  | [d] => { results := [.lit (.bool false)], args := [d] }
  | _ => none }
def FnExactViewsOfWrongFalsely : Prop := fnExactViewsOfRow.holds Try.pinned (OpenSpec.ofChange fnExactViewsOfWrong)

/- THE SECOND FORM. 'bulk': how many values and letters a reading holds, each counted each time it is reached (what is shared counts as often as it is met; a slice's spare places count too). A statement '..UptoSaid' is the law's where the arguments, and the package variables that the reading takes, are together of bulk at most 1048576: NARROWER than '..Said'. Prove '..Said' where nothing that the law and all that it calls make is longer than what came in: it says more and counts as full. Else prove '..UptoSaid'. A law counts once. -/
mutual
def uptoBulk {H : Type} : DataW H → Nat
  | .lit (.string bytes) => bytes.length + 1
  | .lit _ => 1
  | .nil => 1
  | .ptr d => uptoBulk d + 1
  | .slice elems spare => uptoBulkAll elems + uptoBulkAll spare + 1
  | .agg parts => uptoBulkAll parts + 1
  | .iface _ d => uptoBulk d + 1
  | .map entries => uptoBulkEntries entries + 1
  | .held _ => 1
def uptoBulkAll {H : Type} : List (DataW H) → Nat
  | [] => 0
  | d :: r => uptoBulk d + uptoBulkAll r
def uptoBulkEntries {H : Type} : List (Lit × DataW H) → Nat
  | [] => 0
  | x :: r => uptoBulkEntry x + uptoBulkEntries r
def uptoBulkEntry {H : Type} : Lit × DataW H → Nat
  | (.string bytes, d) => bytes.length + uptoBulk d + 1
  | (_, d) => uptoBulk d + 1
 end
def uptoSmall : (H : Type) → List (DataW H) → Bool := fun _ ds => decide (uptoBulkAll ds ≤ 1048576)
def OpenSpec.upto (s : _root_.Go.ChangeSpec) : _root_.Go.OpenSpec := { _root_.Go.OpenSpec.ofChange s with cond := some uptoSmall }

/-- 'laws.FnExactProductSystem', WHERE WHAT IT READS IS OF BULK AT MOST 1048576: true; the input reads as it did. -/
def fnExactProductSystemUptoRow : OpenClaim := { program := "ytipfkicndjddgaa", sum := "b5aa556fb83e20e439296047b889537caa4600c58d90157d6b60de4065b6bceb", func := "loop.example/g03111/laws.FnExactProductSystem", spec := "fnExactProductSystem", unfollowed := true, recurses := true, apart := false, narrowed := true }
def FnExactProductSystemUptoSaid : Prop := fnExactProductSystemUptoRow.holds Try.pinned (OpenSpec.upto fnExactProductSystemSpec)

/-- 'laws.FnExactMapTerm', WHERE WHAT IT READS IS OF BULK AT MOST 1048576: true; the input reads as it did. -/
def fnExactMapTermUptoRow : OpenClaim := { program := "ytipfkicndjddgaa", sum := "b5aa556fb83e20e439296047b889537caa4600c58d90157d6b60de4065b6bceb", func := "loop.example/g03111/laws.FnExactMapTerm", spec := "fnExactMapTerm", unfollowed := true, recurses := true, loops := true, apart := false, narrowed := true }
def FnExactMapTermUptoSaid : Prop := fnExactMapTermUptoRow.holds Try.pinned (OpenSpec.upto fnExactMapTermSpec)

/-- 'laws.FnExactShiftTerm', WHERE WHAT IT READS IS OF BULK AT MOST 1048576: true; the input reads as it did. -/
def fnExactShiftTermUptoRow : OpenClaim := { program := "ytipfkicndjddgaa", sum := "b5aa556fb83e20e439296047b889537caa4600c58d90157d6b60de4065b6bceb", func := "loop.example/g03111/laws.FnExactShiftTerm", spec := "fnExactShiftTerm", unfollowed := true, recurses := true, loops := true, apart := false, narrowed := true }
def FnExactShiftTermUptoSaid : Prop := fnExactShiftTermUptoRow.holds Try.pinned (OpenSpec.upto fnExactShiftTermSpec)

/-- 'laws.FnExactSubstituteTerm', WHERE WHAT IT READS IS OF BULK AT MOST 1048576: true; the input reads as it did. -/
def fnExactSubstituteTermUptoRow : OpenClaim := { program := "ytipfkicndjddgaa", sum := "b5aa556fb83e20e439296047b889537caa4600c58d90157d6b60de4065b6bceb", func := "loop.example/g03111/laws.FnExactSubstituteTerm", spec := "fnExactSubstituteTerm", unfollowed := true, recurses := true, loops := true, apart := false, narrowed := true }
def FnExactSubstituteTermUptoSaid : Prop := fnExactSubstituteTermUptoRow.holds Try.pinned (OpenSpec.upto fnExactSubstituteTermSpec)

/-- 'laws.FnExactViewsOf', WHERE WHAT IT READS IS OF BULK AT MOST 1048576: true; the input reads as it did. -/
def fnExactViewsOfUptoRow : OpenClaim := { program := "ytipfkicndjddgaa", sum := "b5aa556fb83e20e439296047b889537caa4600c58d90157d6b60de4065b6bceb", func := "loop.example/g03111/laws.FnExactViewsOf", spec := "fnExactViewsOf", unfollowed := true, recurses := true, apart := false, narrowed := true }
def FnExactViewsOfUptoSaid : Prop := fnExactViewsOfUptoRow.holds Try.pinned (OpenSpec.upto fnExactViewsOfSpec)

end Rows
end Go.Proofs.Ytipfkicndjddgaa
