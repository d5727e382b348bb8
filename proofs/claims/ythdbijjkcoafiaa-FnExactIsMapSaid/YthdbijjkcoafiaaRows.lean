/-
  No cell of these rows narrows 'for every input' (looked for: loops, veiled, ifaces, maps, wideKeys, modest, calm, conditions, laid).
  DERIVED. THE GIVEN ROWS OF THIS SEAT. 12 by the template 'for every input the law returns true; each argument reads behind the call as it read before'; 0 by the template 'total and deterministic' (their statements: YthdbijjkcoafiaaTotals.lean).
  GIVEN WITH THE SEED: the statements are not yours to turn. If you find one false, say at which input.
  Laid BY PROGRAM, IN A SANDBOX (cutbox-rows.mjs): the forced cells as the released guide's own fill.sh prints them over the translation 9bf7c39a7c404a9d… (all of the seat's roots in one cut). By AI agents, Wed Nov 11 2026. No macro, syntax, notation, axiom, sorry.
-/
import Derived.Test.YthdbijjkcoafiaaChecked
import GoSem.Claim
import GoSem.ClaimJoined
import GoSem.ClaimMapViews
import Derived.JoinedTies
import Derived.KernelRfl
namespace Go.Proofs.Ythdbijjkcoafiaa
/- THE CELL 'sum', in the pinned program and in every row, IS THE sha256 OF THE DUMP (.gsa) THAT YthdbijjkcoafiaaProg.lean LOADS. Nothing in Lean hashes anything: it is a label: what it is worth is what the hold of that sum in a sandbox is worth. -/
noncomputable def Try.pinned : Pinned := { name := "ythdbijjkcoafiaa", sum := "9bf7c39a7c404a9d59c444f9a0e9571df97c582075219552e84d5a4900ce2cb1", checked := Try.checked }
namespace Rows
def none {H : Type} : Left H := { results := [], args := [] }

/-- 'laws.FnExactIsSystem': WHATEVER THE INPUT: true; the input reads as it did. -/
def fnExactIsSystemSpec : ChangeSpec := { name := "fnExactIsSystem", fn := fun _ => fun
  | [d] => { results := [.lit (.bool true)], args := [d] }
  | _ => none }
def fnExactIsSystemRow : OpenClaim := { program := "ythdbijjkcoafiaa", sum := "9bf7c39a7c404a9d59c444f9a0e9571df97c582075219552e84d5a4900ce2cb1", func := "loop.example/g03111/laws.FnExactIsSystem", spec := "fnExactIsSystem", apart := false }
def FnExactIsSystemSaid : Prop := fnExactIsSystemRow.holds Try.pinned (OpenSpec.ofChange fnExactIsSystemSpec)

/-- ITS FALSE NEIGHBOUR: 'it returns false'. Refute it at one input. -/
def fnExactIsSystemWrong : ChangeSpec := { name := "fnExactIsSystem", fn := fun _ => fun
  | [d] => { results := [.lit (.bool false)], args := [d] }
  | _ => none }
def FnExactIsSystemWrongFalsely : Prop := fnExactIsSystemRow.holds Try.pinned (OpenSpec.ofChange fnExactIsSystemWrong)

/-- 'laws.FnExactIsGrade': WHATEVER THE INPUT: true; the input reads as it did. -/
def fnExactIsGradeSpec : ChangeSpec := { name := "fnExactIsGrade", fn := fun _ => fun
  | [d1, d2] => { results := [.lit (.bool true)], args := [d1, d2] }
  | _ => none }
def fnExactIsGradeRow : OpenClaim := { program := "ythdbijjkcoafiaa", sum := "9bf7c39a7c404a9d59c444f9a0e9571df97c582075219552e84d5a4900ce2cb1", func := "loop.example/g03111/laws.FnExactIsGrade", spec := "fnExactIsGrade", apart := false }
def FnExactIsGradeSaid : Prop := fnExactIsGradeRow.holds Try.pinned (OpenSpec.ofChange fnExactIsGradeSpec)

/-- ITS FALSE NEIGHBOUR: 'it returns false'. Refute it at one input. -/
def fnExactIsGradeWrong : ChangeSpec := { name := "fnExactIsGrade", fn := fun _ => fun
  | [d1, d2] => { results := [.lit (.bool false)], args := [d1, d2] }
  | _ => none }
def FnExactIsGradeWrongFalsely : Prop := fnExactIsGradeRow.holds Try.pinned (OpenSpec.ofChange fnExactIsGradeWrong)

/-- 'laws.FnExactIsBelow': WHATEVER THE INPUT: true; the input reads as it did. -/
def fnExactIsBelowSpec : ChangeSpec := { name := "fnExactIsBelow", fn := fun _ => fun
  | [d1, d2, d3] => { results := [.lit (.bool true)], args := [d1, d2, d3] }
  | _ => none }
def fnExactIsBelowRow : OpenClaim := { program := "ythdbijjkcoafiaa", sum := "9bf7c39a7c404a9d59c444f9a0e9571df97c582075219552e84d5a4900ce2cb1", func := "loop.example/g03111/laws.FnExactIsBelow", spec := "fnExactIsBelow", apart := false }
def FnExactIsBelowSaid : Prop := fnExactIsBelowRow.holds Try.pinned (OpenSpec.ofChange fnExactIsBelowSpec)

/-- ITS FALSE NEIGHBOUR: 'it returns false'. Refute it at one input. -/
def fnExactIsBelowWrong : ChangeSpec := { name := "fnExactIsBelow", fn := fun _ => fun
  | [d1, d2, d3] => { results := [.lit (.bool false)], args := [d1, d2, d3] }
  | _ => none }
def FnExactIsBelowWrongFalsely : Prop := fnExactIsBelowRow.holds Try.pinned (OpenSpec.ofChange fnExactIsBelowWrong)

/-- 'laws.FnExactAddGrades': WHATEVER THE INPUT: true; the input reads as it did. -/
def fnExactAddGradesSpec : ChangeSpec := { name := "fnExactAddGrades", fn := fun _ => fun
  | [d1, d2, d3] => { results := [.lit (.bool true)], args := [d1, d2, d3] }
  | _ => none }
def fnExactAddGradesRow : OpenClaim := { program := "ythdbijjkcoafiaa", sum := "9bf7c39a7c404a9d59c444f9a0e9571df97c582075219552e84d5a4900ce2cb1", func := "loop.example/g03111/laws.FnExactAddGrades", spec := "fnExactAddGrades", apart := false }
def FnExactAddGradesSaid : Prop := fnExactAddGradesRow.holds Try.pinned (OpenSpec.ofChange fnExactAddGradesSpec)

/-- ITS FALSE NEIGHBOUR: 'it returns false'. Refute it at one input. -/
def fnExactAddGradesWrong : ChangeSpec := { name := "fnExactAddGrades", fn := fun _ => fun
  | [d1, d2, d3] => { results := [.lit (.bool false)], args := [d1, d2, d3] }
  | _ => none }
def FnExactAddGradesWrongFalsely : Prop := fnExactAddGradesRow.holds Try.pinned (OpenSpec.ofChange fnExactAddGradesWrong)

/-- 'laws.FnExactJoinGrades': WHATEVER THE INPUT: true; the input reads as it did. -/
def fnExactJoinGradesSpec : ChangeSpec := { name := "fnExactJoinGrades", fn := fun _ => fun
  | [d1, d2, d3] => { results := [.lit (.bool true)], args := [d1, d2, d3] }
  | _ => none }
def fnExactJoinGradesRow : OpenClaim := { program := "ythdbijjkcoafiaa", sum := "9bf7c39a7c404a9d59c444f9a0e9571df97c582075219552e84d5a4900ce2cb1", func := "loop.example/g03111/laws.FnExactJoinGrades", spec := "fnExactJoinGrades", apart := false }
def FnExactJoinGradesSaid : Prop := fnExactJoinGradesRow.holds Try.pinned (OpenSpec.ofChange fnExactJoinGradesSpec)

/-- ITS FALSE NEIGHBOUR: 'it returns false'. Refute it at one input. -/
def fnExactJoinGradesWrong : ChangeSpec := { name := "fnExactJoinGrades", fn := fun _ => fun
  | [d1, d2, d3] => { results := [.lit (.bool false)], args := [d1, d2, d3] }
  | _ => none }
def FnExactJoinGradesWrongFalsely : Prop := fnExactJoinGradesRow.holds Try.pinned (OpenSpec.ofChange fnExactJoinGradesWrong)

/-- 'laws.FnExactMultiplyGrades': WHATEVER THE INPUT: true; the input reads as it did. -/
def fnExactMultiplyGradesSpec : ChangeSpec := { name := "fnExactMultiplyGrades", fn := fun _ => fun
  | [d1, d2, d3] => { results := [.lit (.bool true)], args := [d1, d2, d3] }
  | _ => none }
def fnExactMultiplyGradesRow : OpenClaim := { program := "ythdbijjkcoafiaa", sum := "9bf7c39a7c404a9d59c444f9a0e9571df97c582075219552e84d5a4900ce2cb1", func := "loop.example/g03111/laws.FnExactMultiplyGrades", spec := "fnExactMultiplyGrades", apart := false }
def FnExactMultiplyGradesSaid : Prop := fnExactMultiplyGradesRow.holds Try.pinned (OpenSpec.ofChange fnExactMultiplyGradesSpec)

/-- ITS FALSE NEIGHBOUR: 'it returns false'. Refute it at one input. -/
def fnExactMultiplyGradesWrong : ChangeSpec := { name := "fnExactMultiplyGrades", fn := fun _ => fun
  | [d1, d2, d3] => { results := [.lit (.bool false)], args := [d1, d2, d3] }
  | _ => none }
def FnExactMultiplyGradesWrongFalsely : Prop := fnExactMultiplyGradesRow.holds Try.pinned (OpenSpec.ofChange fnExactMultiplyGradesWrong)

/-- 'laws.FnExactLeastGrade': WHATEVER THE INPUT: true; the input reads as it did. -/
def fnExactLeastGradeSpec : ChangeSpec := { name := "fnExactLeastGrade", fn := fun _ => fun
  | [d] => { results := [.lit (.bool true)], args := [d] }
  | _ => none }
def fnExactLeastGradeRow : OpenClaim := { program := "ythdbijjkcoafiaa", sum := "9bf7c39a7c404a9d59c444f9a0e9571df97c582075219552e84d5a4900ce2cb1", func := "loop.example/g03111/laws.FnExactLeastGrade", spec := "fnExactLeastGrade", apart := false }
def FnExactLeastGradeSaid : Prop := fnExactLeastGradeRow.holds Try.pinned (OpenSpec.ofChange fnExactLeastGradeSpec)

/-- ITS FALSE NEIGHBOUR: 'it returns false'. Refute it at one input. -/
def fnExactLeastGradeWrong : ChangeSpec := { name := "fnExactLeastGrade", fn := fun _ => fun
  | [d] => { results := [.lit (.bool false)], args := [d] }
  | _ => none }
def FnExactLeastGradeWrongFalsely : Prop := fnExactLeastGradeRow.holds Try.pinned (OpenSpec.ofChange fnExactLeastGradeWrong)

/-- 'laws.FnExactIsReliable': WHATEVER THE INPUT: true; the input reads as it did. -/
def fnExactIsReliableSpec : ChangeSpec := { name := "fnExactIsReliable", fn := fun _ => fun
  | [d] => { results := [.lit (.bool true)], args := [d] }
  | _ => none }
def fnExactIsReliableRow : OpenClaim := { program := "ythdbijjkcoafiaa", sum := "9bf7c39a7c404a9d59c444f9a0e9571df97c582075219552e84d5a4900ce2cb1", func := "loop.example/g03111/laws.FnExactIsReliable", spec := "fnExactIsReliable", apart := false }
def FnExactIsReliableSaid : Prop := fnExactIsReliableRow.holds Try.pinned (OpenSpec.ofChange fnExactIsReliableSpec)

/-- ITS FALSE NEIGHBOUR: 'it returns false'. Refute it at one input. -/
def fnExactIsReliableWrong : ChangeSpec := { name := "fnExactIsReliable", fn := fun _ => fun
  | [d] => { results := [.lit (.bool false)], args := [d] }
  | _ => none }
def FnExactIsReliableWrongFalsely : Prop := fnExactIsReliableRow.holds Try.pinned (OpenSpec.ofChange fnExactIsReliableWrong)

/-- 'laws.FnExactSumGrades': WHATEVER THE INPUT: true; the input reads as it did. -/
def fnExactSumGradesSpec : ChangeSpec := { name := "fnExactSumGrades", fn := fun _ => fun
  | [d1, d2] => { results := [.lit (.bool true)], args := [d1, d2] }
  | _ => none }
def fnExactSumGradesRow : OpenClaim := { program := "ythdbijjkcoafiaa", sum := "9bf7c39a7c404a9d59c444f9a0e9571df97c582075219552e84d5a4900ce2cb1", func := "loop.example/g03111/laws.FnExactSumGrades", spec := "fnExactSumGrades", unfollowed := true, recurses := true, apart := false }
def FnExactSumGradesSaid : Prop := fnExactSumGradesRow.holds Try.pinned (OpenSpec.ofChange fnExactSumGradesSpec)

/-- ITS FALSE NEIGHBOUR: 'it returns false'. Refute it at one input. -/
def fnExactSumGradesWrong : ChangeSpec := { name := "fnExactSumGrades", fn := fun _ => fun
  | [d1, d2] => { results := [.lit (.bool false)], args := [d1, d2] }
  | _ => none }
def FnExactSumGradesWrongFalsely : Prop := fnExactSumGradesRow.holds Try.pinned (OpenSpec.ofChange fnExactSumGradesWrong)

/-- 'laws.FnExactMeetGrades': WHATEVER THE INPUT: true; the input reads as it did. -/
def fnExactMeetGradesSpec : ChangeSpec := { name := "fnExactMeetGrades", fn := fun _ => fun
  | [d1, d2, d3] => { results := [.lit (.bool true)], args := [d1, d2, d3] }
  | _ => none }
def fnExactMeetGradesRow : OpenClaim := { program := "ythdbijjkcoafiaa", sum := "9bf7c39a7c404a9d59c444f9a0e9571df97c582075219552e84d5a4900ce2cb1", func := "loop.example/g03111/laws.FnExactMeetGrades", spec := "fnExactMeetGrades", apart := false }
def FnExactMeetGradesSaid : Prop := fnExactMeetGradesRow.holds Try.pinned (OpenSpec.ofChange fnExactMeetGradesSpec)

/-- ITS FALSE NEIGHBOUR: 'it returns false'. Refute it at one input. -/
def fnExactMeetGradesWrong : ChangeSpec := { name := "fnExactMeetGrades", fn := fun _ => fun
  | [d1, d2, d3] => { results := [.lit (.bool false)], args := [d1, d2, d3] }
  | _ => none }
def FnExactMeetGradesWrongFalsely : Prop := fnExactMeetGradesRow.holds Try.pinned (OpenSpec.ofChange fnExactMeetGradesWrong)

/-- 'laws.FnExactIsMap': WHATEVER THE INPUT: true; the input reads as it did. -/
def fnExactIsMapSpec : ChangeSpec := { name := "fnExactIsMap", fn := fun _ => fun
  | [d1, d2, d3] => { results := [.lit (.bool true)], args := [d1, d2, d3] }
  | _ => none }
def fnExactIsMapRow : OpenClaim := { program := "ythdbijjkcoafiaa", sum := "9bf7c39a7c404a9d59c444f9a0e9571df97c582075219552e84d5a4900ce2cb1", func := "loop.example/g03111/laws.FnExactIsMap", spec := "fnExactIsMap", unfollowed := true, recurses := true, apart := false }
def FnExactIsMapSaid : Prop := fnExactIsMapRow.holds Try.pinned (OpenSpec.ofChange fnExactIsMapSpec)

/-- ITS FALSE NEIGHBOUR: 'it returns false'. Refute it at one input. -/
def fnExactIsMapWrong : ChangeSpec := { name := "fnExactIsMap", fn := fun _ => fun
  | [d1, d2, d3] => { results := [.lit (.bool false)], args := [d1, d2, d3] }
  | _ => none }
def FnExactIsMapWrongFalsely : Prop := fnExactIsMapRow.holds Try.pinned (OpenSpec.ofChange fnExactIsMapWrong)

/-- 'laws.FnExactIsView': WHATEVER THE INPUT: true; the input reads as it did. -/
def fnExactIsViewSpec : ChangeSpec := { name := "fnExactIsView", fn := fun _ => fun
  | [d1, d2] => { results := [.lit (.bool true)], args := [d1, d2] }
  | _ => none }
def fnExactIsViewRow : OpenClaim := { program := "ythdbijjkcoafiaa", sum := "9bf7c39a7c404a9d59c444f9a0e9571df97c582075219552e84d5a4900ce2cb1", func := "loop.example/g03111/laws.FnExactIsView", spec := "fnExactIsView", apart := false }
def FnExactIsViewSaid : Prop := fnExactIsViewRow.holds Try.pinned (OpenSpec.ofChange fnExactIsViewSpec)

/-- ITS FALSE NEIGHBOUR: 'it returns false'. Refute it at one input. -/
def fnExactIsViewWrong : ChangeSpec := { name := "fnExactIsView", fn := fun _ => fun
  | [d1, d2] => { results := [.lit (.bool false)], args := [d1, d2] }
  | _ => none }
def FnExactIsViewWrongFalsely : Prop := fnExactIsViewRow.holds Try.pinned (OpenSpec.ofChange fnExactIsViewWrong)

/- THE SECOND FORM. 'bulk': how many values and letters a reading holds, each counted each time it is reached (what is shared counts as often as it is met; a slice's spare places count too). A statement '..UptoSaid' is the law's where the arguments, and the package variables that the reading takes, are together of bulk at most 1048576: NARROWER than '..Said'. Prove '..Said' where nothing that the law and all that it calls make is longer than what came in: it says more and counts as full. Else prove '..UptoSaid'. A law counts once. -/
mutual
def uptoBulk {H : Type} : DataW H → Nat
  | .lit (.string bytes) => bytes.length + 1
  | .lit _ => 1
  | .nil => 1
  | .ptr d => uptoBulk d + 1
  | .slice elems spare => uptoBulkAll elems + uptoBulkAll spare + 1
  | .agg parts => uptoBulkAll parts + 1
  | .iface _ d => uptoBulk d + 1
  | .map entries => uptoBulkEntries entries + 1
  | .held _ => 1
def uptoBulkAll {H : Type} : List (DataW H) → Nat
  | [] => 0
  | d :: r => uptoBulk d + uptoBulkAll r
def uptoBulkEntries {H : Type} : List (Lit × DataW H) → Nat
  | [] => 0
  | x :: r => uptoBulkEntry x + uptoBulkEntries r
def uptoBulkEntry {H : Type} : Lit × DataW H → Nat
  | (.string bytes, d) => bytes.length + uptoBulk d + 1
  | (_, d) => uptoBulk d + 1
 end
def uptoSmall : (H : Type) → List (DataW H) → Bool := fun _ ds => decide (uptoBulkAll ds ≤ 1048576)
def OpenSpec.upto (s : _root_.Go.ChangeSpec) : _root_.Go.OpenSpec := { _root_.Go.OpenSpec.ofChange s with cond := some uptoSmall }

/-- 'laws.FnExactIsSystem', WHERE WHAT IT READS IS OF BULK AT MOST 1048576: true; the input reads as it did. -/
def fnExactIsSystemUptoRow : OpenClaim := { program := "ythdbijjkcoafiaa", sum := "9bf7c39a7c404a9d59c444f9a0e9571df97c582075219552e84d5a4900ce2cb1", func := "loop.example/g03111/laws.FnExactIsSystem", spec := "fnExactIsSystem", apart := false, narrowed := true }
def FnExactIsSystemUptoSaid : Prop := fnExactIsSystemUptoRow.holds Try.pinned (OpenSpec.upto fnExactIsSystemSpec)

/-- 'laws.FnExactIsGrade', WHERE WHAT IT READS IS OF BULK AT MOST 1048576: true; the input reads as it did. -/
def fnExactIsGradeUptoRow : OpenClaim := { program := "ythdbijjkcoafiaa", sum := "9bf7c39a7c404a9d59c444f9a0e9571df97c582075219552e84d5a4900ce2cb1", func := "loop.example/g03111/laws.FnExactIsGrade", spec := "fnExactIsGrade", apart := false, narrowed := true }
def FnExactIsGradeUptoSaid : Prop := fnExactIsGradeUptoRow.holds Try.pinned (OpenSpec.upto fnExactIsGradeSpec)

/-- 'laws.FnExactIsBelow', WHERE WHAT IT READS IS OF BULK AT MOST 1048576: true; the input reads as it did. -/
def fnExactIsBelowUptoRow : OpenClaim := { program := "ythdbijjkcoafiaa", sum := "9bf7c39a7c404a9d59c444f9a0e9571df97c582075219552e84d5a4900ce2cb1", func := "loop.example/g03111/laws.FnExactIsBelow", spec := "fnExactIsBelow", apart := false, narrowed := true }
def FnExactIsBelowUptoSaid : Prop := fnExactIsBelowUptoRow.holds Try.pinned (OpenSpec.upto fnExactIsBelowSpec)

/-- 'laws.FnExactAddGrades', WHERE WHAT IT READS IS OF BULK AT MOST 1048576: true; the input reads as it did. -/
def fnExactAddGradesUptoRow : OpenClaim := { program := "ythdbijjkcoafiaa", sum := "9bf7c39a7c404a9d59c444f9a0e9571df97c582075219552e84d5a4900ce2cb1", func := "loop.example/g03111/laws.FnExactAddGrades", spec := "fnExactAddGrades", apart := false, narrowed := true }
def FnExactAddGradesUptoSaid : Prop := fnExactAddGradesUptoRow.holds Try.pinned (OpenSpec.upto fnExactAddGradesSpec)

/-- 'laws.FnExactJoinGrades', WHERE WHAT IT READS IS OF BULK AT MOST 1048576: true; the input reads as it did. -/
def fnExactJoinGradesUptoRow : OpenClaim := { program := "ythdbijjkcoafiaa", sum := "9bf7c39a7c404a9d59c444f9a0e9571df97c582075219552e84d5a4900ce2cb1", func := "loop.example/g03111/laws.FnExactJoinGrades", spec := "fnExactJoinGrades", apart := false, narrowed := true }
def FnExactJoinGradesUptoSaid : Prop := fnExactJoinGradesUptoRow.holds Try.pinned (OpenSpec.upto fnExactJoinGradesSpec)

/-- 'laws.FnExactMultiplyGrades', WHERE WHAT IT READS IS OF BULK AT MOST 1048576: true; the input reads as it did. -/
def fnExactMultiplyGradesUptoRow : OpenClaim := { program := "ythdbijjkcoafiaa", sum := "9bf7c39a7c404a9d59c444f9a0e9571df97c582075219552e84d5a4900ce2cb1", func := "loop.example/g03111/laws.FnExactMultiplyGrades", spec := "fnExactMultiplyGrades", apart := false, narrowed := true }
def FnExactMultiplyGradesUptoSaid : Prop := fnExactMultiplyGradesUptoRow.holds Try.pinned (OpenSpec.upto fnExactMultiplyGradesSpec)

/-- 'laws.FnExactLeastGrade', WHERE WHAT IT READS IS OF BULK AT MOST 1048576: true; the input reads as it did. -/
def fnExactLeastGradeUptoRow : OpenClaim := { program := "ythdbijjkcoafiaa", sum := "9bf7c39a7c404a9d59c444f9a0e9571df97c582075219552e84d5a4900ce2cb1", func := "loop.example/g03111/laws.FnExactLeastGrade", spec := "fnExactLeastGrade", apart := false, narrowed := true }
def FnExactLeastGradeUptoSaid : Prop := fnExactLeastGradeUptoRow.holds Try.pinned (OpenSpec.upto fnExactLeastGradeSpec)

/-- 'laws.FnExactIsReliable', WHERE WHAT IT READS IS OF BULK AT MOST 1048576: true; the input reads as it did. -/
def fnExactIsReliableUptoRow : OpenClaim := { program := "ythdbijjkcoafiaa", sum := "9bf7c39a7c404a9d59c444f9a0e9571df97c582075219552e84d5a4900ce2cb1", func := "loop.example/g03111/laws.FnExactIsReliable", spec := "fnExactIsReliable", apart := false, narrowed := true }
def FnExactIsReliableUptoSaid : Prop := fnExactIsReliableUptoRow.holds Try.pinned (OpenSpec.upto fnExactIsReliableSpec)

/-- 'laws.FnExactSumGrades', WHERE WHAT IT READS IS OF BULK AT MOST 1048576: true; the input reads as it did. -/
def fnExactSumGradesUptoRow : OpenClaim := { program := "ythdbijjkcoafiaa", sum := "9bf7c39a7c404a9d59c444f9a0e9571df97c582075219552e84d5a4900ce2cb1", func := "loop.example/g03111/laws.FnExactSumGrades", spec := "fnExactSumGrades", unfollowed := true, recurses := true, apart := false, narrowed := true }
def FnExactSumGradesUptoSaid : Prop := fnExactSumGradesUptoRow.holds Try.pinned (OpenSpec.upto fnExactSumGradesSpec)

/-- 'laws.FnExactMeetGrades', WHERE WHAT IT READS IS OF BULK AT MOST 1048576: true; the input reads as it did. -/
def fnExactMeetGradesUptoRow : OpenClaim := { program := "ythdbijjkcoafiaa", sum := "9bf7c39a7c404a9d59c444f9a0e9571df97c582075219552e84d5a4900ce2cb1", func := "loop.example/g03111/laws.FnExactMeetGrades", spec := "fnExactMeetGrades", apart := false, narrowed := true }
def FnExactMeetGradesUptoSaid : Prop := fnExactMeetGradesUptoRow.holds Try.pinned (OpenSpec.upto fnExactMeetGradesSpec)

/-- 'laws.FnExactIsMap', WHERE WHAT IT READS IS OF BULK AT MOST 1048576: true; the input reads as it did. -/
def fnExactIsMapUptoRow : OpenClaim := { program := "ythdbijjkcoafiaa", sum := "9bf7c39a7c404a9d59c444f9a0e9571df97c582075219552e84d5a4900ce2cb1", func := "loop.example/g03111/laws.FnExactIsMap", spec := "fnExactIsMap", unfollowed := true, recurses := true, apart := false, narrowed := true }
def FnExactIsMapUptoSaid : Prop := fnExactIsMapUptoRow.holds Try.pinned (OpenSpec.upto fnExactIsMapSpec)

/-- 'laws.FnExactIsView', WHERE WHAT IT READS IS OF BULK AT MOST 1048576: true; the input reads as it did. -/
def fnExactIsViewUptoRow : OpenClaim := { program := "ythdbijjkcoafiaa", sum := "9bf7c39a7c404a9d59c444f9a0e9571df97c582075219552e84d5a4900ce2cb1", func := "loop.example/g03111/laws.FnExactIsView", spec := "fnExactIsView", apart := false, narrowed := true }
def FnExactIsViewUptoSaid : Prop := fnExactIsViewUptoRow.holds Try.pinned (OpenSpec.upto fnExactIsViewSpec)

end Rows
end Go.Proofs.Ythdbijjkcoafiaa
