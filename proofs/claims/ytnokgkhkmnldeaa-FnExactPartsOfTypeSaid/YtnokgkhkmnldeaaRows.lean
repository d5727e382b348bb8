/-
  NARROWER THAN 'FOR EVERY INPUT', by the rows' own cells (each row's printed sentence says how): FnExactIsWritten: loops · FnExactSizeOfTerm: loops · FnExactUsesOf: loops · FnExactIsRedex: loops · FnExactSameTerms: loops · FnExactIsTerm: loops.
  DERIVED. THE GIVEN ROWS OF THIS SEAT. 10 by the template 'for every input the law returns true; each argument reads behind the call as it read before'; 0 by the template 'total and deterministic' (their statements: YtnokgkhkmnldeaaTotals.lean).
  GIVEN WITH THE SEED: the statements are not yours to turn. If you find one false, say at which input.
  Laid BY PROGRAM, IN A SANDBOX (cutbox-rows.mjs): the forced cells as the released guide's own fill.sh prints them over the translation c748a72ef625be40… (all of the seat's roots in one cut). By AI agents, Wed Nov 11 2026. No macro, syntax, notation, axiom, sorry.
-/
import Derived.Test.YtnokgkhkmnldeaaChecked
import GoSem.Claim
import GoSem.ClaimJoined
import GoSem.ClaimMapViews
import Derived.JoinedTies
import Derived.KernelRfl
namespace Go.Proofs.Ytnokgkhkmnldeaa
/- THE CELL 'sum', in the pinned program and in every row, IS THE sha256 OF THE DUMP (.gsa) THAT YtnokgkhkmnldeaaProg.lean LOADS. Nothing in Lean hashes anything: it is a label: what it is worth is what the hold of that sum in a sandbox is worth. -/
noncomputable def Try.pinned : Pinned := { name := "ytnokgkhkmnldeaa", sum := "c748a72ef625be4088657c668d93b8b979e3dd4e647cb66c4803fa55c208a877", checked := Try.checked }
namespace Rows
def none {H : Type} : Left H := { results := [], args := [] }

/-- 'laws.FnExactPartsOfType': WHATEVER THE INPUT: true; the input reads as it did. -/
def fnExactPartsOfTypeSpec : ChangeSpec := { name := "fnExactPartsOfType", fn := fun _ => fun
  | [d] => { results := [.lit (.bool true)], args := [d] }
  | _ => none }
def fnExactPartsOfTypeRow : OpenClaim := { program := "ytnokgkhkmnldeaa", sum := "c748a72ef625be4088657c668d93b8b979e3dd4e647cb66c4803fa55c208a877", func := "loop.example/g03111/laws.FnExactPartsOfType", spec := "fnExactPartsOfType", recurses := true, apart := false }
def FnExactPartsOfTypeSaid : Prop := fnExactPartsOfTypeRow.holds Try.pinned (OpenSpec.ofChange fnExactPartsOfTypeSpec)

/-- ITS FALSE NEIGHBOUR: 'it returns false'. Refute it at one input. -/
def fnExactPartsOfTypeWrong : ChangeSpec := { name := "fnExactPartsOfType", fn := fun _ => fun
  | [d] => { results := [.lit (.bool false)], args := [d] }
  | _ => none }
def FnExactPartsOfTypeWrongFalsely : Prop := fnExactPartsOfTypeRow.holds Try.pinned (OpenSpec.ofChange fnExactPartsOfTypeWrong)

/-- 'laws.FnExactMapType': WHATEVER THE INPUT: true; the input reads as it did. -/
def fnExactMapTypeSpec : ChangeSpec := { name := "fnExactMapType", fn := fun _ => fun
  | [d1, d2] => { results := [.lit (.bool true)], args := [d1, d2] }
  | _ => none }
def fnExactMapTypeRow : OpenClaim := { program := "ytnokgkhkmnldeaa", sum := "c748a72ef625be4088657c668d93b8b979e3dd4e647cb66c4803fa55c208a877", func := "loop.example/g03111/laws.FnExactMapType", spec := "fnExactMapType", recurses := true, apart := false }
def FnExactMapTypeSaid : Prop := fnExactMapTypeRow.holds Try.pinned (OpenSpec.ofChange fnExactMapTypeSpec)

/-- ITS FALSE NEIGHBOUR: 'it returns false'. Refute it at one input. -/
def fnExactMapTypeWrong : ChangeSpec := { name := "fnExactMapType", fn := fun _ => fun
  | [d1, d2] => { results := [.lit (.bool false)], args := [d1, d2] }
  | _ => none }
def FnExactMapTypeWrongFalsely : Prop := fnExactMapTypeRow.holds Try.pinned (OpenSpec.ofChange fnExactMapTypeWrong)

/-- 'laws.FnExactIsType': WHATEVER THE INPUT: true; the input reads as it did. -/
def fnExactIsTypeSpec : ChangeSpec := { name := "fnExactIsType", fn := fun _ => fun
  | [d1, d2] => { results := [.lit (.bool true)], args := [d1, d2] }
  | _ => none }
def fnExactIsTypeRow : OpenClaim := { program := "ytnokgkhkmnldeaa", sum := "c748a72ef625be4088657c668d93b8b979e3dd4e647cb66c4803fa55c208a877", func := "loop.example/g03111/laws.FnExactIsType", spec := "fnExactIsType", recurses := true, apart := false }
def FnExactIsTypeSaid : Prop := fnExactIsTypeRow.holds Try.pinned (OpenSpec.ofChange fnExactIsTypeSpec)

/-- ITS FALSE NEIGHBOUR: 'it returns false'. Refute it at one input. -/
def fnExactIsTypeWrong : ChangeSpec := { name := "fnExactIsType", fn := fun _ => fun
  | [d1, d2] => { results := [.lit (.bool false)], args := [d1, d2] }
  | _ => none }
def FnExactIsTypeWrongFalsely : Prop := fnExactIsTypeRow.holds Try.pinned (OpenSpec.ofChange fnExactIsTypeWrong)

/-- 'laws.FnExactIsData': WHATEVER THE INPUT: true; the input reads as it did. -/
def fnExactIsDataSpec : ChangeSpec := { name := "fnExactIsData", fn := fun _ => fun
  | [d1, d2] => { results := [.lit (.bool true)], args := [d1, d2] }
  | _ => none }
def fnExactIsDataRow : OpenClaim := { program := "ytnokgkhkmnldeaa", sum := "c748a72ef625be4088657c668d93b8b979e3dd4e647cb66c4803fa55c208a877", func := "loop.example/g03111/laws.FnExactIsData", spec := "fnExactIsData", unfollowed := true, recurses := true, apart := false }
def FnExactIsDataSaid : Prop := fnExactIsDataRow.holds Try.pinned (OpenSpec.ofChange fnExactIsDataSpec)

/-- ITS FALSE NEIGHBOUR: 'it returns false'. Refute it at one input. -/
def fnExactIsDataWrong : ChangeSpec := { name := "fnExactIsData", fn := fun _ => fun
  | [d1, d2] => { results := [.lit (.bool false)], args := [d1, d2] }
  | _ => none }
def FnExactIsDataWrongFalsely : Prop := fnExactIsDataRow.holds Try.pinned (OpenSpec.ofChange fnExactIsDataWrong)

/-- 'laws.FnExactIsWritten': WHATEVER THE INPUT: true; the input reads as it did. -/
def fnExactIsWrittenSpec : ChangeSpec := { name := "fnExactIsWritten", fn := fun _ => fun
  | [d] => { results := [.lit (.bool true)], args := [d] }
  | _ => none }
def fnExactIsWrittenRow : OpenClaim := { program := "ytnokgkhkmnldeaa", sum := "c748a72ef625be4088657c668d93b8b979e3dd4e647cb66c4803fa55c208a877", func := "loop.example/g03111/laws.FnExactIsWritten", spec := "fnExactIsWritten", unfollowed := true, recurses := true, loops := true, apart := false }
def FnExactIsWrittenSaid : Prop := fnExactIsWrittenRow.holds Try.pinned (OpenSpec.ofChange fnExactIsWrittenSpec)

/-- ITS FALSE NEIGHBOUR: 'it returns false'. Refute it at one input. -/
def fnExactIsWrittenWrong : ChangeSpec := { name := "fnExactIsWritten", fn := fun _ => fun
  | [d] => { results := [.lit (.bool false)], args := [d] }
  | _ => none }
def FnExactIsWrittenWrongFalsely : Prop := fnExactIsWrittenRow.holds Try.pinned (OpenSpec.ofChange fnExactIsWrittenWrong)

/-- 'laws.FnExactSizeOfTerm': WHATEVER THE INPUT: true; the input reads as it did. -/
def fnExactSizeOfTermSpec : ChangeSpec := { name := "fnExactSizeOfTerm", fn := fun _ => fun
  | [d] => { results := [.lit (.bool true)], args := [d] }
  | _ => none }
def fnExactSizeOfTermRow : OpenClaim := { program := "ytnokgkhkmnldeaa", sum := "c748a72ef625be4088657c668d93b8b979e3dd4e647cb66c4803fa55c208a877", func := "loop.example/g03111/laws.FnExactSizeOfTerm", spec := "fnExactSizeOfTerm", unfollowed := true, recurses := true, loops := true, apart := false }
def FnExactSizeOfTermSaid : Prop := fnExactSizeOfTermRow.holds Try.pinned (OpenSpec.ofChange fnExactSizeOfTermSpec)

/-- ITS FALSE NEIGHBOUR: 'it returns false'. Refute it at one input. -/
def fnExactSizeOfTermWrong : ChangeSpec := { name := "fnExactSizeOfTerm", fn := fun _ => fun
  | [d] => { results := [.lit (.bool false)], args := [d] }
  | _ => none }
def FnExactSizeOfTermWrongFalsely : Prop := fnExactSizeOfTermRow.holds Try.pinned (OpenSpec.ofChange fnExactSizeOfTermWrong)

/-- 'laws.FnExactUsesOf': WHATEVER THE INPUT: true; the input reads as it did. -/
def fnExactUsesOfSpec : ChangeSpec := { name := "fnExactUsesOf", fn := fun _ => fun
  | [d1, d2] => { results := [.lit (.bool true)], args := [d1, d2] }
  | _ => none }
def fnExactUsesOfRow : OpenClaim := { program := "ytnokgkhkmnldeaa", sum := "c748a72ef625be4088657c668d93b8b979e3dd4e647cb66c4803fa55c208a877", func := "loop.example/g03111/laws.FnExactUsesOf", spec := "fnExactUsesOf", unfollowed := true, recurses := true, loops := true, apart := false }
def FnExactUsesOfSaid : Prop := fnExactUsesOfRow.holds Try.pinned (OpenSpec.ofChange fnExactUsesOfSpec)

/-- ITS FALSE NEIGHBOUR: 'it returns false'. Refute it at one input. -/
def fnExactUsesOfWrong : ChangeSpec := { name := "fnExactUsesOf", fn := fun _ => fun
  | [d1, d2] => { results := [.lit (.bool false)], args := [d1, d2] }
  | _ => none }
def FnExactUsesOfWrongFalsely : Prop := fnExactUsesOfRow.holds Try.pinned (OpenSpec.ofChange fnExactUsesOfWrong)

/-- 'laws.FnExactIsRedex': WHATEVER THE INPUT: true; the input reads as it did. -/
def fnExactIsRedexSpec : ChangeSpec := { name := "fnExactIsRedex", fn := fun _ => fun
  | [d] => { results := [.lit (.bool true)], args := [d] }
  | _ => none }
def fnExactIsRedexRow : OpenClaim := { program := "ytnokgkhkmnldeaa", sum := "c748a72ef625be4088657c668d93b8b979e3dd4e647cb66c4803fa55c208a877", func := "loop.example/g03111/laws.FnExactIsRedex", spec := "fnExactIsRedex", unfollowed := true, recurses := true, loops := true, apart := false }
def FnExactIsRedexSaid : Prop := fnExactIsRedexRow.holds Try.pinned (OpenSpec.ofChange fnExactIsRedexSpec)

/-- ITS FALSE NEIGHBOUR: 'it returns false'. Refute it at one input. -/
def fnExactIsRedexWrong : ChangeSpec := { name := "fnExactIsRedex", fn := fun _ => fun
  | [d] => { results := [.lit (.bool false)], args := [d] }
  | _ => none }
def FnExactIsRedexWrongFalsely : Prop := fnExactIsRedexRow.holds Try.pinned (OpenSpec.ofChange fnExactIsRedexWrong)

/-- 'laws.FnExactSameTerms': WHATEVER THE INPUT: true; the input reads as it did. -/
def fnExactSameTermsSpec : ChangeSpec := { name := "fnExactSameTerms", fn := fun _ => fun
  | [d1, d2] => { results := [.lit (.bool true)], args := [d1, d2] }
  | _ => none }
def fnExactSameTermsRow : OpenClaim := { program := "ytnokgkhkmnldeaa", sum := "c748a72ef625be4088657c668d93b8b979e3dd4e647cb66c4803fa55c208a877", func := "loop.example/g03111/laws.FnExactSameTerms", spec := "fnExactSameTerms", unfollowed := true, recurses := true, loops := true, apart := false }
def FnExactSameTermsSaid : Prop := fnExactSameTermsRow.holds Try.pinned (OpenSpec.ofChange fnExactSameTermsSpec)

/-- ITS FALSE NEIGHBOUR: 'it returns false'. Refute it at one input. -/
def fnExactSameTermsWrong : ChangeSpec := { name := "fnExactSameTerms", fn := fun _ => fun
  | [d1, d2] => { results := [.lit (.bool false)], args := [d1, d2] }
  | _ => none }
def FnExactSameTermsWrongFalsely : Prop := fnExactSameTermsRow.holds Try.pinned (OpenSpec.ofChange fnExactSameTermsWrong)

/-- 'laws.FnExactIsTerm': WHATEVER THE INPUT: true; the input reads as it did. -/
def fnExactIsTermSpec : ChangeSpec := { name := "fnExactIsTerm", fn := fun _ => fun
  | [d1, d2, d3] => { results := [.lit (.bool true)], args := [d1, d2, d3] }
  | _ => none }
def fnExactIsTermRow : OpenClaim := { program := "ytnokgkhkmnldeaa", sum := "c748a72ef625be4088657c668d93b8b979e3dd4e647cb66c4803fa55c208a877", func := "loop.example/g03111/laws.FnExactIsTerm", spec := "fnExactIsTerm", unfollowed := true, recurses := true, loops := true, apart := false }
def FnExactIsTermSaid : Prop := fnExactIsTermRow.holds Try.pinned (OpenSpec.ofChange fnExactIsTermSpec)

/-- ITS FALSE NEIGHBOUR: 'it returns false'. Refute it at one input. -/
def fnExactIsTermWrong : ChangeSpec := { name := "fnExactIsTerm", fn := fun _ => fun
  | [d1, d2, d3] => { results := [.lit (.bool false)], args := [d1, d2, d3] }
  | _ => none }
def FnExactIsTermWrongFalsely : Prop := fnExactIsTermRow.holds Try.pinned (OpenSpec.ofChange fnExactIsTermWrong)

/- THE SECOND FORM. 'bulk': how many values and letters a reading holds, each counted each time it is reached (what is shared counts as often as it is met; a slice's spare places count too). A statement '..UptoSaid' is the law's where the arguments, and the package variables that the reading takes, are together of bulk at most 1048576: NARROWER than '..Said'. Prove '..Said' where nothing that the law and all that it calls make is longer than what came in: it says more and counts as full. Else prove '..UptoSaid'. A law counts once. -/
mutual
def uptoBulk {H : Type} : DataW H → Nat
  | .lit (.string bytes) => bytes.length + 1
  | .lit _ => 1
  | .nil => 1
  | .ptr d => uptoBulk d + 1
  | .slice elems spare => uptoBulkAll elems + uptoBulkAll spare + 1
  | .agg parts => uptoBulkAll parts + 1
  | .iface _ d => uptoBulk d + 1
  | .map entries => uptoBulkEntries entries + 1
  | .held _ => 1
def uptoBulkAll {H : Type} : List (DataW H) → Nat
  | [] => 0
  | d :: r => uptoBulk d + uptoBulkAll r
def uptoBulkEntries {H : Type} : List (Lit × DataW H) → Nat
  | [] => 0
  | x :: r => uptoBulkEntry x + uptoBulkEntries r
def uptoBulkEntry {H : Type} : Lit × DataW H → Nat
  | (.string bytes, d) => bytes.length + uptoBulk d + 1
  | (_, d) => uptoBulk d + 1
 end
def uptoSmall : (H : Type) → List (DataW H) → Bool := fun _ ds => decide (uptoBulkAll ds ≤ 1048576)
def OpenSpec.upto (s : _root_.Go.ChangeSpec) : _root_.Go.OpenSpec := { _root_.Go.OpenSpec.ofChange s with cond := some uptoSmall }

/-- 'laws.FnExactPartsOfType', WHERE WHAT IT READS IS OF BULK AT MOST 1048576: true; the input reads as it did. -/
def fnExactPartsOfTypeUptoRow : OpenClaim := { program := "ytnokgkhkmnldeaa", sum := "c748a72ef625be4088657c668d93b8b979e3dd4e647cb66c4803fa55c208a877", func := "loop.example/g03111/laws.FnExactPartsOfType", spec := "fnExactPartsOfType", recurses := true, apart := false, narrowed := true }
def FnExactPartsOfTypeUptoSaid : Prop := fnExactPartsOfTypeUptoRow.holds Try.pinned (OpenSpec.upto fnExactPartsOfTypeSpec)

/-- 'laws.FnExactMapType', WHERE WHAT IT READS IS OF BULK AT MOST 1048576: true; the input reads as it did. -/
def fnExactMapTypeUptoRow : OpenClaim := { program := "ytnokgkhkmnldeaa", sum := "c748a72ef625be4088657c668d93b8b979e3dd4e647cb66c4803fa55c208a877", func := "loop.example/g03111/laws.FnExactMapType", spec := "fnExactMapType", recurses := true, apart := false, narrowed := true }
def FnExactMapTypeUptoSaid : Prop := fnExactMapTypeUptoRow.holds Try.pinned (OpenSpec.upto fnExactMapTypeSpec)

/-- 'laws.FnExactIsType', WHERE WHAT IT READS IS OF BULK AT MOST 1048576: true; the input reads as it did. -/
def fnExactIsTypeUptoRow : OpenClaim := { program := "ytnokgkhkmnldeaa", sum := "c748a72ef625be4088657c668d93b8b979e3dd4e647cb66c4803fa55c208a877", func := "loop.example/g03111/laws.FnExactIsType", spec := "fnExactIsType", recurses := true, apart := false, narrowed := true }
def FnExactIsTypeUptoSaid : Prop := fnExactIsTypeUptoRow.holds Try.pinned (OpenSpec.upto fnExactIsTypeSpec)

/-- 'laws.FnExactIsData', WHERE WHAT IT READS IS OF BULK AT MOST 1048576: true; the input reads as it did. -/
def fnExactIsDataUptoRow : OpenClaim := { program := "ytnokgkhkmnldeaa", sum := "c748a72ef625be4088657c668d93b8b979e3dd4e647cb66c4803fa55c208a877", func := "loop.example/g03111/laws.FnExactIsData", spec := "fnExactIsData", unfollowed := true, recurses := true, apart := false, narrowed := true }
def FnExactIsDataUptoSaid : Prop := fnExactIsDataUptoRow.holds Try.pinned (OpenSpec.upto fnExactIsDataSpec)

/-- 'laws.FnExactIsWritten', WHERE WHAT IT READS IS OF BULK AT MOST 1048576: true; the input reads as it did. -/
def fnExactIsWrittenUptoRow : OpenClaim := { program := "ytnokgkhkmnldeaa", sum := "c748a72ef625be4088657c668d93b8b979e3dd4e647cb66c4803fa55c208a877", func := "loop.example/g03111/laws.FnExactIsWritten", spec := "fnExactIsWritten", unfollowed := true, recurses := true, loops := true, apart := false, narrowed := true }
def FnExactIsWrittenUptoSaid : Prop := fnExactIsWrittenUptoRow.holds Try.pinned (OpenSpec.upto fnExactIsWrittenSpec)

/-- 'laws.FnExactSizeOfTerm', WHERE WHAT IT READS IS OF BULK AT MOST 1048576: true; the input reads as it did. -/
def fnExactSizeOfTermUptoRow : OpenClaim := { program := "ytnokgkhkmnldeaa", sum := "c748a72ef625be4088657c668d93b8b979e3dd4e647cb66c4803fa55c208a877", func := "loop.example/g03111/laws.FnExactSizeOfTerm", spec := "fnExactSizeOfTerm", unfollowed := true, recurses := true, loops := true, apart := false, narrowed := true }
def FnExactSizeOfTermUptoSaid : Prop := fnExactSizeOfTermUptoRow.holds Try.pinned (OpenSpec.upto fnExactSizeOfTermSpec)

/-- 'laws.FnExactUsesOf', WHERE WHAT IT READS IS OF BULK AT MOST 1048576: true; the input reads as it did. -/
def fnExactUsesOfUptoRow : OpenClaim := { program := "ytnokgkhkmnldeaa", sum := "c748a72ef625be4088657c668d93b8b979e3dd4e647cb66c4803fa55c208a877", func := "loop.example/g03111/laws.FnExactUsesOf", spec := "fnExactUsesOf", unfollowed := true, recurses := true, loops := true, apart := false, narrowed := true }
def FnExactUsesOfUptoSaid : Prop := fnExactUsesOfUptoRow.holds Try.pinned (OpenSpec.upto fnExactUsesOfSpec)

/-- 'laws.FnExactIsRedex', WHERE WHAT IT READS IS OF BULK AT MOST 1048576: true; the input reads as it did. -/
def fnExactIsRedexUptoRow : OpenClaim := { program := "ytnokgkhkmnldeaa", sum := "c748a72ef625be4088657c668d93b8b979e3dd4e647cb66c4803fa55c208a877", func := "loop.example/g03111/laws.FnExactIsRedex", spec := "fnExactIsRedex", unfollowed := true, recurses := true, loops := true, apart := false, narrowed := true }
def FnExactIsRedexUptoSaid : Prop := fnExactIsRedexUptoRow.holds Try.pinned (OpenSpec.upto fnExactIsRedexSpec)

/-- 'laws.FnExactSameTerms', WHERE WHAT IT READS IS OF BULK AT MOST 1048576: true; the input reads as it did. -/
def fnExactSameTermsUptoRow : OpenClaim := { program := "ytnokgkhkmnldeaa", sum := "c748a72ef625be4088657c668d93b8b979e3dd4e647cb66c4803fa55c208a877", func := "loop.example/g03111/laws.FnExactSameTerms", spec := "fnExactSameTerms", unfollowed := true, recurses := true, loops := true, apart := false, narrowed := true }
def FnExactSameTermsUptoSaid : Prop := fnExactSameTermsUptoRow.holds Try.pinned (OpenSpec.upto fnExactSameTermsSpec)

/-- 'laws.FnExactIsTerm', WHERE WHAT IT READS IS OF BULK AT MOST 1048576: true; the input reads as it did. -/
def fnExactIsTermUptoRow : OpenClaim := { program := "ytnokgkhkmnldeaa", sum := "c748a72ef625be4088657c668d93b8b979e3dd4e647cb66c4803fa55c208a877", func := "loop.example/g03111/laws.FnExactIsTerm", spec := "fnExactIsTerm", unfollowed := true, recurses := true, loops := true, apart := false, narrowed := true }
def FnExactIsTermUptoSaid : Prop := fnExactIsTermUptoRow.holds Try.pinned (OpenSpec.upto fnExactIsTermSpec)

end Rows
end Go.Proofs.Ytnokgkhkmnldeaa
