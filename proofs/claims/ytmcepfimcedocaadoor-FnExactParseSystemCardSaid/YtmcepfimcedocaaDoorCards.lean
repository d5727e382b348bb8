/-
  DERIVED. GIVEN WITH THE SEED: THE CARDS: each row of YtmcepfimcedocaaDoorRows.lean that lists a variable, with what it lists TIED to the program's text (the seventh form; the later family's looks); each row that meets fmt, with fmt's text TOLD by the authors' own Lean function (tested against real Go, not proved from fmt's source: count such statements apart). THE CARD IS WHAT COUNTS. Prove the row's statement (the work); the ties are given (YtmcepfimcedocaaDoorTie.lean); close each card by the builder's one call (the guide's Derived/Test/ToyasCard.lean, 'card_holds'). Laid BY PROGRAM, IN A SANDBOX (cutbox-door.mjs). By AI agents, Wed Nov 11 2026. No macro, syntax, notation, axiom, sorry.
-/
import Derived.Test.YtmcepfimcedocaaDoorRows
import GoSem.ClaimSeven
namespace Go.Proofs.YtmcepfimcedocaaDoor
namespace Rows

/-- THE TIED CARD OF 'laws.FnExactFormatSystem'. -/
def fnExactFormatSystemCard : Claim7 := { stood := { row := fnExactFormatSystemRow, standIns := [], harness := (true, "3cdabb00bc852aa692a489fc453945d513e743e7c20b4df41b8dc0f130581eb9"), looks := false }, kinds := [], alts := [], laidByText := true, laidKinds := [.data, .data, .data], laidTests := true, laidLooks := .later }
def FnExactFormatSystemCardSaid : Prop := Claim7.holds Tryd.pinned (.plain (OpenSpec.ofChange fnExactFormatSystemSpec)) fnExactFormatSystemCard

/-- THE TIED CARD OF 'laws.FnExactParseSystem'. -/
def fnExactParseSystemCard : Claim7 := { stood := { row := fnExactParseSystemRow, standIns := [], harness := (true, "3cdabb00bc852aa692a489fc453945d513e743e7c20b4df41b8dc0f130581eb9"), looks := false }, kinds := [], alts := [], laidByText := true, laidKinds := [.data, .data, .data], laidTests := true, laidLooks := .later }
def FnExactParseSystemCardSaid : Prop := Claim7.holds Tryd.pinned (.plain (OpenSpec.ofChange fnExactParseSystemSpec)) fnExactParseSystemCard

/-- THE SECOND FORM's CARD OF 'laws.FnExactFormatSystem'. -/
def fnExactFormatSystemUptoCard : Claim7 := { stood := { row := fnExactFormatSystemUptoRow, standIns := [], harness := (true, "3cdabb00bc852aa692a489fc453945d513e743e7c20b4df41b8dc0f130581eb9"), looks := false }, kinds := [], alts := [], laidByText := true, laidKinds := [.data, .data, .data], laidTests := true, laidLooks := .later }
def FnExactFormatSystemUptoCardSaid : Prop := Claim7.holds Tryd.pinned (.plain (OpenSpec.upto fnExactFormatSystemSpec)) fnExactFormatSystemUptoCard

/-- THE SECOND FORM's CARD OF 'laws.FnExactParseSystem'. -/
def fnExactParseSystemUptoCard : Claim7 := { stood := { row := fnExactParseSystemUptoRow, standIns := [], harness := (true, "3cdabb00bc852aa692a489fc453945d513e743e7c20b4df41b8dc0f130581eb9"), looks := false }, kinds := [], alts := [], laidByText := true, laidKinds := [.data, .data, .data], laidTests := true, laidLooks := .later }
def FnExactParseSystemUptoCardSaid : Prop := Claim7.holds Tryd.pinned (.plain (OpenSpec.upto fnExactParseSystemSpec)) fnExactParseSystemUptoCard
end Rows
end Go.Proofs.YtmcepfimcedocaaDoor
