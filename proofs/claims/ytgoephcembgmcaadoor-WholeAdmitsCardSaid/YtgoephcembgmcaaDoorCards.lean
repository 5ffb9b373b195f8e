/-
  DERIVED. GIVEN WITH THE SEED: THE CARDS: each row of YtgoephcembgmcaaDoorRows.lean that lists a variable, with what it lists TIED to the program's text (the seventh form; the later family's looks); each row that meets fmt, with fmt's text TOLD by the authors' own Lean function (tested against real Go, not proved from fmt's source: count such statements apart). THE CARD IS WHAT COUNTS. Prove the row's statement (the work); the ties are given (YtgoephcembgmcaaDoorTie.lean); close each card by the builder's one call (the guide's Derived/Test/ToyasCard.lean, 'card_holds'). Laid BY PROGRAM, IN A SANDBOX (cutbox-door.mjs). By AI agents, Wed Nov 11 2026. No macro, syntax, notation, axiom, sorry.
-/
import Derived.Test.YtgoephcembgmcaaDoorRows
import GoSem.ClaimSeven
namespace Go.Proofs.YtgoephcembgmcaaDoor
namespace Rows

/-- THE TIED CARD OF 'wharfingertop.WholeSaid'. -/
def wholeSaidCard : Claim7 := { stood := { row := wholeSaidRow, standIns := [], harness := (true, "f5ac34827a4a7ef543d6c70500b536c80b1088aee01bcb72b96a2c4ae270f92d"), looks := true }, kinds := [], alts := [], laidByText := true, laidKinds := [.handle], laidTests := true, laidLooks := .later }
def WholeSaidCardSaid : Prop := Claim7.holds Tryd.pinned (.plain (OpenSpec.ofChange wholeSaidSpec)) wholeSaidCard

/-- THE TIED CARD OF 'wharfingertop.WholeAdmits'. -/
def wholeAdmitsCard : Claim7 := { stood := { row := wholeAdmitsRow, standIns := [], harness := (true, "f5ac34827a4a7ef543d6c70500b536c80b1088aee01bcb72b96a2c4ae270f92d"), looks := true }, kinds := [], alts := [], laidByText := true, laidKinds := [.data, .data, .data, .data, .sentinel, .sentinel, .pinned], laidTests := true, laidLooks := .later }
def WholeAdmitsCardSaid : Prop := Claim7.holds Tryd.pinned (.plain (OpenSpec.ofChange wholeAdmitsSpec)) wholeAdmitsCard

/-- THE SECOND FORM's CARD OF 'wharfingertop.WholeSaid'. -/
def wholeSaidUptoCard : Claim7 := { stood := { row := wholeSaidUptoRow, standIns := [], harness := (true, "f5ac34827a4a7ef543d6c70500b536c80b1088aee01bcb72b96a2c4ae270f92d"), looks := true }, kinds := [], alts := [], laidByText := true, laidKinds := [.handle], laidTests := true, laidLooks := .later }
def WholeSaidUptoCardSaid : Prop := Claim7.holds Tryd.pinned (.plain (OpenSpec.upto wholeSaidSpec)) wholeSaidUptoCard

/-- THE SECOND FORM's CARD OF 'wharfingertop.WholeAdmits'. -/
def wholeAdmitsUptoCard : Claim7 := { stood := { row := wholeAdmitsUptoRow, standIns := [], harness := (true, "f5ac34827a4a7ef543d6c70500b536c80b1088aee01bcb72b96a2c4ae270f92d"), looks := true }, kinds := [], alts := [], laidByText := true, laidKinds := [.data, .data, .data, .data, .sentinel, .sentinel, .pinned], laidTests := true, laidLooks := .later }
def WholeAdmitsUptoCardSaid : Prop := Claim7.holds Tryd.pinned (.plain (OpenSpec.upto wholeAdmitsSpec)) wholeAdmitsUptoCard
end Rows
end Go.Proofs.YtgoephcembgmcaaDoor
