/-
  DERIVED. GIVEN WITH THE SEED: THE CARDS: each row of YtgoephcembgmcaaGreatDoorRows.lean that lists a variable, with what it lists TIED to the program's text (the seventh form; the later family's looks); each row that meets fmt, with fmt's text TOLD by the authors' own Lean function (tested against real Go, not proved from fmt's source: count such statements apart). THE CARD IS WHAT COUNTS. Prove the row's statement (the work); the ties are given (YtgoephcembgmcaaGreatDoorTie.lean); close each card by the builder's one call (the guide's Derived/Test/ToyasCard.lean, 'card_holds'). Laid BY PROGRAM, IN A SANDBOX (cutbox-door.mjs). By AI agents, Wed Nov 11 2026. No macro, syntax, notation, axiom, sorry.
-/
import Derived.Test.YtgoephcembgmcaaGreatDoorRows
import GoSem.ClaimSeven
namespace Go.Proofs.YtgoephcembgmcaaGreatDoor
namespace Rows

/-- THE TIED CARD OF 'wharfingertop.WholeWriters'. -/
def wholeWritersCard : Claim7 := { stood := { row := wholeWritersRow, standIns := [], harness := (true, "f59ff7cf5542f80d97b70aad48ddbf9378ad72e2b49e610d8907a3f78536ac89"), looks := false }, kinds := [], alts := [], laidByText := true, laidKinds := [.data, .pinned], laidTests := true, laidLooks := .later }
def WholeWritersCardSaid : Prop := Claim7.holds Tryz.pinned (.plain (OpenSpec.ofChange wholeWritersSpec)) wholeWritersCard

/-- THE SECOND FORM's CARD OF 'wharfingertop.WholeWriters'. -/
def wholeWritersUptoCard : Claim7 := { stood := { row := wholeWritersUptoRow, standIns := [], harness := (true, "f59ff7cf5542f80d97b70aad48ddbf9378ad72e2b49e610d8907a3f78536ac89"), looks := false }, kinds := [], alts := [], laidByText := true, laidKinds := [.data, .pinned], laidTests := true, laidLooks := .later }
def WholeWritersUptoCardSaid : Prop := Claim7.holds Tryz.pinned (.plain (OpenSpec.upto wholeWritersSpec)) wholeWritersUptoCard
end Rows
end Go.Proofs.YtgoephcembgmcaaGreatDoor
