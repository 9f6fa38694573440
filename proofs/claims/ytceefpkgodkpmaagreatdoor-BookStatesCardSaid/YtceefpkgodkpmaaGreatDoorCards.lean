/-
  DERIVED. GIVEN WITH THE SEED: THE CARDS: each row of YtceefpkgodkpmaaGreatDoorRows.lean that lists a variable, with what it lists TIED to the program's text (the seventh form; the later family's looks); each row that meets fmt, with fmt's text TOLD by the authors' own Lean function (tested against real Go, not proved from fmt's source: count such statements apart). THE CARD IS WHAT COUNTS. Prove the row's statement (the work); the ties are given (YtceefpkgodkpmaaGreatDoorTie.lean); close each card by the builder's one call (the guide's Derived/Test/ToyasCard.lean, 'card_holds'). Laid BY PROGRAM, IN A SANDBOX (cutbox-door.mjs). By AI agents, Wed Nov 11 2026. No macro, syntax, notation, axiom, sorry.
-/
import Derived.Test.YtceefpkgodkpmaaGreatDoorRows
import GoSem.ClaimSeven
namespace Go.Proofs.YtceefpkgodkpmaaGreatDoor
namespace Rows

/-- THE TIED CARD OF 'hornbooklaw18.BookStates'. -/
def bookStatesCard : Claim7 := { stood := { row := bookStatesRow, standIns := [], harness := (true, "b3170d757955b553fcbcde90a7fa0a8bf7e4784f4cb3ab6bc90dd4a224282537"), looks := true }, kinds := [], alts := [], laidByText := true, laidKinds := [.data, .data, .data, .data, .sentinel, .sentinel, .pinned, .pinned], laidTests := true, laidLooks := .later }
def BookStatesCardSaid : Prop := Claim7.holds Tryz.pinned (.plain (OpenSpec.ofChange bookStatesSpec)) bookStatesCard

/-- THE SECOND FORM's CARD OF 'hornbooklaw18.BookStates'. -/
def bookStatesUptoCard : Claim7 := { stood := { row := bookStatesUptoRow, standIns := [], harness := (true, "b3170d757955b553fcbcde90a7fa0a8bf7e4784f4cb3ab6bc90dd4a224282537"), looks := true }, kinds := [], alts := [], laidByText := true, laidKinds := [.data, .data, .data, .data, .sentinel, .sentinel, .pinned, .pinned], laidTests := true, laidLooks := .later }
def BookStatesUptoCardSaid : Prop := Claim7.holds Tryz.pinned (.plain (OpenSpec.upto bookStatesSpec)) bookStatesUptoCard
end Rows
end Go.Proofs.YtceefpkgodkpmaaGreatDoor
