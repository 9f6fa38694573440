/-
  DERIVED. GIVEN WITH THE SEED: THE CARDS: each row of YtmjcgaaeejpkgaaGreatDoorRows.lean that lists a variable, with what it lists TIED to the program's text (the seventh form; the later family's looks); each row that meets fmt, with fmt's text TOLD by the authors' own Lean function (tested against real Go, not proved from fmt's source: count such statements apart). THE CARD IS WHAT COUNTS. Prove the row's statement (the work); the ties are given (YtmjcgaaeejpkgaaGreatDoorTie.lean); close each card by the builder's one call (the guide's Derived/Test/ToyasCard.lean, 'card_holds'). Laid BY PROGRAM, IN A SANDBOX (cutbox-door.mjs). By AI agents, Wed Nov 11 2026. No macro, syntax, notation, axiom, sorry.
-/
import Derived.Test.YtmjcgaaeejpkgaaGreatDoorRows
import GoSem.ClaimSeven
namespace Go.Proofs.YtmjcgaaeejpkgaaGreatDoor
namespace Rows

/-- THE TIED CARD OF 'hornbooklaw17.BreaksWords'. -/
def breaksWordsCard : Claim7 := { stood := { row := breaksWordsRow, standIns := [], harness := (true, "32976a9e80f3bf378a0cea27ecefa5494142a6a4514794f8d830c152d790c2dd"), looks := true }, kinds := [], alts := [], laidByText := true, laidKinds := [.data, .data, .data, .data, .sentinel, .sentinel, .pinned, .pinned], laidTests := true, laidLooks := .later }
def BreaksWordsCardSaid : Prop := Claim7.holds Tryz.pinned (.plain (OpenSpec.ofChange breaksWordsSpec)) breaksWordsCard

/-- THE TIED CARD OF 'hornbooklaw17.BreaksCut'. -/
def breaksCutCard : Claim7 := { stood := { row := breaksCutRow, standIns := [], harness := (true, "32976a9e80f3bf378a0cea27ecefa5494142a6a4514794f8d830c152d790c2dd"), looks := true }, kinds := [], alts := [], laidByText := true, laidKinds := [.data, .data, .data, .data, .sentinel, .sentinel, .pinned, .pinned], laidTests := true, laidLooks := .later }
def BreaksCutCardSaid : Prop := Claim7.holds Tryz.pinned (.plain (OpenSpec.ofChange breaksCutSpec)) breaksCutCard

/-- THE SECOND FORM's CARD OF 'hornbooklaw17.BreaksWords'. -/
def breaksWordsUptoCard : Claim7 := { stood := { row := breaksWordsUptoRow, standIns := [], harness := (true, "32976a9e80f3bf378a0cea27ecefa5494142a6a4514794f8d830c152d790c2dd"), looks := true }, kinds := [], alts := [], laidByText := true, laidKinds := [.data, .data, .data, .data, .sentinel, .sentinel, .pinned, .pinned], laidTests := true, laidLooks := .later }
def BreaksWordsUptoCardSaid : Prop := Claim7.holds Tryz.pinned (.plain (OpenSpec.upto breaksWordsSpec)) breaksWordsUptoCard

/-- THE SECOND FORM's CARD OF 'hornbooklaw17.BreaksCut'. -/
def breaksCutUptoCard : Claim7 := { stood := { row := breaksCutUptoRow, standIns := [], harness := (true, "32976a9e80f3bf378a0cea27ecefa5494142a6a4514794f8d830c152d790c2dd"), looks := true }, kinds := [], alts := [], laidByText := true, laidKinds := [.data, .data, .data, .data, .sentinel, .sentinel, .pinned, .pinned], laidTests := true, laidLooks := .later }
def BreaksCutUptoCardSaid : Prop := Claim7.holds Tryz.pinned (.plain (OpenSpec.upto breaksCutSpec)) breaksCutUptoCard
end Rows
end Go.Proofs.YtmjcgaaeejpkgaaGreatDoor
