/-
  DERIVED. GIVEN WITH THE SEED: THE CARDS: each row of YtkmpehlhplhnhaaGreatDoorRows.lean that lists a variable, with what it lists TIED to the program's text (the seventh form; the later family's looks); each row that meets fmt, with fmt's text TOLD by the authors' own Lean function (tested against real Go, not proved from fmt's source: count such statements apart). THE CARD IS WHAT COUNTS. Prove the row's statement (the work); the ties are given (YtkmpehlhplhnhaaGreatDoorTie.lean); close each card by the builder's one call (the guide's Derived/Test/ToyasCard.lean, 'card_holds'). Laid BY PROGRAM, IN A SANDBOX (cutbox-door.mjs). By AI agents, Wed Nov 11 2026. No macro, syntax, notation, axiom, sorry.
-/
import Derived.Test.YtkmpehlhplhnhaaGreatDoorRows
import GoSem.ClaimSeven
namespace Go.Proofs.YtkmpehlhplhnhaaGreatDoor
namespace Rows

/-- THE TIED CARD OF 'hornbooklaw17.BreaksBare'. -/
def breaksBareCard : Claim7 := { stood := { row := breaksBareRow, standIns := [], harness := (true, "12ef3060d12ca1782797be079326d6db910240f0b5c218e465cb80ff89f0a06e"), looks := true }, kinds := [], alts := [], laidByText := true, laidKinds := [.data, .data, .data, .data, .sentinel, .sentinel, .pinned, .pinned], laidTests := true, laidLooks := .later }
def BreaksBareCardSaid : Prop := Claim7.holds Tryz.pinned (.plain (OpenSpec.ofChange breaksBareSpec)) breaksBareCard

/-- THE SECOND FORM's CARD OF 'hornbooklaw17.BreaksBare'. -/
def breaksBareUptoCard : Claim7 := { stood := { row := breaksBareUptoRow, standIns := [], harness := (true, "12ef3060d12ca1782797be079326d6db910240f0b5c218e465cb80ff89f0a06e"), looks := true }, kinds := [], alts := [], laidByText := true, laidKinds := [.data, .data, .data, .data, .sentinel, .sentinel, .pinned, .pinned], laidTests := true, laidLooks := .later }
def BreaksBareUptoCardSaid : Prop := Claim7.holds Tryz.pinned (.plain (OpenSpec.upto breaksBareSpec)) breaksBareUptoCard
end Rows
end Go.Proofs.YtkmpehlhplhnhaaGreatDoor
