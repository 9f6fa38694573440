/-
  DERIVED. GIVEN WITH THE SEED: THE CARDS: each row of YtmcpmmololjjcaaGreatDoorRows.lean that lists a variable, with what it lists TIED to the program's text (the seventh form; the later family's looks); each row that meets fmt, with fmt's text TOLD by the authors' own Lean function (tested against real Go, not proved from fmt's source: count such statements apart). THE CARD IS WHAT COUNTS. Prove the row's statement (the work); the ties are given (YtmcpmmololjjcaaGreatDoorTie.lean); close each card by the builder's one call (the guide's Derived/Test/ToyasCard.lean, 'card_holds'). Laid BY PROGRAM, IN A SANDBOX (cutbox-door.mjs). By AI agents, Wed Nov 11 2026. No macro, syntax, notation, axiom, sorry.
-/
import Derived.Test.YtmcpmmololjjcaaGreatDoorRows
import GoSem.ClaimSeven
namespace Go.Proofs.YtmcpmmololjjcaaGreatDoor
namespace Rows

/-- THE TIED CARD OF 'hornbooklaw26.PinsMany'. -/
def pinsManyCard : Claim7 := { stood := { row := pinsManyRow, standIns := [], harness := (true, "716827332d91f4885d4a542d166ca32291368a682b72edfbe8db7644a084a2e9"), looks := true }, kinds := [], alts := [], laidByText := true, laidKinds := [.data, .data, .data, .data, .sentinel, .sentinel, .pinned, .pinned], laidTests := true, laidLooks := .later }
def PinsManyCardSaid : Prop := Claim7.holds Tryz.pinned (.plain (OpenSpec.ofChange pinsManySpec)) pinsManyCard

/-- THE SECOND FORM's CARD OF 'hornbooklaw26.PinsMany'. -/
def pinsManyUptoCard : Claim7 := { stood := { row := pinsManyUptoRow, standIns := [], harness := (true, "716827332d91f4885d4a542d166ca32291368a682b72edfbe8db7644a084a2e9"), looks := true }, kinds := [], alts := [], laidByText := true, laidKinds := [.data, .data, .data, .data, .sentinel, .sentinel, .pinned, .pinned], laidTests := true, laidLooks := .later }
def PinsManyUptoCardSaid : Prop := Claim7.holds Tryz.pinned (.plain (OpenSpec.upto pinsManySpec)) pinsManyUptoCard
end Rows
end Go.Proofs.YtmcpmmololjjcaaGreatDoor
