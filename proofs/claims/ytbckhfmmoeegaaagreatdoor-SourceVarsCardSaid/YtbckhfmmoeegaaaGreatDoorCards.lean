/-
  DERIVED. GIVEN WITH THE SEED: THE CARDS: each row of YtbckhfmmoeegaaaGreatDoorRows.lean that lists a variable, with what it lists TIED to the program's text (the seventh form; the later family's looks); each row that meets fmt, with fmt's text TOLD by the authors' own Lean function (tested against real Go, not proved from fmt's source: count such statements apart). THE CARD IS WHAT COUNTS. Prove the row's statement (the work); the ties are given (YtbckhfmmoeegaaaGreatDoorTie.lean); close each card by the builder's one call (the guide's Derived/Test/ToyasCard.lean, 'card_holds'). Laid BY PROGRAM, IN A SANDBOX (cutbox-door.mjs). By AI agents, Wed Nov 11 2026. No macro, syntax, notation, axiom, sorry.
-/
import Derived.Test.YtbckhfmmoeegaaaGreatDoorRows
import GoSem.ClaimSeven
namespace Go.Proofs.YtbckhfmmoeegaaaGreatDoor
namespace Rows

/-- THE TIED CARD OF 'hornbooklaw10.SourceVars'. -/
def sourceVarsCard : Claim7 := { stood := { row := sourceVarsRow, standIns := [], harness := (true, "931559949620ca0f939f43126d6c56a4b529ef1269c124f3d1b41864c0be725b"), looks := true }, kinds := [], alts := [], laidByText := true, laidKinds := [.data, .data, .data, .data, .sentinel, .sentinel, .pinned, .pinned], laidTests := true, laidLooks := .later }
def SourceVarsCardSaid : Prop := Claim7.holds Tryz.pinned (.plain (OpenSpec.ofChange sourceVarsSpec)) sourceVarsCard

/-- THE TIED CARD OF 'hornbooklaw17.BreaksSkips'. -/
def breaksSkipsCard : Claim7 := { stood := { row := breaksSkipsRow, standIns := [], harness := (true, "931559949620ca0f939f43126d6c56a4b529ef1269c124f3d1b41864c0be725b"), looks := true }, kinds := [], alts := [], laidByText := true, laidKinds := [.data, .data, .data, .data, .sentinel, .sentinel, .pinned, .pinned], laidTests := true, laidLooks := .later }
def BreaksSkipsCardSaid : Prop := Claim7.holds Tryz.pinned (.plain (OpenSpec.ofChange breaksSkipsSpec)) breaksSkipsCard

/-- THE SECOND FORM's CARD OF 'hornbooklaw10.SourceVars'. -/
def sourceVarsUptoCard : Claim7 := { stood := { row := sourceVarsUptoRow, standIns := [], harness := (true, "931559949620ca0f939f43126d6c56a4b529ef1269c124f3d1b41864c0be725b"), looks := true }, kinds := [], alts := [], laidByText := true, laidKinds := [.data, .data, .data, .data, .sentinel, .sentinel, .pinned, .pinned], laidTests := true, laidLooks := .later }
def SourceVarsUptoCardSaid : Prop := Claim7.holds Tryz.pinned (.plain (OpenSpec.upto sourceVarsSpec)) sourceVarsUptoCard

/-- THE SECOND FORM's CARD OF 'hornbooklaw17.BreaksSkips'. -/
def breaksSkipsUptoCard : Claim7 := { stood := { row := breaksSkipsUptoRow, standIns := [], harness := (true, "931559949620ca0f939f43126d6c56a4b529ef1269c124f3d1b41864c0be725b"), looks := true }, kinds := [], alts := [], laidByText := true, laidKinds := [.data, .data, .data, .data, .sentinel, .sentinel, .pinned, .pinned], laidTests := true, laidLooks := .later }
def BreaksSkipsUptoCardSaid : Prop := Claim7.holds Tryz.pinned (.plain (OpenSpec.upto breaksSkipsSpec)) breaksSkipsUptoCard
end Rows
end Go.Proofs.YtbckhfmmoeegaaaGreatDoor
