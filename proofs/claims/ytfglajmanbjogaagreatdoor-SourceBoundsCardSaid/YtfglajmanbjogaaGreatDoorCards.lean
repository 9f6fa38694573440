/-
  DERIVED. GIVEN WITH THE SEED: THE CARDS: each row of YtfglajmanbjogaaGreatDoorRows.lean that lists a variable, with what it lists TIED to the program's text (the seventh form; the later family's looks); each row that meets fmt, with fmt's text TOLD by the authors' own Lean function (tested against real Go, not proved from fmt's source: count such statements apart). THE CARD IS WHAT COUNTS. Prove the row's statement (the work); the ties are given (YtfglajmanbjogaaGreatDoorTie.lean); close each card by the builder's one call (the guide's Derived/Test/ToyasCard.lean, 'card_holds'). Laid BY PROGRAM, IN A SANDBOX (cutbox-door.mjs). By AI agents, Wed Nov 11 2026. No macro, syntax, notation, axiom, sorry.
-/
import Derived.Test.YtfglajmanbjogaaGreatDoorRows
import GoSem.ClaimSeven
namespace Go.Proofs.YtfglajmanbjogaaGreatDoor
namespace Rows

/-- THE TIED CARD OF 'hornbooklaw10.SourceBounds'. -/
def sourceBoundsCard : Claim7 := { stood := { row := sourceBoundsRow, standIns := [], harness := (true, "a306ec00ee9215f53d2b236813d5db81f24cb87d6843c07f52f688db2fe943c9"), looks := true }, kinds := [], alts := [], laidByText := true, laidKinds := [.data, .data, .data, .data, .sentinel, .sentinel, .pinned, .pinned], laidTests := true, laidLooks := .later }
def SourceBoundsCardSaid : Prop := Claim7.holds Tryz.pinned (.plain (OpenSpec.ofChange sourceBoundsSpec)) sourceBoundsCard

/-- THE TIED CARD OF 'hornbooklaw10.SourceTwice'. -/
def sourceTwiceCard : Claim7 := { stood := { row := sourceTwiceRow, standIns := [], harness := (true, "a306ec00ee9215f53d2b236813d5db81f24cb87d6843c07f52f688db2fe943c9"), looks := true }, kinds := [], alts := [], laidByText := true, laidKinds := [.data, .data, .data, .data, .sentinel, .sentinel, .pinned, .pinned], laidTests := true, laidLooks := .later }
def SourceTwiceCardSaid : Prop := Claim7.holds Tryz.pinned (.plain (OpenSpec.ofChange sourceTwiceSpec)) sourceTwiceCard

/-- THE TIED CARD OF 'hornbooklaw12.MergeCounts'. -/
def mergeCountsCard : Claim7 := { stood := { row := mergeCountsRow, standIns := [], harness := (true, "a306ec00ee9215f53d2b236813d5db81f24cb87d6843c07f52f688db2fe943c9"), looks := true }, kinds := [], alts := [], laidByText := true, laidKinds := [.data, .data, .data, .data, .sentinel, .sentinel, .pinned, .pinned], laidTests := true, laidLooks := .later }
def MergeCountsCardSaid : Prop := Claim7.holds Tryz.pinned (.plain (OpenSpec.ofChange mergeCountsSpec)) mergeCountsCard

/-- THE TIED CARD OF 'hornbooklaw12.MergeWords'. -/
def mergeWordsCard : Claim7 := { stood := { row := mergeWordsRow, standIns := [], harness := (true, "a306ec00ee9215f53d2b236813d5db81f24cb87d6843c07f52f688db2fe943c9"), looks := true }, kinds := [], alts := [], laidByText := true, laidKinds := [.data, .data, .data, .data, .sentinel, .sentinel, .pinned, .pinned], laidTests := true, laidLooks := .later }
def MergeWordsCardSaid : Prop := Claim7.holds Tryz.pinned (.plain (OpenSpec.ofChange mergeWordsSpec)) mergeWordsCard

/-- THE TIED CARD OF 'hornbooklaw10.SourceVars'. -/
def sourceVarsCard : Claim7 := { stood := { row := sourceVarsRow, standIns := [], harness := (true, "a306ec00ee9215f53d2b236813d5db81f24cb87d6843c07f52f688db2fe943c9"), looks := true }, kinds := [], alts := [], laidByText := true, laidKinds := [.data, .data, .data, .data, .sentinel, .sentinel, .pinned, .pinned], laidTests := true, laidLooks := .later }
def SourceVarsCardSaid : Prop := Claim7.holds Tryz.pinned (.plain (OpenSpec.ofChange sourceVarsSpec)) sourceVarsCard

/-- THE SECOND FORM's CARD OF 'hornbooklaw10.SourceBounds'. -/
def sourceBoundsUptoCard : Claim7 := { stood := { row := sourceBoundsUptoRow, standIns := [], harness := (true, "a306ec00ee9215f53d2b236813d5db81f24cb87d6843c07f52f688db2fe943c9"), looks := true }, kinds := [], alts := [], laidByText := true, laidKinds := [.data, .data, .data, .data, .sentinel, .sentinel, .pinned, .pinned], laidTests := true, laidLooks := .later }
def SourceBoundsUptoCardSaid : Prop := Claim7.holds Tryz.pinned (.plain (OpenSpec.upto sourceBoundsSpec)) sourceBoundsUptoCard

/-- THE SECOND FORM's CARD OF 'hornbooklaw10.SourceTwice'. -/
def sourceTwiceUptoCard : Claim7 := { stood := { row := sourceTwiceUptoRow, standIns := [], harness := (true, "a306ec00ee9215f53d2b236813d5db81f24cb87d6843c07f52f688db2fe943c9"), looks := true }, kinds := [], alts := [], laidByText := true, laidKinds := [.data, .data, .data, .data, .sentinel, .sentinel, .pinned, .pinned], laidTests := true, laidLooks := .later }
def SourceTwiceUptoCardSaid : Prop := Claim7.holds Tryz.pinned (.plain (OpenSpec.upto sourceTwiceSpec)) sourceTwiceUptoCard

/-- THE SECOND FORM's CARD OF 'hornbooklaw12.MergeCounts'. -/
def mergeCountsUptoCard : Claim7 := { stood := { row := mergeCountsUptoRow, standIns := [], harness := (true, "a306ec00ee9215f53d2b236813d5db81f24cb87d6843c07f52f688db2fe943c9"), looks := true }, kinds := [], alts := [], laidByText := true, laidKinds := [.data, .data, .data, .data, .sentinel, .sentinel, .pinned, .pinned], laidTests := true, laidLooks := .later }
def MergeCountsUptoCardSaid : Prop := Claim7.holds Tryz.pinned (.plain (OpenSpec.upto mergeCountsSpec)) mergeCountsUptoCard

/-- THE SECOND FORM's CARD OF 'hornbooklaw12.MergeWords'. -/
def mergeWordsUptoCard : Claim7 := { stood := { row := mergeWordsUptoRow, standIns := [], harness := (true, "a306ec00ee9215f53d2b236813d5db81f24cb87d6843c07f52f688db2fe943c9"), looks := true }, kinds := [], alts := [], laidByText := true, laidKinds := [.data, .data, .data, .data, .sentinel, .sentinel, .pinned, .pinned], laidTests := true, laidLooks := .later }
def MergeWordsUptoCardSaid : Prop := Claim7.holds Tryz.pinned (.plain (OpenSpec.upto mergeWordsSpec)) mergeWordsUptoCard

/-- THE SECOND FORM's CARD OF 'hornbooklaw10.SourceVars'. -/
def sourceVarsUptoCard : Claim7 := { stood := { row := sourceVarsUptoRow, standIns := [], harness := (true, "a306ec00ee9215f53d2b236813d5db81f24cb87d6843c07f52f688db2fe943c9"), looks := true }, kinds := [], alts := [], laidByText := true, laidKinds := [.data, .data, .data, .data, .sentinel, .sentinel, .pinned, .pinned], laidTests := true, laidLooks := .later }
def SourceVarsUptoCardSaid : Prop := Claim7.holds Tryz.pinned (.plain (OpenSpec.upto sourceVarsSpec)) sourceVarsUptoCard
end Rows
end Go.Proofs.YtfglajmanbjogaaGreatDoor
