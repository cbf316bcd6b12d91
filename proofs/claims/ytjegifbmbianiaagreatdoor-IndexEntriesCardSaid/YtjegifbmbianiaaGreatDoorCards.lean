/-
  DERIVED. GIVEN WITH THE SEED: THE CARDS: each row of YtjegifbmbianiaaGreatDoorRows.lean that lists a variable, with what it lists TIED to the program's text (the seventh form; the later family's looks); each row that meets fmt, with fmt's text TOLD by the authors' own Lean function (tested against real Go, not proved from fmt's source: count such statements apart). THE CARD IS WHAT COUNTS. Prove the row's statement (the work); the ties are given (YtjegifbmbianiaaGreatDoorTie.lean); close each card by the builder's one call (the guide's Derived/Test/ToyasCard.lean, 'card_holds'). Laid BY PROGRAM, IN A SANDBOX (cutbox-door.mjs). By AI agents, Wed Nov 11 2026. No macro, syntax, notation, axiom, sorry.
-/
import Derived.Test.YtjegifbmbianiaaGreatDoorRows
import GoSem.ClaimSeven
namespace Go.Proofs.YtjegifbmbianiaaGreatDoor
namespace Rows

/-- THE TIED CARD OF 'bedrocklaw27.ReachShapes'. -/
def reachShapesCard : Claim7 := { stood := { row := reachShapesRow, standIns := [], harness := (true, "b8c559b012efed3466b765f85f03c5343f17a1fdd58ad3dbc17c8907605dfc77"), looks := true }, kinds := [], alts := [], laidByText := true, laidKinds := [.data, .data], laidTests := true, laidLooks := .later }
def ReachShapesCardSaid : Prop := Claim7.holds Tryz.pinned (.plain (OpenSpec.ofChange reachShapesSpec)) reachShapesCard

/-- THE TIED CARD OF 'bedrocklaw27.ReachStandard'. -/
def reachStandardCard : Claim7 := { stood := { row := reachStandardRow, standIns := [], harness := (true, "b8c559b012efed3466b765f85f03c5343f17a1fdd58ad3dbc17c8907605dfc77"), looks := true }, kinds := [], alts := [], laidByText := true, laidKinds := [.data, .data], laidTests := true, laidLooks := .later }
def ReachStandardCardSaid : Prop := Claim7.holds Tryz.pinned (.plain (OpenSpec.ofChange reachStandardSpec)) reachStandardCard

/-- THE TIED CARD OF 'bedrocklaw41.IndexEntries'. -/
def indexEntriesCard : Claim7 := { stood := { row := indexEntriesRow, standIns := [], harness := (true, "b8c559b012efed3466b765f85f03c5343f17a1fdd58ad3dbc17c8907605dfc77"), looks := true }, kinds := [], alts := [], laidByText := true, laidKinds := [.data, .data, .data, .pinned], laidTests := true, laidLooks := .later }
def IndexEntriesCardSaid : Prop := Claim7.holds Tryz.pinned (.plain (OpenSpec.ofChange indexEntriesSpec)) indexEntriesCard

/-- THE TIED CARD OF 'bedrocklaw41.IndexRanges'. -/
def indexRangesCard : Claim7 := { stood := { row := indexRangesRow, standIns := [], harness := (true, "b8c559b012efed3466b765f85f03c5343f17a1fdd58ad3dbc17c8907605dfc77"), looks := true }, kinds := [], alts := [], laidByText := true, laidKinds := [.data, .data, .data, .pinned], laidTests := true, laidLooks := .later }
def IndexRangesCardSaid : Prop := Claim7.holds Tryz.pinned (.plain (OpenSpec.ofChange indexRangesSpec)) indexRangesCard

/-- THE TIED CARD OF 'bedrocklaw41.IndexHolds'. -/
def indexHoldsCard : Claim7 := { stood := { row := indexHoldsRow, standIns := [], harness := (true, "b8c559b012efed3466b765f85f03c5343f17a1fdd58ad3dbc17c8907605dfc77"), looks := true }, kinds := [], alts := [], laidByText := true, laidKinds := [.data, .data, .data, .pinned], laidTests := true, laidLooks := .later }
def IndexHoldsCardSaid : Prop := Claim7.holds Tryz.pinned (.plain (OpenSpec.ofChange indexHoldsSpec)) indexHoldsCard

/-- THE TIED CARD OF 'bedrocklaw35.CursorTakes'. -/
def cursorTakesCard : Claim7 := { stood := { row := cursorTakesRow, standIns := [], harness := (true, "b8c559b012efed3466b765f85f03c5343f17a1fdd58ad3dbc17c8907605dfc77"), looks := true }, kinds := [], alts := [], laidByText := true, laidKinds := [.data, .data], laidTests := true, laidLooks := .later }
def CursorTakesCardSaid : Prop := Claim7.holds Tryz.pinned (.plain (OpenSpec.ofChange cursorTakesSpec)) cursorTakesCard

/-- THE SECOND FORM's CARD OF 'bedrocklaw27.ReachShapes'. -/
def reachShapesUptoCard : Claim7 := { stood := { row := reachShapesUptoRow, standIns := [], harness := (true, "b8c559b012efed3466b765f85f03c5343f17a1fdd58ad3dbc17c8907605dfc77"), looks := true }, kinds := [], alts := [], laidByText := true, laidKinds := [.data, .data], laidTests := true, laidLooks := .later }
def ReachShapesUptoCardSaid : Prop := Claim7.holds Tryz.pinned (.plain (OpenSpec.upto reachShapesSpec)) reachShapesUptoCard

/-- THE SECOND FORM's CARD OF 'bedrocklaw27.ReachStandard'. -/
def reachStandardUptoCard : Claim7 := { stood := { row := reachStandardUptoRow, standIns := [], harness := (true, "b8c559b012efed3466b765f85f03c5343f17a1fdd58ad3dbc17c8907605dfc77"), looks := true }, kinds := [], alts := [], laidByText := true, laidKinds := [.data, .data], laidTests := true, laidLooks := .later }
def ReachStandardUptoCardSaid : Prop := Claim7.holds Tryz.pinned (.plain (OpenSpec.upto reachStandardSpec)) reachStandardUptoCard

/-- THE SECOND FORM's CARD OF 'bedrocklaw41.IndexEntries'. -/
def indexEntriesUptoCard : Claim7 := { stood := { row := indexEntriesUptoRow, standIns := [], harness := (true, "b8c559b012efed3466b765f85f03c5343f17a1fdd58ad3dbc17c8907605dfc77"), looks := true }, kinds := [], alts := [], laidByText := true, laidKinds := [.data, .data, .data, .pinned], laidTests := true, laidLooks := .later }
def IndexEntriesUptoCardSaid : Prop := Claim7.holds Tryz.pinned (.plain (OpenSpec.upto indexEntriesSpec)) indexEntriesUptoCard

/-- THE SECOND FORM's CARD OF 'bedrocklaw41.IndexRanges'. -/
def indexRangesUptoCard : Claim7 := { stood := { row := indexRangesUptoRow, standIns := [], harness := (true, "b8c559b012efed3466b765f85f03c5343f17a1fdd58ad3dbc17c8907605dfc77"), looks := true }, kinds := [], alts := [], laidByText := true, laidKinds := [.data, .data, .data, .pinned], laidTests := true, laidLooks := .later }
def IndexRangesUptoCardSaid : Prop := Claim7.holds Tryz.pinned (.plain (OpenSpec.upto indexRangesSpec)) indexRangesUptoCard

/-- THE SECOND FORM's CARD OF 'bedrocklaw41.IndexHolds'. -/
def indexHoldsUptoCard : Claim7 := { stood := { row := indexHoldsUptoRow, standIns := [], harness := (true, "b8c559b012efed3466b765f85f03c5343f17a1fdd58ad3dbc17c8907605dfc77"), looks := true }, kinds := [], alts := [], laidByText := true, laidKinds := [.data, .data, .data, .pinned], laidTests := true, laidLooks := .later }
def IndexHoldsUptoCardSaid : Prop := Claim7.holds Tryz.pinned (.plain (OpenSpec.upto indexHoldsSpec)) indexHoldsUptoCard

/-- THE SECOND FORM's CARD OF 'bedrocklaw35.CursorTakes'. -/
def cursorTakesUptoCard : Claim7 := { stood := { row := cursorTakesUptoRow, standIns := [], harness := (true, "b8c559b012efed3466b765f85f03c5343f17a1fdd58ad3dbc17c8907605dfc77"), looks := true }, kinds := [], alts := [], laidByText := true, laidKinds := [.data, .data], laidTests := true, laidLooks := .later }
def CursorTakesUptoCardSaid : Prop := Claim7.holds Tryz.pinned (.plain (OpenSpec.upto cursorTakesSpec)) cursorTakesUptoCard
end Rows
end Go.Proofs.YtjegifbmbianiaaGreatDoor
