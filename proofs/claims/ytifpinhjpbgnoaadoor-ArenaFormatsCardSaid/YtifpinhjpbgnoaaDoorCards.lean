/-
  DERIVED. GIVEN WITH THE SEED: THE CARDS: each row of YtifpinhjpbgnoaaDoorRows.lean that lists a variable, with what it lists TIED to the program's text (the seventh form; the later family's looks); each row that meets fmt, with fmt's text TOLD by the authors' own Lean function (tested against real Go, not proved from fmt's source: count such statements apart). THE CARD IS WHAT COUNTS. Prove the row's statement (the work); the ties are given (YtifpinhjpbgnoaaDoorTie.lean); close each card by the builder's one call (the guide's Derived/Test/ToyasCard.lean, 'card_holds'). Laid BY PROGRAM, IN A SANDBOX (cutbox-door.mjs). By AI agents, Wed Nov 11 2026. No macro, syntax, notation, axiom, sorry.
-/
import Derived.Test.YtifpinhjpbgnoaaDoorRows
import GoSem.ClaimSeven
namespace Go.Proofs.YtifpinhjpbgnoaaDoor
namespace Rows

/-- THE TIED CARD OF 'bedrocklaw22.ArenaFormats'. -/
def arenaFormatsCard : Claim7 := { stood := { row := arenaFormatsRow, standIns := [], harness := (true, "4ba1772eb677381d3517c2e3771cbc3f79f97e5a9daa5936f9cf16820fc73847"), looks := false }, kinds := [], alts := [], laidByText := true, laidKinds := [.data, .data], laidTests := true, laidLooks := .later }
def ArenaFormatsCardSaid : Prop := Claim7.holds Tryd.pinned (.plain (OpenSpec.ofChange arenaFormatsSpec)) arenaFormatsCard

/-- THE TIED CARD OF 'bedrocklaw22.ArenaErrs'. -/
def arenaErrsCard : Claim7 := { stood := { row := arenaErrsRow, standIns := [], harness := (true, "4ba1772eb677381d3517c2e3771cbc3f79f97e5a9daa5936f9cf16820fc73847"), looks := false }, kinds := [], alts := [], laidByText := true, laidKinds := [.data, .data], laidTests := true, laidLooks := .later }
def ArenaErrsCardSaid : Prop := Claim7.holds Tryd.pinned (.plain (OpenSpec.ofChange arenaErrsSpec)) arenaErrsCard

/-- THE SECOND FORM's CARD OF 'bedrocklaw22.ArenaFormats'. -/
def arenaFormatsUptoCard : Claim7 := { stood := { row := arenaFormatsUptoRow, standIns := [], harness := (true, "4ba1772eb677381d3517c2e3771cbc3f79f97e5a9daa5936f9cf16820fc73847"), looks := false }, kinds := [], alts := [], laidByText := true, laidKinds := [.data, .data], laidTests := true, laidLooks := .later }
def ArenaFormatsUptoCardSaid : Prop := Claim7.holds Tryd.pinned (.plain (OpenSpec.upto arenaFormatsSpec)) arenaFormatsUptoCard

/-- THE SECOND FORM's CARD OF 'bedrocklaw22.ArenaErrs'. -/
def arenaErrsUptoCard : Claim7 := { stood := { row := arenaErrsUptoRow, standIns := [], harness := (true, "4ba1772eb677381d3517c2e3771cbc3f79f97e5a9daa5936f9cf16820fc73847"), looks := false }, kinds := [], alts := [], laidByText := true, laidKinds := [.data, .data], laidTests := true, laidLooks := .later }
def ArenaErrsUptoCardSaid : Prop := Claim7.holds Tryd.pinned (.plain (OpenSpec.upto arenaErrsSpec)) arenaErrsUptoCard
end Rows
end Go.Proofs.YtifpinhjpbgnoaaDoor
