/-
  DERIVED. GIVEN WITH THE SEED: THE CARDS: each row of YtifpinhjpbgnoaaGreatDoorRows.lean that lists a variable, with what it lists TIED to the program's text (the seventh form; the later family's looks); each row that meets fmt, with fmt's text TOLD by the authors' own Lean function (tested against real Go, not proved from fmt's source: count such statements apart). THE CARD IS WHAT COUNTS. Prove the row's statement (the work); the ties are given (YtifpinhjpbgnoaaGreatDoorTie.lean); close each card by the builder's one call (the guide's Derived/Test/ToyasCard.lean, 'card_holds'). Laid BY PROGRAM, IN A SANDBOX (cutbox-door.mjs). By AI agents, Wed Nov 11 2026. No macro, syntax, notation, axiom, sorry.
-/
import Derived.Test.YtifpinhjpbgnoaaGreatDoorRows
import GoSem.ClaimSeven
namespace Go.Proofs.YtifpinhjpbgnoaaGreatDoor
namespace Rows

/-- THE TIED CARD OF 'bedrocklaw22.ArenaOpens'. -/
def arenaOpensCard : Claim7 := { stood := { row := arenaOpensRow, standIns := [], harness := (true, "b0bc05cfab4b2ea8c46645300665937a78e8c874cb8405a5269202337f9813dd"), looks := false }, kinds := [], alts := [], laidByText := true, laidKinds := [.data, .data], laidTests := true, laidLooks := .later }
def ArenaOpensCardSaid : Prop := Claim7.holds Tryz.pinned (.plain (OpenSpec.ofChange arenaOpensSpec)) arenaOpensCard

/-- THE TIED CARD OF 'bedrocklaw22.ArenaPlays'. -/
def arenaPlaysCard : Claim7 := { stood := { row := arenaPlaysRow, standIns := [], harness := (true, "b0bc05cfab4b2ea8c46645300665937a78e8c874cb8405a5269202337f9813dd"), looks := false }, kinds := [], alts := [], laidByText := true, laidKinds := [.data, .data], laidTests := true, laidLooks := .later }
def ArenaPlaysCardSaid : Prop := Claim7.holds Tryz.pinned (.plain (OpenSpec.ofChange arenaPlaysSpec)) arenaPlaysCard

/-- THE TIED CARD OF 'bedrocklaw22.ArenaReopens'. -/
def arenaReopensCard : Claim7 := { stood := { row := arenaReopensRow, standIns := [], harness := (true, "b0bc05cfab4b2ea8c46645300665937a78e8c874cb8405a5269202337f9813dd"), looks := false }, kinds := [], alts := [], laidByText := true, laidKinds := [.data, .data], laidTests := true, laidLooks := .later }
def ArenaReopensCardSaid : Prop := Claim7.holds Tryz.pinned (.plain (OpenSpec.ofChange arenaReopensSpec)) arenaReopensCard

/-- THE TIED CARD OF 'bedrocklaw22.ArenaApart'. -/
def arenaApartCard : Claim7 := { stood := { row := arenaApartRow, standIns := [], harness := (true, "b0bc05cfab4b2ea8c46645300665937a78e8c874cb8405a5269202337f9813dd"), looks := false }, kinds := [], alts := [], laidByText := true, laidKinds := [.data, .data], laidTests := true, laidLooks := .later }
def ArenaApartCardSaid : Prop := Claim7.holds Tryz.pinned (.plain (OpenSpec.ofChange arenaApartSpec)) arenaApartCard

/-- THE TIED CARD OF 'bedrocklaw22.ArenaCuts'. -/
def arenaCutsCard : Claim7 := { stood := { row := arenaCutsRow, standIns := [], harness := (true, "b0bc05cfab4b2ea8c46645300665937a78e8c874cb8405a5269202337f9813dd"), looks := false }, kinds := [], alts := [], laidByText := true, laidKinds := [.data, .data], laidTests := true, laidLooks := .later }
def ArenaCutsCardSaid : Prop := Claim7.holds Tryz.pinned (.plain (OpenSpec.ofChange arenaCutsSpec)) arenaCutsCard

/-- THE SECOND FORM's CARD OF 'bedrocklaw22.ArenaOpens'. -/
def arenaOpensUptoCard : Claim7 := { stood := { row := arenaOpensUptoRow, standIns := [], harness := (true, "b0bc05cfab4b2ea8c46645300665937a78e8c874cb8405a5269202337f9813dd"), looks := false }, kinds := [], alts := [], laidByText := true, laidKinds := [.data, .data], laidTests := true, laidLooks := .later }
def ArenaOpensUptoCardSaid : Prop := Claim7.holds Tryz.pinned (.plain (OpenSpec.upto arenaOpensSpec)) arenaOpensUptoCard

/-- THE SECOND FORM's CARD OF 'bedrocklaw22.ArenaPlays'. -/
def arenaPlaysUptoCard : Claim7 := { stood := { row := arenaPlaysUptoRow, standIns := [], harness := (true, "b0bc05cfab4b2ea8c46645300665937a78e8c874cb8405a5269202337f9813dd"), looks := false }, kinds := [], alts := [], laidByText := true, laidKinds := [.data, .data], laidTests := true, laidLooks := .later }
def ArenaPlaysUptoCardSaid : Prop := Claim7.holds Tryz.pinned (.plain (OpenSpec.upto arenaPlaysSpec)) arenaPlaysUptoCard

/-- THE SECOND FORM's CARD OF 'bedrocklaw22.ArenaReopens'. -/
def arenaReopensUptoCard : Claim7 := { stood := { row := arenaReopensUptoRow, standIns := [], harness := (true, "b0bc05cfab4b2ea8c46645300665937a78e8c874cb8405a5269202337f9813dd"), looks := false }, kinds := [], alts := [], laidByText := true, laidKinds := [.data, .data], laidTests := true, laidLooks := .later }
def ArenaReopensUptoCardSaid : Prop := Claim7.holds Tryz.pinned (.plain (OpenSpec.upto arenaReopensSpec)) arenaReopensUptoCard

/-- THE SECOND FORM's CARD OF 'bedrocklaw22.ArenaApart'. -/
def arenaApartUptoCard : Claim7 := { stood := { row := arenaApartUptoRow, standIns := [], harness := (true, "b0bc05cfab4b2ea8c46645300665937a78e8c874cb8405a5269202337f9813dd"), looks := false }, kinds := [], alts := [], laidByText := true, laidKinds := [.data, .data], laidTests := true, laidLooks := .later }
def ArenaApartUptoCardSaid : Prop := Claim7.holds Tryz.pinned (.plain (OpenSpec.upto arenaApartSpec)) arenaApartUptoCard

/-- THE SECOND FORM's CARD OF 'bedrocklaw22.ArenaCuts'. -/
def arenaCutsUptoCard : Claim7 := { stood := { row := arenaCutsUptoRow, standIns := [], harness := (true, "b0bc05cfab4b2ea8c46645300665937a78e8c874cb8405a5269202337f9813dd"), looks := false }, kinds := [], alts := [], laidByText := true, laidKinds := [.data, .data], laidTests := true, laidLooks := .later }
def ArenaCutsUptoCardSaid : Prop := Claim7.holds Tryz.pinned (.plain (OpenSpec.upto arenaCutsSpec)) arenaCutsUptoCard
end Rows
end Go.Proofs.YtifpinhjpbgnoaaGreatDoor
