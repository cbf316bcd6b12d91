/-
  DERIVED. GIVEN WITH THE SEED: THE CARDS: each row of YtaeopkhdokaaoaaGreatDoorRows.lean that lists a variable, with what it lists TIED to the program's text (the seventh form; the later family's looks); each row that meets fmt, with fmt's text TOLD by the authors' own Lean function (tested against real Go, not proved from fmt's source: count such statements apart). THE CARD IS WHAT COUNTS. Prove the row's statement (the work); the ties are given (YtaeopkhdokaaoaaGreatDoorTie.lean); close each card by the builder's one call (the guide's Derived/Test/ToyasCard.lean, 'card_holds'). Laid BY PROGRAM, IN A SANDBOX (cutbox-door.mjs). By AI agents, Wed Nov 11 2026. No macro, syntax, notation, axiom, sorry.
-/
import Derived.Test.YtaeopkhdokaaoaaGreatDoorRows
import GoSem.ClaimSeven
namespace Go.Proofs.YtaeopkhdokaaoaaGreatDoor
namespace Rows

/-- THE TIED CARD OF 'bedrocklaw21.ChunkPrograms'. -/
def chunkProgramsCard : Claim7 := { stood := { row := chunkProgramsRow, standIns := [], harness := (true, "24470021dd94d15a10437493892302ffd2cce9043b76962bff25473f24497a03"), looks := false }, kinds := [], alts := [], laidByText := true, laidKinds := [.data, .data], laidTests := true, laidLooks := .later }
def ChunkProgramsCardSaid : Prop := Claim7.holds Tryz.pinned (.plain (OpenSpec.ofChange chunkProgramsSpec)) chunkProgramsCard

/-- THE TIED CARD OF 'bedrocklaw21.ChunkLooks'. -/
def chunkLooksCard : Claim7 := { stood := { row := chunkLooksRow, standIns := [], harness := (true, "24470021dd94d15a10437493892302ffd2cce9043b76962bff25473f24497a03"), looks := false }, kinds := [], alts := [], laidByText := true, laidKinds := [.data, .data], laidTests := true, laidLooks := .later }
def ChunkLooksCardSaid : Prop := Claim7.holds Tryz.pinned (.plain (OpenSpec.ofChange chunkLooksSpec)) chunkLooksCard

/-- THE TIED CARD OF 'bedrocklaw21.ChunkPlays'. -/
def chunkPlaysCard : Claim7 := { stood := { row := chunkPlaysRow, standIns := [], harness := (true, "24470021dd94d15a10437493892302ffd2cce9043b76962bff25473f24497a03"), looks := false }, kinds := [], alts := [], laidByText := true, laidKinds := [.data, .data], laidTests := true, laidLooks := .later }
def ChunkPlaysCardSaid : Prop := Claim7.holds Tryz.pinned (.plain (OpenSpec.ofChange chunkPlaysSpec)) chunkPlaysCard

/-- THE TIED CARD OF 'bedrocklaw21.ChunkBursts'. -/
def chunkBurstsCard : Claim7 := { stood := { row := chunkBurstsRow, standIns := [], harness := (true, "24470021dd94d15a10437493892302ffd2cce9043b76962bff25473f24497a03"), looks := false }, kinds := [], alts := [], laidByText := true, laidKinds := [.data, .data], laidTests := true, laidLooks := .later }
def ChunkBurstsCardSaid : Prop := Claim7.holds Tryz.pinned (.plain (OpenSpec.ofChange chunkBurstsSpec)) chunkBurstsCard

/-- THE TIED CARD OF 'bedrocklaw21.ChunkPointers'. -/
def chunkPointersCard : Claim7 := { stood := { row := chunkPointersRow, standIns := [], harness := (true, "24470021dd94d15a10437493892302ffd2cce9043b76962bff25473f24497a03"), looks := false }, kinds := [], alts := [], laidByText := true, laidKinds := [.data, .data], laidTests := true, laidLooks := .later }
def ChunkPointersCardSaid : Prop := Claim7.holds Tryz.pinned (.plain (OpenSpec.ofChange chunkPointersSpec)) chunkPointersCard

/-- THE TIED CARD OF 'bedrocklaw21.ChunkStale'. -/
def chunkStaleCard : Claim7 := { stood := { row := chunkStaleRow, standIns := [], harness := (true, "24470021dd94d15a10437493892302ffd2cce9043b76962bff25473f24497a03"), looks := false }, kinds := [], alts := [], laidByText := true, laidKinds := [.data, .data], laidTests := true, laidLooks := .later }
def ChunkStaleCardSaid : Prop := Claim7.holds Tryz.pinned (.plain (OpenSpec.ofChange chunkStaleSpec)) chunkStaleCard

/-- THE TIED CARD OF 'bedrocklaw21.ChunkCuts'. -/
def chunkCutsCard : Claim7 := { stood := { row := chunkCutsRow, standIns := [], harness := (true, "24470021dd94d15a10437493892302ffd2cce9043b76962bff25473f24497a03"), looks := false }, kinds := [], alts := [], laidByText := true, laidKinds := [.data, .data], laidTests := true, laidLooks := .later }
def ChunkCutsCardSaid : Prop := Claim7.holds Tryz.pinned (.plain (OpenSpec.ofChange chunkCutsSpec)) chunkCutsCard

/-- THE TIED CARD OF 'bedrocklaw21.ChunkAgain'. -/
def chunkAgainCard : Claim7 := { stood := { row := chunkAgainRow, standIns := [], harness := (true, "24470021dd94d15a10437493892302ffd2cce9043b76962bff25473f24497a03"), looks := false }, kinds := [], alts := [], laidByText := true, laidKinds := [.data, .data], laidTests := true, laidLooks := .later }
def ChunkAgainCardSaid : Prop := Claim7.holds Tryz.pinned (.plain (OpenSpec.ofChange chunkAgainSpec)) chunkAgainCard

/-- THE TIED CARD OF 'bedrocklaw21.ChunkZero'. -/
def chunkZeroCard : Claim7 := { stood := { row := chunkZeroRow, standIns := [], harness := (true, "24470021dd94d15a10437493892302ffd2cce9043b76962bff25473f24497a03"), looks := false }, kinds := [], alts := [], laidByText := true, laidKinds := [.data, .data], laidTests := true, laidLooks := .later }
def ChunkZeroCardSaid : Prop := Claim7.holds Tryz.pinned (.plain (OpenSpec.ofChange chunkZeroSpec)) chunkZeroCard

/-- THE SECOND FORM's CARD OF 'bedrocklaw21.ChunkPrograms'. -/
def chunkProgramsUptoCard : Claim7 := { stood := { row := chunkProgramsUptoRow, standIns := [], harness := (true, "24470021dd94d15a10437493892302ffd2cce9043b76962bff25473f24497a03"), looks := false }, kinds := [], alts := [], laidByText := true, laidKinds := [.data, .data], laidTests := true, laidLooks := .later }
def ChunkProgramsUptoCardSaid : Prop := Claim7.holds Tryz.pinned (.plain (OpenSpec.upto chunkProgramsSpec)) chunkProgramsUptoCard

/-- THE SECOND FORM's CARD OF 'bedrocklaw21.ChunkLooks'. -/
def chunkLooksUptoCard : Claim7 := { stood := { row := chunkLooksUptoRow, standIns := [], harness := (true, "24470021dd94d15a10437493892302ffd2cce9043b76962bff25473f24497a03"), looks := false }, kinds := [], alts := [], laidByText := true, laidKinds := [.data, .data], laidTests := true, laidLooks := .later }
def ChunkLooksUptoCardSaid : Prop := Claim7.holds Tryz.pinned (.plain (OpenSpec.upto chunkLooksSpec)) chunkLooksUptoCard

/-- THE SECOND FORM's CARD OF 'bedrocklaw21.ChunkPlays'. -/
def chunkPlaysUptoCard : Claim7 := { stood := { row := chunkPlaysUptoRow, standIns := [], harness := (true, "24470021dd94d15a10437493892302ffd2cce9043b76962bff25473f24497a03"), looks := false }, kinds := [], alts := [], laidByText := true, laidKinds := [.data, .data], laidTests := true, laidLooks := .later }
def ChunkPlaysUptoCardSaid : Prop := Claim7.holds Tryz.pinned (.plain (OpenSpec.upto chunkPlaysSpec)) chunkPlaysUptoCard

/-- THE SECOND FORM's CARD OF 'bedrocklaw21.ChunkBursts'. -/
def chunkBurstsUptoCard : Claim7 := { stood := { row := chunkBurstsUptoRow, standIns := [], harness := (true, "24470021dd94d15a10437493892302ffd2cce9043b76962bff25473f24497a03"), looks := false }, kinds := [], alts := [], laidByText := true, laidKinds := [.data, .data], laidTests := true, laidLooks := .later }
def ChunkBurstsUptoCardSaid : Prop := Claim7.holds Tryz.pinned (.plain (OpenSpec.upto chunkBurstsSpec)) chunkBurstsUptoCard

/-- THE SECOND FORM's CARD OF 'bedrocklaw21.ChunkPointers'. -/
def chunkPointersUptoCard : Claim7 := { stood := { row := chunkPointersUptoRow, standIns := [], harness := (true, "24470021dd94d15a10437493892302ffd2cce9043b76962bff25473f24497a03"), looks := false }, kinds := [], alts := [], laidByText := true, laidKinds := [.data, .data], laidTests := true, laidLooks := .later }
def ChunkPointersUptoCardSaid : Prop := Claim7.holds Tryz.pinned (.plain (OpenSpec.upto chunkPointersSpec)) chunkPointersUptoCard

/-- THE SECOND FORM's CARD OF 'bedrocklaw21.ChunkStale'. -/
def chunkStaleUptoCard : Claim7 := { stood := { row := chunkStaleUptoRow, standIns := [], harness := (true, "24470021dd94d15a10437493892302ffd2cce9043b76962bff25473f24497a03"), looks := false }, kinds := [], alts := [], laidByText := true, laidKinds := [.data, .data], laidTests := true, laidLooks := .later }
def ChunkStaleUptoCardSaid : Prop := Claim7.holds Tryz.pinned (.plain (OpenSpec.upto chunkStaleSpec)) chunkStaleUptoCard

/-- THE SECOND FORM's CARD OF 'bedrocklaw21.ChunkCuts'. -/
def chunkCutsUptoCard : Claim7 := { stood := { row := chunkCutsUptoRow, standIns := [], harness := (true, "24470021dd94d15a10437493892302ffd2cce9043b76962bff25473f24497a03"), looks := false }, kinds := [], alts := [], laidByText := true, laidKinds := [.data, .data], laidTests := true, laidLooks := .later }
def ChunkCutsUptoCardSaid : Prop := Claim7.holds Tryz.pinned (.plain (OpenSpec.upto chunkCutsSpec)) chunkCutsUptoCard

/-- THE SECOND FORM's CARD OF 'bedrocklaw21.ChunkAgain'. -/
def chunkAgainUptoCard : Claim7 := { stood := { row := chunkAgainUptoRow, standIns := [], harness := (true, "24470021dd94d15a10437493892302ffd2cce9043b76962bff25473f24497a03"), looks := false }, kinds := [], alts := [], laidByText := true, laidKinds := [.data, .data], laidTests := true, laidLooks := .later }
def ChunkAgainUptoCardSaid : Prop := Claim7.holds Tryz.pinned (.plain (OpenSpec.upto chunkAgainSpec)) chunkAgainUptoCard

/-- THE SECOND FORM's CARD OF 'bedrocklaw21.ChunkZero'. -/
def chunkZeroUptoCard : Claim7 := { stood := { row := chunkZeroUptoRow, standIns := [], harness := (true, "24470021dd94d15a10437493892302ffd2cce9043b76962bff25473f24497a03"), looks := false }, kinds := [], alts := [], laidByText := true, laidKinds := [.data, .data], laidTests := true, laidLooks := .later }
def ChunkZeroUptoCardSaid : Prop := Claim7.holds Tryz.pinned (.plain (OpenSpec.upto chunkZeroSpec)) chunkZeroUptoCard
end Rows
end Go.Proofs.YtaeopkhdokaaoaaGreatDoor
