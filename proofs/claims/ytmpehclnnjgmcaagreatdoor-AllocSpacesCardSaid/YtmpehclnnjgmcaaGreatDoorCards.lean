/-
  DERIVED. GIVEN WITH THE SEED: THE CARDS: each row of YtmpehclnnjgmcaaGreatDoorRows.lean that lists a variable, with what it lists TIED to the program's text (the seventh form; the later family's looks); each row that meets fmt, with fmt's text TOLD by the authors' own Lean function (tested against real Go, not proved from fmt's source: count such statements apart). THE CARD IS WHAT COUNTS. Prove the row's statement (the work); the ties are given (YtmpehclnnjgmcaaGreatDoorTie.lean); close each card by the builder's one call (the guide's Derived/Test/ToyasCard.lean, 'card_holds'). Laid BY PROGRAM, IN A SANDBOX (cutbox-door.mjs). By AI agents, Wed Nov 11 2026. No macro, syntax, notation, axiom, sorry.
-/
import Derived.Test.YtmpehclnnjgmcaaGreatDoorRows
import GoSem.ClaimSeven
namespace Go.Proofs.YtmpehclnnjgmcaaGreatDoor
namespace Rows

/-- THE TIED CARD OF 'bedrocklaw23.AllocBack'. -/
def allocBackCard : Claim7 := { stood := { row := allocBackRow, standIns := [], harness := (true, "819cb7b99e762ee3c5d46c44398008695f54e51fb987793a2b1b8745f578d1a3"), looks := false }, kinds := [], alts := [], laidByText := true, laidKinds := [.data, .data], laidTests := true, laidLooks := .later }
def AllocBackCardSaid : Prop := Claim7.holds Tryz.pinned (.plain (OpenSpec.ofChange allocBackSpec)) allocBackCard

/-- THE TIED CARD OF 'bedrocklaw23.AllocRoom'. -/
def allocRoomCard : Claim7 := { stood := { row := allocRoomRow, standIns := [], harness := (true, "819cb7b99e762ee3c5d46c44398008695f54e51fb987793a2b1b8745f578d1a3"), looks := false }, kinds := [], alts := [], laidByText := true, laidKinds := [.data, .data], laidTests := true, laidLooks := .later }
def AllocRoomCardSaid : Prop := Claim7.holds Tryz.pinned (.plain (OpenSpec.ofChange allocRoomSpec)) allocRoomCard

/-- THE TIED CARD OF 'bedrocklaw23.AllocPlays'. -/
def allocPlaysCard : Claim7 := { stood := { row := allocPlaysRow, standIns := [], harness := (true, "819cb7b99e762ee3c5d46c44398008695f54e51fb987793a2b1b8745f578d1a3"), looks := false }, kinds := [], alts := [], laidByText := true, laidKinds := [.data, .data], laidTests := true, laidLooks := .later }
def AllocPlaysCardSaid : Prop := Claim7.holds Tryz.pinned (.plain (OpenSpec.ofChange allocPlaysSpec)) allocPlaysCard

/-- THE TIED CARD OF 'bedrocklaw23.AllocContents'. -/
def allocContentsCard : Claim7 := { stood := { row := allocContentsRow, standIns := [], harness := (true, "819cb7b99e762ee3c5d46c44398008695f54e51fb987793a2b1b8745f578d1a3"), looks := false }, kinds := [], alts := [], laidByText := true, laidKinds := [.data, .data], laidTests := true, laidLooks := .later }
def AllocContentsCardSaid : Prop := Claim7.holds Tryz.pinned (.plain (OpenSpec.ofChange allocContentsSpec)) allocContentsCard

/-- THE TIED CARD OF 'bedrocklaw23.AllocLocks'. -/
def allocLocksCard : Claim7 := { stood := { row := allocLocksRow, standIns := [], harness := (true, "819cb7b99e762ee3c5d46c44398008695f54e51fb987793a2b1b8745f578d1a3"), looks := false }, kinds := [], alts := [], laidByText := true, laidKinds := [.data, .data], laidTests := true, laidLooks := .later }
def AllocLocksCardSaid : Prop := Claim7.holds Tryz.pinned (.plain (OpenSpec.ofChange allocLocksSpec)) allocLocksCard

/-- THE TIED CARD OF 'bedrocklaw23.AllocSettles'. -/
def allocSettlesCard : Claim7 := { stood := { row := allocSettlesRow, standIns := [], harness := (true, "819cb7b99e762ee3c5d46c44398008695f54e51fb987793a2b1b8745f578d1a3"), looks := false }, kinds := [], alts := [], laidByText := true, laidKinds := [.data, .data], laidTests := true, laidLooks := .later }
def AllocSettlesCardSaid : Prop := Claim7.holds Tryz.pinned (.plain (OpenSpec.ofChange allocSettlesSpec)) allocSettlesCard

/-- THE TIED CARD OF 'bedrocklaw23.AllocSpaces'. -/
def allocSpacesCard : Claim7 := { stood := { row := allocSpacesRow, standIns := [], harness := (true, "819cb7b99e762ee3c5d46c44398008695f54e51fb987793a2b1b8745f578d1a3"), looks := false }, kinds := [], alts := [], laidByText := true, laidKinds := [.data, .data], laidTests := true, laidLooks := .later }
def AllocSpacesCardSaid : Prop := Claim7.holds Tryz.pinned (.plain (OpenSpec.ofChange allocSpacesSpec)) allocSpacesCard

/-- THE TIED CARD OF 'bedrocklaw23.AllocZeroed'. -/
def allocZeroedCard : Claim7 := { stood := { row := allocZeroedRow, standIns := [], harness := (true, "819cb7b99e762ee3c5d46c44398008695f54e51fb987793a2b1b8745f578d1a3"), looks := false }, kinds := [], alts := [], laidByText := true, laidKinds := [.data, .data], laidTests := true, laidLooks := .later }
def AllocZeroedCardSaid : Prop := Claim7.holds Tryz.pinned (.plain (OpenSpec.ofChange allocZeroedSpec)) allocZeroedCard

/-- THE TIED CARD OF 'bedrocklaw23.AllocCrashes'. -/
def allocCrashesCard : Claim7 := { stood := { row := allocCrashesRow, standIns := [], harness := (true, "819cb7b99e762ee3c5d46c44398008695f54e51fb987793a2b1b8745f578d1a3"), looks := false }, kinds := [], alts := [], laidByText := true, laidKinds := [.data, .data], laidTests := true, laidLooks := .later }
def AllocCrashesCardSaid : Prop := Claim7.holds Tryz.pinned (.plain (OpenSpec.ofChange allocCrashesSpec)) allocCrashesCard

/-- THE TIED CARD OF 'bedrocklaw23.AllocCuts'. -/
def allocCutsCard : Claim7 := { stood := { row := allocCutsRow, standIns := [], harness := (true, "819cb7b99e762ee3c5d46c44398008695f54e51fb987793a2b1b8745f578d1a3"), looks := false }, kinds := [], alts := [], laidByText := true, laidKinds := [.data, .data], laidTests := true, laidLooks := .later }
def AllocCutsCardSaid : Prop := Claim7.holds Tryz.pinned (.plain (OpenSpec.ofChange allocCutsSpec)) allocCutsCard

/-- THE SECOND FORM's CARD OF 'bedrocklaw23.AllocBack'. -/
def allocBackUptoCard : Claim7 := { stood := { row := allocBackUptoRow, standIns := [], harness := (true, "819cb7b99e762ee3c5d46c44398008695f54e51fb987793a2b1b8745f578d1a3"), looks := false }, kinds := [], alts := [], laidByText := true, laidKinds := [.data, .data], laidTests := true, laidLooks := .later }
def AllocBackUptoCardSaid : Prop := Claim7.holds Tryz.pinned (.plain (OpenSpec.upto allocBackSpec)) allocBackUptoCard

/-- THE SECOND FORM's CARD OF 'bedrocklaw23.AllocRoom'. -/
def allocRoomUptoCard : Claim7 := { stood := { row := allocRoomUptoRow, standIns := [], harness := (true, "819cb7b99e762ee3c5d46c44398008695f54e51fb987793a2b1b8745f578d1a3"), looks := false }, kinds := [], alts := [], laidByText := true, laidKinds := [.data, .data], laidTests := true, laidLooks := .later }
def AllocRoomUptoCardSaid : Prop := Claim7.holds Tryz.pinned (.plain (OpenSpec.upto allocRoomSpec)) allocRoomUptoCard

/-- THE SECOND FORM's CARD OF 'bedrocklaw23.AllocPlays'. -/
def allocPlaysUptoCard : Claim7 := { stood := { row := allocPlaysUptoRow, standIns := [], harness := (true, "819cb7b99e762ee3c5d46c44398008695f54e51fb987793a2b1b8745f578d1a3"), looks := false }, kinds := [], alts := [], laidByText := true, laidKinds := [.data, .data], laidTests := true, laidLooks := .later }
def AllocPlaysUptoCardSaid : Prop := Claim7.holds Tryz.pinned (.plain (OpenSpec.upto allocPlaysSpec)) allocPlaysUptoCard

/-- THE SECOND FORM's CARD OF 'bedrocklaw23.AllocContents'. -/
def allocContentsUptoCard : Claim7 := { stood := { row := allocContentsUptoRow, standIns := [], harness := (true, "819cb7b99e762ee3c5d46c44398008695f54e51fb987793a2b1b8745f578d1a3"), looks := false }, kinds := [], alts := [], laidByText := true, laidKinds := [.data, .data], laidTests := true, laidLooks := .later }
def AllocContentsUptoCardSaid : Prop := Claim7.holds Tryz.pinned (.plain (OpenSpec.upto allocContentsSpec)) allocContentsUptoCard

/-- THE SECOND FORM's CARD OF 'bedrocklaw23.AllocLocks'. -/
def allocLocksUptoCard : Claim7 := { stood := { row := allocLocksUptoRow, standIns := [], harness := (true, "819cb7b99e762ee3c5d46c44398008695f54e51fb987793a2b1b8745f578d1a3"), looks := false }, kinds := [], alts := [], laidByText := true, laidKinds := [.data, .data], laidTests := true, laidLooks := .later }
def AllocLocksUptoCardSaid : Prop := Claim7.holds Tryz.pinned (.plain (OpenSpec.upto allocLocksSpec)) allocLocksUptoCard

/-- THE SECOND FORM's CARD OF 'bedrocklaw23.AllocSettles'. -/
def allocSettlesUptoCard : Claim7 := { stood := { row := allocSettlesUptoRow, standIns := [], harness := (true, "819cb7b99e762ee3c5d46c44398008695f54e51fb987793a2b1b8745f578d1a3"), looks := false }, kinds := [], alts := [], laidByText := true, laidKinds := [.data, .data], laidTests := true, laidLooks := .later }
def AllocSettlesUptoCardSaid : Prop := Claim7.holds Tryz.pinned (.plain (OpenSpec.upto allocSettlesSpec)) allocSettlesUptoCard

/-- THE SECOND FORM's CARD OF 'bedrocklaw23.AllocSpaces'. -/
def allocSpacesUptoCard : Claim7 := { stood := { row := allocSpacesUptoRow, standIns := [], harness := (true, "819cb7b99e762ee3c5d46c44398008695f54e51fb987793a2b1b8745f578d1a3"), looks := false }, kinds := [], alts := [], laidByText := true, laidKinds := [.data, .data], laidTests := true, laidLooks := .later }
def AllocSpacesUptoCardSaid : Prop := Claim7.holds Tryz.pinned (.plain (OpenSpec.upto allocSpacesSpec)) allocSpacesUptoCard

/-- THE SECOND FORM's CARD OF 'bedrocklaw23.AllocZeroed'. -/
def allocZeroedUptoCard : Claim7 := { stood := { row := allocZeroedUptoRow, standIns := [], harness := (true, "819cb7b99e762ee3c5d46c44398008695f54e51fb987793a2b1b8745f578d1a3"), looks := false }, kinds := [], alts := [], laidByText := true, laidKinds := [.data, .data], laidTests := true, laidLooks := .later }
def AllocZeroedUptoCardSaid : Prop := Claim7.holds Tryz.pinned (.plain (OpenSpec.upto allocZeroedSpec)) allocZeroedUptoCard

/-- THE SECOND FORM's CARD OF 'bedrocklaw23.AllocCrashes'. -/
def allocCrashesUptoCard : Claim7 := { stood := { row := allocCrashesUptoRow, standIns := [], harness := (true, "819cb7b99e762ee3c5d46c44398008695f54e51fb987793a2b1b8745f578d1a3"), looks := false }, kinds := [], alts := [], laidByText := true, laidKinds := [.data, .data], laidTests := true, laidLooks := .later }
def AllocCrashesUptoCardSaid : Prop := Claim7.holds Tryz.pinned (.plain (OpenSpec.upto allocCrashesSpec)) allocCrashesUptoCard

/-- THE SECOND FORM's CARD OF 'bedrocklaw23.AllocCuts'. -/
def allocCutsUptoCard : Claim7 := { stood := { row := allocCutsUptoRow, standIns := [], harness := (true, "819cb7b99e762ee3c5d46c44398008695f54e51fb987793a2b1b8745f578d1a3"), looks := false }, kinds := [], alts := [], laidByText := true, laidKinds := [.data, .data], laidTests := true, laidLooks := .later }
def AllocCutsUptoCardSaid : Prop := Claim7.holds Tryz.pinned (.plain (OpenSpec.upto allocCutsSpec)) allocCutsUptoCard
end Rows
end Go.Proofs.YtmpehclnnjgmcaaGreatDoor
