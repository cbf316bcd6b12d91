/-
  NARROWER THAN 'FOR EVERY INPUT', by the rows' own cells (each row's printed sentence says how): AllocBack: laid · AllocRoom: laid · AllocPlays: laid · AllocContents: laid · AllocLocks: laid · AllocSettles: laid · AllocSpaces: laid · AllocZeroed: laid · AllocCrashes: laid · AllocCuts: laid.
  DERIVED. THE GIVEN ROWS OF THIS SEAT. 10 by the template 'for every input the law returns true; each argument reads behind the call as it read before'; 0 by the template 'total and deterministic' (their statements: YtmpehclnnjgmcaaGreatDoorTotals.lean).
  GIVEN WITH THE SEED: the statements are not yours to turn. If you find one false, say at which input.
  Laid BY PROGRAM, IN A SANDBOX (cutbox-rows.mjs): the forced cells as the released guide's own fill.sh prints them over the translation e3c289b48b7eb2a5… (all of the seat's roots in one cut). By AI agents, Wed Nov 11 2026. No macro, syntax, notation, axiom, sorry.
-/
import Derived.Test.YtmpehclnnjgmcaaGreatDoorChecked
import GoSem.Claim
import GoSem.ClaimJoined
import GoSem.ClaimMapViews
import Derived.JoinedTies
import Derived.KernelRfl
namespace Go.Proofs.YtmpehclnnjgmcaaGreatDoor
/- THE CELL 'sum', in the pinned program and in every row, IS THE sha256 OF THE DUMP (.gsa) THAT YtmpehclnnjgmcaaGreatDoorProg.lean LOADS. Nothing in Lean hashes anything: it is a label: what it is worth is what the hold of that sum in a sandbox is worth. -/
noncomputable def Tryz.pinned : Pinned := { name := "ytmpehclnnjgmcaagreatdoor", sum := "e3c289b48b7eb2a56a9eb3412c735684857eb5ba5d9491e1384072aeca2dd8c3", checked := Tryz.checked }
namespace Rows
def none {H : Type} : Left H := { results := [], args := [] }

/- WHAT THE LISTED PACKAGE-LEVEL VARIABLES READ AS WHEN THE CALL BEGINS. Each datum BY PROGRAM (the guide's laid-datum.mjs) off the statement by which the dump's own 'gosem.cut.vars' lays the variable. In a bare row this is a premise. The card (YtmpehclnnjgmcaaGreatDoorCards.lean) ties it to the program's text. -/
def laid_bedrock_crc_nibbles {H : Type} : DataW H := .agg [.lit (.int .u32 0), .lit (.int .u32 274646895), .lit (.int .u32 549293790), .lit (.int .u32 820201905), .lit (.int .u32 1098587580), .lit (.int .u32 1361435347), .lit (.int .u32 1640403810), .lit (.int .u32 1905808397), .lit (.int .u32 2197175160), .lit (.int .u32 2460548119), .lit (.int .u32 2722870694), .lit (.int .u32 2987750089), .lit (.int .u32 3280807620), .lit (.int .u32 3553878443), .lit (.int .u32 3811616794), .lit (.int .u32 4084100981)]
def laid_bedrock_sizeclass_payload {H : Type} : DataW H := .agg [.lit (.int .i64 3), .lit (.int .i64 7), .lit (.int .i64 15), .lit (.int .i64 31), .lit (.int .i64 60)]

/-- 'bedrocklaw23.AllocBack': WHATEVER THE INPUT: true; the input reads as it did. -/
def allocBackSpec : ChangeSpec := { name := "allocBack", fn := fun _ => fun
  | [d1, d2, d3] => { results := [.lit (.bool true)], args := [d1, d2, d3] }
  | _ => none }
def allocBackRow : OpenClaim := { program := "ytmpehclnnjgmcaagreatdoor", sum := "e3c289b48b7eb2a56a9eb3412c735684857eb5ba5d9491e1384072aeca2dd8c3", func := "bedrock/bedrocklaw23.AllocBack", spec := "allocBack", unfollowed := true, recurses := true, named := ["bedrock/crc.nibbles", "bedrock/sizeclass.payload"], apart := false, laid := [("bedrock/crc.nibbles", laid_bedrock_crc_nibbles), ("bedrock/sizeclass.payload", laid_bedrock_sizeclass_payload)] }
def AllocBackSaid : Prop := allocBackRow.holds Tryz.pinned (OpenSpec.ofChange allocBackSpec)

/-- ITS FALSE NEIGHBOUR: 'it returns false'. Refute it at one input. -/
def allocBackWrong : ChangeSpec := { name := "allocBack", fn := fun _ => fun
  | [d1, d2, d3] => { results := [.lit (.bool false)], args := [d1, d2, d3] }
  | _ => none }
def AllocBackWrongFalsely : Prop := allocBackRow.holds Tryz.pinned (OpenSpec.ofChange allocBackWrong)

/-- 'bedrocklaw23.AllocRoom': WHATEVER THE INPUT: true; the input reads as it did. -/
def allocRoomSpec : ChangeSpec := { name := "allocRoom", fn := fun _ => fun
  | [d1, d2] => { results := [.lit (.bool true)], args := [d1, d2] }
  | _ => none }
def allocRoomRow : OpenClaim := { program := "ytmpehclnnjgmcaagreatdoor", sum := "e3c289b48b7eb2a56a9eb3412c735684857eb5ba5d9491e1384072aeca2dd8c3", func := "bedrock/bedrocklaw23.AllocRoom", spec := "allocRoom", unfollowed := true, recurses := true, named := ["bedrock/crc.nibbles", "bedrock/sizeclass.payload"], apart := false, laid := [("bedrock/crc.nibbles", laid_bedrock_crc_nibbles), ("bedrock/sizeclass.payload", laid_bedrock_sizeclass_payload)] }
def AllocRoomSaid : Prop := allocRoomRow.holds Tryz.pinned (OpenSpec.ofChange allocRoomSpec)

/-- ITS FALSE NEIGHBOUR: 'it returns false'. Refute it at one input. -/
def allocRoomWrong : ChangeSpec := { name := "allocRoom", fn := fun _ => fun
  | [d1, d2] => { results := [.lit (.bool false)], args := [d1, d2] }
  | _ => none }
def AllocRoomWrongFalsely : Prop := allocRoomRow.holds Tryz.pinned (OpenSpec.ofChange allocRoomWrong)

/-- 'bedrocklaw23.AllocPlays': WHATEVER THE INPUT: true; the input reads as it did. -/
def allocPlaysSpec : ChangeSpec := { name := "allocPlays", fn := fun _ => fun
  | [d1, d2] => { results := [.lit (.bool true)], args := [d1, d2] }
  | _ => none }
def allocPlaysRow : OpenClaim := { program := "ytmpehclnnjgmcaagreatdoor", sum := "e3c289b48b7eb2a56a9eb3412c735684857eb5ba5d9491e1384072aeca2dd8c3", func := "bedrock/bedrocklaw23.AllocPlays", spec := "allocPlays", unfollowed := true, recurses := true, named := ["bedrock/crc.nibbles", "bedrock/sizeclass.payload"], apart := false, laid := [("bedrock/crc.nibbles", laid_bedrock_crc_nibbles), ("bedrock/sizeclass.payload", laid_bedrock_sizeclass_payload)] }
def AllocPlaysSaid : Prop := allocPlaysRow.holds Tryz.pinned (OpenSpec.ofChange allocPlaysSpec)

/-- ITS FALSE NEIGHBOUR: 'it returns false'. Refute it at one input. -/
def allocPlaysWrong : ChangeSpec := { name := "allocPlays", fn := fun _ => fun
  | [d1, d2] => { results := [.lit (.bool false)], args := [d1, d2] }
  | _ => none }
def AllocPlaysWrongFalsely : Prop := allocPlaysRow.holds Tryz.pinned (OpenSpec.ofChange allocPlaysWrong)

/-- 'bedrocklaw23.AllocContents': WHATEVER THE INPUT: true; the input reads as it did. -/
def allocContentsSpec : ChangeSpec := { name := "allocContents", fn := fun _ => fun
  | [d1, d2] => { results := [.lit (.bool true)], args := [d1, d2] }
  | _ => none }
def allocContentsRow : OpenClaim := { program := "ytmpehclnnjgmcaagreatdoor", sum := "e3c289b48b7eb2a56a9eb3412c735684857eb5ba5d9491e1384072aeca2dd8c3", func := "bedrock/bedrocklaw23.AllocContents", spec := "allocContents", unfollowed := true, recurses := true, named := ["bedrock/crc.nibbles", "bedrock/sizeclass.payload"], apart := false, laid := [("bedrock/crc.nibbles", laid_bedrock_crc_nibbles), ("bedrock/sizeclass.payload", laid_bedrock_sizeclass_payload)] }
def AllocContentsSaid : Prop := allocContentsRow.holds Tryz.pinned (OpenSpec.ofChange allocContentsSpec)

/-- ITS FALSE NEIGHBOUR: 'it returns false'. Refute it at one input. -/
def allocContentsWrong : ChangeSpec := { name := "allocContents", fn := fun _ => fun
  | [d1, d2] => { results := [.lit (.bool false)], args := [d1, d2] }
  | _ => none }
def AllocContentsWrongFalsely : Prop := allocContentsRow.holds Tryz.pinned (OpenSpec.ofChange allocContentsWrong)

/-- 'bedrocklaw23.AllocLocks': WHATEVER THE INPUT: true; the input reads as it did. -/
def allocLocksSpec : ChangeSpec := { name := "allocLocks", fn := fun _ => fun
  | [d1, d2, d3] => { results := [.lit (.bool true)], args := [d1, d2, d3] }
  | _ => none }
def allocLocksRow : OpenClaim := { program := "ytmpehclnnjgmcaagreatdoor", sum := "e3c289b48b7eb2a56a9eb3412c735684857eb5ba5d9491e1384072aeca2dd8c3", func := "bedrock/bedrocklaw23.AllocLocks", spec := "allocLocks", unfollowed := true, recurses := true, named := ["bedrock/crc.nibbles", "bedrock/sizeclass.payload"], apart := false, laid := [("bedrock/crc.nibbles", laid_bedrock_crc_nibbles), ("bedrock/sizeclass.payload", laid_bedrock_sizeclass_payload)] }
def AllocLocksSaid : Prop := allocLocksRow.holds Tryz.pinned (OpenSpec.ofChange allocLocksSpec)

/-- ITS FALSE NEIGHBOUR: 'it returns false'. Refute it at one input. -/
def allocLocksWrong : ChangeSpec := { name := "allocLocks", fn := fun _ => fun
  | [d1, d2, d3] => { results := [.lit (.bool false)], args := [d1, d2, d3] }
  | _ => none }
def AllocLocksWrongFalsely : Prop := allocLocksRow.holds Tryz.pinned (OpenSpec.ofChange allocLocksWrong)

/-- 'bedrocklaw23.AllocSettles': WHATEVER THE INPUT: true; the input reads as it did. -/
def allocSettlesSpec : ChangeSpec := { name := "allocSettles", fn := fun _ => fun
  | [d1, d2] => { results := [.lit (.bool true)], args := [d1, d2] }
  | _ => none }
def allocSettlesRow : OpenClaim := { program := "ytmpehclnnjgmcaagreatdoor", sum := "e3c289b48b7eb2a56a9eb3412c735684857eb5ba5d9491e1384072aeca2dd8c3", func := "bedrock/bedrocklaw23.AllocSettles", spec := "allocSettles", unfollowed := true, recurses := true, named := ["bedrock/crc.nibbles", "bedrock/sizeclass.payload"], apart := false, laid := [("bedrock/crc.nibbles", laid_bedrock_crc_nibbles), ("bedrock/sizeclass.payload", laid_bedrock_sizeclass_payload)] }
def AllocSettlesSaid : Prop := allocSettlesRow.holds Tryz.pinned (OpenSpec.ofChange allocSettlesSpec)

/-- ITS FALSE NEIGHBOUR: 'it returns false'. Refute it at one input. -/
def allocSettlesWrong : ChangeSpec := { name := "allocSettles", fn := fun _ => fun
  | [d1, d2] => { results := [.lit (.bool false)], args := [d1, d2] }
  | _ => none }
def AllocSettlesWrongFalsely : Prop := allocSettlesRow.holds Tryz.pinned (OpenSpec.ofChange allocSettlesWrong)

/-- 'bedrocklaw23.AllocSpaces': WHATEVER THE INPUT: true; the input reads as it did. -/
def allocSpacesSpec : ChangeSpec := { name := "allocSpaces", fn := fun _ => fun
  | [d1, d2, d3] => { results := [.lit (.bool true)], args := [d1, d2, d3] }
  | _ => none }
def allocSpacesRow : OpenClaim := { program := "ytmpehclnnjgmcaagreatdoor", sum := "e3c289b48b7eb2a56a9eb3412c735684857eb5ba5d9491e1384072aeca2dd8c3", func := "bedrock/bedrocklaw23.AllocSpaces", spec := "allocSpaces", unfollowed := true, recurses := true, named := ["bedrock/crc.nibbles", "bedrock/sizeclass.payload"], apart := false, laid := [("bedrock/crc.nibbles", laid_bedrock_crc_nibbles), ("bedrock/sizeclass.payload", laid_bedrock_sizeclass_payload)] }
def AllocSpacesSaid : Prop := allocSpacesRow.holds Tryz.pinned (OpenSpec.ofChange allocSpacesSpec)

/-- ITS FALSE NEIGHBOUR: 'it returns false'. Refute it at one input. -/
def allocSpacesWrong : ChangeSpec := { name := "allocSpaces", fn := fun _ => fun
  | [d1, d2, d3] => { results := [.lit (.bool false)], args := [d1, d2, d3] }
  | _ => none }
def AllocSpacesWrongFalsely : Prop := allocSpacesRow.holds Tryz.pinned (OpenSpec.ofChange allocSpacesWrong)

/-- 'bedrocklaw23.AllocZeroed': WHATEVER THE INPUT: true; the input reads as it did. -/
def allocZeroedSpec : ChangeSpec := { name := "allocZeroed", fn := fun _ => fun
  | [d1, d2, d3] => { results := [.lit (.bool true)], args := [d1, d2, d3] }
  | _ => none }
def allocZeroedRow : OpenClaim := { program := "ytmpehclnnjgmcaagreatdoor", sum := "e3c289b48b7eb2a56a9eb3412c735684857eb5ba5d9491e1384072aeca2dd8c3", func := "bedrock/bedrocklaw23.AllocZeroed", spec := "allocZeroed", unfollowed := true, recurses := true, named := ["bedrock/crc.nibbles", "bedrock/sizeclass.payload"], apart := false, laid := [("bedrock/crc.nibbles", laid_bedrock_crc_nibbles), ("bedrock/sizeclass.payload", laid_bedrock_sizeclass_payload)] }
def AllocZeroedSaid : Prop := allocZeroedRow.holds Tryz.pinned (OpenSpec.ofChange allocZeroedSpec)

/-- ITS FALSE NEIGHBOUR: 'it returns false'. Refute it at one input. -/
def allocZeroedWrong : ChangeSpec := { name := "allocZeroed", fn := fun _ => fun
  | [d1, d2, d3] => { results := [.lit (.bool false)], args := [d1, d2, d3] }
  | _ => none }
def AllocZeroedWrongFalsely : Prop := allocZeroedRow.holds Tryz.pinned (OpenSpec.ofChange allocZeroedWrong)

/-- 'bedrocklaw23.AllocCrashes': WHATEVER THE INPUT: true; the input reads as it did. -/
def allocCrashesSpec : ChangeSpec := { name := "allocCrashes", fn := fun _ => fun
  | [d1, d2, d3] => { results := [.lit (.bool true)], args := [d1, d2, d3] }
  | _ => none }
def allocCrashesRow : OpenClaim := { program := "ytmpehclnnjgmcaagreatdoor", sum := "e3c289b48b7eb2a56a9eb3412c735684857eb5ba5d9491e1384072aeca2dd8c3", func := "bedrock/bedrocklaw23.AllocCrashes", spec := "allocCrashes", unfollowed := true, recurses := true, named := ["bedrock/crc.nibbles", "bedrock/sizeclass.payload"], apart := false, laid := [("bedrock/crc.nibbles", laid_bedrock_crc_nibbles), ("bedrock/sizeclass.payload", laid_bedrock_sizeclass_payload)] }
def AllocCrashesSaid : Prop := allocCrashesRow.holds Tryz.pinned (OpenSpec.ofChange allocCrashesSpec)

/-- ITS FALSE NEIGHBOUR: 'it returns false'. Refute it at one input. -/
def allocCrashesWrong : ChangeSpec := { name := "allocCrashes", fn := fun _ => fun
  | [d1, d2, d3] => { results := [.lit (.bool false)], args := [d1, d2, d3] }
  | _ => none }
def AllocCrashesWrongFalsely : Prop := allocCrashesRow.holds Tryz.pinned (OpenSpec.ofChange allocCrashesWrong)

/-- 'bedrocklaw23.AllocCuts': WHATEVER THE INPUT: true; the input reads as it did. -/
def allocCutsSpec : ChangeSpec := { name := "allocCuts", fn := fun _ => fun
  | [d1, d2, d3] => { results := [.lit (.bool true)], args := [d1, d2, d3] }
  | _ => none }
def allocCutsRow : OpenClaim := { program := "ytmpehclnnjgmcaagreatdoor", sum := "e3c289b48b7eb2a56a9eb3412c735684857eb5ba5d9491e1384072aeca2dd8c3", func := "bedrock/bedrocklaw23.AllocCuts", spec := "allocCuts", unfollowed := true, recurses := true, named := ["bedrock/crc.nibbles", "bedrock/sizeclass.payload"], apart := false, laid := [("bedrock/crc.nibbles", laid_bedrock_crc_nibbles), ("bedrock/sizeclass.payload", laid_bedrock_sizeclass_payload)] }
def AllocCutsSaid : Prop := allocCutsRow.holds Tryz.pinned (OpenSpec.ofChange allocCutsSpec)

/-- ITS FALSE NEIGHBOUR: 'it returns false'. Refute it at one input. -/
def allocCutsWrong : ChangeSpec := { name := "allocCuts", fn := fun _ => fun
  | [d1, d2, d3] => { results := [.lit (.bool false)], args := [d1, d2, d3] }
  | _ => none }
def AllocCutsWrongFalsely : Prop := allocCutsRow.holds Tryz.pinned (OpenSpec.ofChange allocCutsWrong)

/- THE SECOND FORM. 'bulk': how many values and letters a reading holds, each counted each time it is reached (what is shared counts as often as it is met; a slice's spare places count too). A statement '..UptoSaid' is the law's where the arguments, and the package variables that the reading takes, are together of bulk at most 1048576: NARROWER than '..Said'. Prove '..Said' where nothing that the law and all that it calls make is longer than what came in: it says more and counts as full. Else prove '..UptoSaid'. A law counts once. -/
mutual
def uptoBulk {H : Type} : DataW H → Nat
  | .lit (.string bytes) => bytes.length + 1
  | .lit _ => 1
  | .nil => 1
  | .ptr d => uptoBulk d + 1
  | .slice elems spare => uptoBulkAll elems + uptoBulkAll spare + 1
  | .agg parts => uptoBulkAll parts + 1
  | .iface _ d => uptoBulk d + 1
  | .map entries => uptoBulkEntries entries + 1
  | .held _ => 1
def uptoBulkAll {H : Type} : List (DataW H) → Nat
  | [] => 0
  | d :: r => uptoBulk d + uptoBulkAll r
def uptoBulkEntries {H : Type} : List (Lit × DataW H) → Nat
  | [] => 0
  | x :: r => uptoBulkEntry x + uptoBulkEntries r
def uptoBulkEntry {H : Type} : Lit × DataW H → Nat
  | (.string bytes, d) => bytes.length + uptoBulk d + 1
  | (_, d) => uptoBulk d + 1
 end
def uptoSmall : (H : Type) → List (DataW H) → Bool := fun _ ds => decide (uptoBulkAll ds ≤ 1048576)
def OpenSpec.upto (s : _root_.Go.ChangeSpec) : _root_.Go.OpenSpec := { _root_.Go.OpenSpec.ofChange s with cond := some uptoSmall }

/-- 'bedrocklaw23.AllocBack', WHERE WHAT IT READS IS OF BULK AT MOST 1048576: true; the input reads as it did. -/
def allocBackUptoRow : OpenClaim := { program := "ytmpehclnnjgmcaagreatdoor", sum := "e3c289b48b7eb2a56a9eb3412c735684857eb5ba5d9491e1384072aeca2dd8c3", func := "bedrock/bedrocklaw23.AllocBack", spec := "allocBack", unfollowed := true, recurses := true, named := ["bedrock/crc.nibbles", "bedrock/sizeclass.payload"], apart := false, laid := [("bedrock/crc.nibbles", laid_bedrock_crc_nibbles), ("bedrock/sizeclass.payload", laid_bedrock_sizeclass_payload)], narrowed := true }
def AllocBackUptoSaid : Prop := allocBackUptoRow.holds Tryz.pinned (OpenSpec.upto allocBackSpec)

/-- 'bedrocklaw23.AllocRoom', WHERE WHAT IT READS IS OF BULK AT MOST 1048576: true; the input reads as it did. -/
def allocRoomUptoRow : OpenClaim := { program := "ytmpehclnnjgmcaagreatdoor", sum := "e3c289b48b7eb2a56a9eb3412c735684857eb5ba5d9491e1384072aeca2dd8c3", func := "bedrock/bedrocklaw23.AllocRoom", spec := "allocRoom", unfollowed := true, recurses := true, named := ["bedrock/crc.nibbles", "bedrock/sizeclass.payload"], apart := false, laid := [("bedrock/crc.nibbles", laid_bedrock_crc_nibbles), ("bedrock/sizeclass.payload", laid_bedrock_sizeclass_payload)], narrowed := true }
def AllocRoomUptoSaid : Prop := allocRoomUptoRow.holds Tryz.pinned (OpenSpec.upto allocRoomSpec)

/-- 'bedrocklaw23.AllocPlays', WHERE WHAT IT READS IS OF BULK AT MOST 1048576: true; the input reads as it did. -/
def allocPlaysUptoRow : OpenClaim := { program := "ytmpehclnnjgmcaagreatdoor", sum := "e3c289b48b7eb2a56a9eb3412c735684857eb5ba5d9491e1384072aeca2dd8c3", func := "bedrock/bedrocklaw23.AllocPlays", spec := "allocPlays", unfollowed := true, recurses := true, named := ["bedrock/crc.nibbles", "bedrock/sizeclass.payload"], apart := false, laid := [("bedrock/crc.nibbles", laid_bedrock_crc_nibbles), ("bedrock/sizeclass.payload", laid_bedrock_sizeclass_payload)], narrowed := true }
def AllocPlaysUptoSaid : Prop := allocPlaysUptoRow.holds Tryz.pinned (OpenSpec.upto allocPlaysSpec)

/-- 'bedrocklaw23.AllocContents', WHERE WHAT IT READS IS OF BULK AT MOST 1048576: true; the input reads as it did. -/
def allocContentsUptoRow : OpenClaim := { program := "ytmpehclnnjgmcaagreatdoor", sum := "e3c289b48b7eb2a56a9eb3412c735684857eb5ba5d9491e1384072aeca2dd8c3", func := "bedrock/bedrocklaw23.AllocContents", spec := "allocContents", unfollowed := true, recurses := true, named := ["bedrock/crc.nibbles", "bedrock/sizeclass.payload"], apart := false, laid := [("bedrock/crc.nibbles", laid_bedrock_crc_nibbles), ("bedrock/sizeclass.payload", laid_bedrock_sizeclass_payload)], narrowed := true }
def AllocContentsUptoSaid : Prop := allocContentsUptoRow.holds Tryz.pinned (OpenSpec.upto allocContentsSpec)

/-- 'bedrocklaw23.AllocLocks', WHERE WHAT IT READS IS OF BULK AT MOST 1048576: true; the input reads as it did. -/
def allocLocksUptoRow : OpenClaim := { program := "ytmpehclnnjgmcaagreatdoor", sum := "e3c289b48b7eb2a56a9eb3412c735684857eb5ba5d9491e1384072aeca2dd8c3", func := "bedrock/bedrocklaw23.AllocLocks", spec := "allocLocks", unfollowed := true, recurses := true, named := ["bedrock/crc.nibbles", "bedrock/sizeclass.payload"], apart := false, laid := [("bedrock/crc.nibbles", laid_bedrock_crc_nibbles), ("bedrock/sizeclass.payload", laid_bedrock_sizeclass_payload)], narrowed := true }
def AllocLocksUptoSaid : Prop := allocLocksUptoRow.holds Tryz.pinned (OpenSpec.upto allocLocksSpec)

/-- 'bedrocklaw23.AllocSettles', WHERE WHAT IT READS IS OF BULK AT MOST 1048576: true; the input reads as it did. -/
def allocSettlesUptoRow : OpenClaim := { program := "ytmpehclnnjgmcaagreatdoor", sum := "e3c289b48b7eb2a56a9eb3412c735684857eb5ba5d9491e1384072aeca2dd8c3", func := "bedrock/bedrocklaw23.AllocSettles", spec := "allocSettles", unfollowed := true, recurses := true, named := ["bedrock/crc.nibbles", "bedrock/sizeclass.payload"], apart := false, laid := [("bedrock/crc.nibbles", laid_bedrock_crc_nibbles), ("bedrock/sizeclass.payload", laid_bedrock_sizeclass_payload)], narrowed := true }
def AllocSettlesUptoSaid : Prop := allocSettlesUptoRow.holds Tryz.pinned (OpenSpec.upto allocSettlesSpec)

/-- 'bedrocklaw23.AllocSpaces', WHERE WHAT IT READS IS OF BULK AT MOST 1048576: true; the input reads as it did. -/
def allocSpacesUptoRow : OpenClaim := { program := "ytmpehclnnjgmcaagreatdoor", sum := "e3c289b48b7eb2a56a9eb3412c735684857eb5ba5d9491e1384072aeca2dd8c3", func := "bedrock/bedrocklaw23.AllocSpaces", spec := "allocSpaces", unfollowed := true, recurses := true, named := ["bedrock/crc.nibbles", "bedrock/sizeclass.payload"], apart := false, laid := [("bedrock/crc.nibbles", laid_bedrock_crc_nibbles), ("bedrock/sizeclass.payload", laid_bedrock_sizeclass_payload)], narrowed := true }
def AllocSpacesUptoSaid : Prop := allocSpacesUptoRow.holds Tryz.pinned (OpenSpec.upto allocSpacesSpec)

/-- 'bedrocklaw23.AllocZeroed', WHERE WHAT IT READS IS OF BULK AT MOST 1048576: true; the input reads as it did. -/
def allocZeroedUptoRow : OpenClaim := { program := "ytmpehclnnjgmcaagreatdoor", sum := "e3c289b48b7eb2a56a9eb3412c735684857eb5ba5d9491e1384072aeca2dd8c3", func := "bedrock/bedrocklaw23.AllocZeroed", spec := "allocZeroed", unfollowed := true, recurses := true, named := ["bedrock/crc.nibbles", "bedrock/sizeclass.payload"], apart := false, laid := [("bedrock/crc.nibbles", laid_bedrock_crc_nibbles), ("bedrock/sizeclass.payload", laid_bedrock_sizeclass_payload)], narrowed := true }
def AllocZeroedUptoSaid : Prop := allocZeroedUptoRow.holds Tryz.pinned (OpenSpec.upto allocZeroedSpec)

/-- 'bedrocklaw23.AllocCrashes', WHERE WHAT IT READS IS OF BULK AT MOST 1048576: true; the input reads as it did. -/
def allocCrashesUptoRow : OpenClaim := { program := "ytmpehclnnjgmcaagreatdoor", sum := "e3c289b48b7eb2a56a9eb3412c735684857eb5ba5d9491e1384072aeca2dd8c3", func := "bedrock/bedrocklaw23.AllocCrashes", spec := "allocCrashes", unfollowed := true, recurses := true, named := ["bedrock/crc.nibbles", "bedrock/sizeclass.payload"], apart := false, laid := [("bedrock/crc.nibbles", laid_bedrock_crc_nibbles), ("bedrock/sizeclass.payload", laid_bedrock_sizeclass_payload)], narrowed := true }
def AllocCrashesUptoSaid : Prop := allocCrashesUptoRow.holds Tryz.pinned (OpenSpec.upto allocCrashesSpec)

/-- 'bedrocklaw23.AllocCuts', WHERE WHAT IT READS IS OF BULK AT MOST 1048576: true; the input reads as it did. -/
def allocCutsUptoRow : OpenClaim := { program := "ytmpehclnnjgmcaagreatdoor", sum := "e3c289b48b7eb2a56a9eb3412c735684857eb5ba5d9491e1384072aeca2dd8c3", func := "bedrock/bedrocklaw23.AllocCuts", spec := "allocCuts", unfollowed := true, recurses := true, named := ["bedrock/crc.nibbles", "bedrock/sizeclass.payload"], apart := false, laid := [("bedrock/crc.nibbles", laid_bedrock_crc_nibbles), ("bedrock/sizeclass.payload", laid_bedrock_sizeclass_payload)], narrowed := true }
def AllocCutsUptoSaid : Prop := allocCutsUptoRow.holds Tryz.pinned (OpenSpec.upto allocCutsSpec)

end Rows
end Go.Proofs.YtmpehclnnjgmcaaGreatDoor
