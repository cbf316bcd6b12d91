/-
  NARROWER THAN 'FOR EVERY INPUT', by the rows' own cells (each row's printed sentence says how): ChunkPrograms: laid · ChunkLooks: laid · ChunkPlays: laid · ChunkBursts: laid · ChunkPointers: laid · ChunkStale: laid · ChunkCuts: laid · ChunkAgain: laid · ChunkZero: laid.
  DERIVED. THE GIVEN ROWS OF THIS SEAT. 9 by the template 'for every input the law returns true; each argument reads behind the call as it read before'; 0 by the template 'total and deterministic' (their statements: YtaeopkhdokaaoaaGreatDoorTotals.lean).
  GIVEN WITH THE SEED: the statements are not yours to turn. If you find one false, say at which input.
  Laid BY PROGRAM, IN A SANDBOX (cutbox-rows.mjs): the forced cells as the released guide's own fill.sh prints them over the translation 7c9e5345b5f3ee40… (all of the seat's roots in one cut). By AI agents, Wed Nov 11 2026. No macro, syntax, notation, axiom, sorry.
-/
import Derived.Test.YtaeopkhdokaaoaaGreatDoorChecked
import GoSem.Claim
import GoSem.ClaimJoined
import GoSem.ClaimMapViews
import Derived.JoinedTies
import Derived.KernelRfl
namespace Go.Proofs.YtaeopkhdokaaoaaGreatDoor
/- THE CELL 'sum', in the pinned program and in every row, IS THE sha256 OF THE DUMP (.gsa) THAT YtaeopkhdokaaoaaGreatDoorProg.lean LOADS. Nothing in Lean hashes anything: it is a label: what it is worth is what the hold of that sum in a sandbox is worth. -/
noncomputable def Tryz.pinned : Pinned := { name := "ytaeopkhdokaaoaagreatdoor", sum := "7c9e5345b5f3ee40aa302a640705375e1200e1607f72113fb36fe534a8d825d4", checked := Tryz.checked }
namespace Rows
def none {H : Type} : Left H := { results := [], args := [] }

/- WHAT THE LISTED PACKAGE-LEVEL VARIABLES READ AS WHEN THE CALL BEGINS. Each datum BY PROGRAM (the guide's laid-datum.mjs) off the statement by which the dump's own 'gosem.cut.vars' lays the variable. In a bare row this is a premise. The card (YtaeopkhdokaaoaaGreatDoorCards.lean) ties it to the program's text. -/
def laid_bedrock_crc_nibbles {H : Type} : DataW H := .agg [.lit (.int .u32 0), .lit (.int .u32 274646895), .lit (.int .u32 549293790), .lit (.int .u32 820201905), .lit (.int .u32 1098587580), .lit (.int .u32 1361435347), .lit (.int .u32 1640403810), .lit (.int .u32 1905808397), .lit (.int .u32 2197175160), .lit (.int .u32 2460548119), .lit (.int .u32 2722870694), .lit (.int .u32 2987750089), .lit (.int .u32 3280807620), .lit (.int .u32 3553878443), .lit (.int .u32 3811616794), .lit (.int .u32 4084100981)]
def laid_bedrock_sizeclass_payload {H : Type} : DataW H := .agg [.lit (.int .i64 3), .lit (.int .i64 7), .lit (.int .i64 15), .lit (.int .i64 31), .lit (.int .i64 60)]

/-- 'bedrocklaw21.ChunkPrograms': WHATEVER THE INPUT: true; the input reads as it did. -/
def chunkProgramsSpec : ChangeSpec := { name := "chunkPrograms", fn := fun _ => fun
  | [d1, d2] => { results := [.lit (.bool true)], args := [d1, d2] }
  | _ => none }
def chunkProgramsRow : OpenClaim := { program := "ytaeopkhdokaaoaagreatdoor", sum := "7c9e5345b5f3ee40aa302a640705375e1200e1607f72113fb36fe534a8d825d4", func := "bedrock/bedrocklaw21.ChunkPrograms", spec := "chunkPrograms", unfollowed := true, recurses := true, named := ["bedrock/crc.nibbles", "bedrock/sizeclass.payload"], apart := false, laid := [("bedrock/crc.nibbles", laid_bedrock_crc_nibbles), ("bedrock/sizeclass.payload", laid_bedrock_sizeclass_payload)] }
def ChunkProgramsSaid : Prop := chunkProgramsRow.holds Tryz.pinned (OpenSpec.ofChange chunkProgramsSpec)

/-- ITS FALSE NEIGHBOUR: 'it returns false'. Refute it at one input. -/
def chunkProgramsWrong : ChangeSpec := { name := "chunkPrograms", fn := fun _ => fun
  | [d1, d2] => { results := [.lit (.bool false)], args := [d1, d2] }
  | _ => none }
def ChunkProgramsWrongFalsely : Prop := chunkProgramsRow.holds Tryz.pinned (OpenSpec.ofChange chunkProgramsWrong)

/-- 'bedrocklaw21.ChunkLooks': WHATEVER THE INPUT: true; the input reads as it did. -/
def chunkLooksSpec : ChangeSpec := { name := "chunkLooks", fn := fun _ => fun
  | [d1, d2, d3] => { results := [.lit (.bool true)], args := [d1, d2, d3] }
  | _ => none }
def chunkLooksRow : OpenClaim := { program := "ytaeopkhdokaaoaagreatdoor", sum := "7c9e5345b5f3ee40aa302a640705375e1200e1607f72113fb36fe534a8d825d4", func := "bedrock/bedrocklaw21.ChunkLooks", spec := "chunkLooks", unfollowed := true, recurses := true, named := ["bedrock/crc.nibbles", "bedrock/sizeclass.payload"], apart := false, laid := [("bedrock/crc.nibbles", laid_bedrock_crc_nibbles), ("bedrock/sizeclass.payload", laid_bedrock_sizeclass_payload)] }
def ChunkLooksSaid : Prop := chunkLooksRow.holds Tryz.pinned (OpenSpec.ofChange chunkLooksSpec)

/-- ITS FALSE NEIGHBOUR: 'it returns false'. Refute it at one input. -/
def chunkLooksWrong : ChangeSpec := { name := "chunkLooks", fn := fun _ => fun
  | [d1, d2, d3] => { results := [.lit (.bool false)], args := [d1, d2, d3] }
  | _ => none }
def ChunkLooksWrongFalsely : Prop := chunkLooksRow.holds Tryz.pinned (OpenSpec.ofChange chunkLooksWrong)

/-- 'bedrocklaw21.ChunkPlays': WHATEVER THE INPUT: true; the input reads as it did. -/
def chunkPlaysSpec : ChangeSpec := { name := "chunkPlays", fn := fun _ => fun
  | [d1, d2, d3] => { results := [.lit (.bool true)], args := [d1, d2, d3] }
  | _ => none }
def chunkPlaysRow : OpenClaim := { program := "ytaeopkhdokaaoaagreatdoor", sum := "7c9e5345b5f3ee40aa302a640705375e1200e1607f72113fb36fe534a8d825d4", func := "bedrock/bedrocklaw21.ChunkPlays", spec := "chunkPlays", unfollowed := true, recurses := true, named := ["bedrock/crc.nibbles", "bedrock/sizeclass.payload"], apart := false, laid := [("bedrock/crc.nibbles", laid_bedrock_crc_nibbles), ("bedrock/sizeclass.payload", laid_bedrock_sizeclass_payload)] }
def ChunkPlaysSaid : Prop := chunkPlaysRow.holds Tryz.pinned (OpenSpec.ofChange chunkPlaysSpec)

/-- ITS FALSE NEIGHBOUR: 'it returns false'. Refute it at one input. -/
def chunkPlaysWrong : ChangeSpec := { name := "chunkPlays", fn := fun _ => fun
  | [d1, d2, d3] => { results := [.lit (.bool false)], args := [d1, d2, d3] }
  | _ => none }
def ChunkPlaysWrongFalsely : Prop := chunkPlaysRow.holds Tryz.pinned (OpenSpec.ofChange chunkPlaysWrong)

/-- 'bedrocklaw21.ChunkBursts': WHATEVER THE INPUT: true; the input reads as it did. -/
def chunkBurstsSpec : ChangeSpec := { name := "chunkBursts", fn := fun _ => fun
  | [d1, d2, d3] => { results := [.lit (.bool true)], args := [d1, d2, d3] }
  | _ => none }
def chunkBurstsRow : OpenClaim := { program := "ytaeopkhdokaaoaagreatdoor", sum := "7c9e5345b5f3ee40aa302a640705375e1200e1607f72113fb36fe534a8d825d4", func := "bedrock/bedrocklaw21.ChunkBursts", spec := "chunkBursts", unfollowed := true, recurses := true, named := ["bedrock/crc.nibbles", "bedrock/sizeclass.payload"], apart := false, laid := [("bedrock/crc.nibbles", laid_bedrock_crc_nibbles), ("bedrock/sizeclass.payload", laid_bedrock_sizeclass_payload)] }
def ChunkBurstsSaid : Prop := chunkBurstsRow.holds Tryz.pinned (OpenSpec.ofChange chunkBurstsSpec)

/-- ITS FALSE NEIGHBOUR: 'it returns false'. Refute it at one input. -/
def chunkBurstsWrong : ChangeSpec := { name := "chunkBursts", fn := fun _ => fun
  | [d1, d2, d3] => { results := [.lit (.bool false)], args := [d1, d2, d3] }
  | _ => none }
def ChunkBurstsWrongFalsely : Prop := chunkBurstsRow.holds Tryz.pinned (OpenSpec.ofChange chunkBurstsWrong)

/-- 'bedrocklaw21.ChunkPointers': WHATEVER THE INPUT: true; the input reads as it did. -/
def chunkPointersSpec : ChangeSpec := { name := "chunkPointers", fn := fun _ => fun
  | [d1, d2, d3] => { results := [.lit (.bool true)], args := [d1, d2, d3] }
  | _ => none }
def chunkPointersRow : OpenClaim := { program := "ytaeopkhdokaaoaagreatdoor", sum := "7c9e5345b5f3ee40aa302a640705375e1200e1607f72113fb36fe534a8d825d4", func := "bedrock/bedrocklaw21.ChunkPointers", spec := "chunkPointers", unfollowed := true, recurses := true, named := ["bedrock/crc.nibbles", "bedrock/sizeclass.payload"], apart := false, laid := [("bedrock/crc.nibbles", laid_bedrock_crc_nibbles), ("bedrock/sizeclass.payload", laid_bedrock_sizeclass_payload)] }
def ChunkPointersSaid : Prop := chunkPointersRow.holds Tryz.pinned (OpenSpec.ofChange chunkPointersSpec)

/-- ITS FALSE NEIGHBOUR: 'it returns false'. Refute it at one input. -/
def chunkPointersWrong : ChangeSpec := { name := "chunkPointers", fn := fun _ => fun
  | [d1, d2, d3] => { results := [.lit (.bool false)], args := [d1, d2, d3] }
  | _ => none }
def ChunkPointersWrongFalsely : Prop := chunkPointersRow.holds Tryz.pinned (OpenSpec.ofChange chunkPointersWrong)

/-- 'bedrocklaw21.ChunkStale': WHATEVER THE INPUT: true; the input reads as it did. -/
def chunkStaleSpec : ChangeSpec := { name := "chunkStale", fn := fun _ => fun
  | [d1, d2, d3] => { results := [.lit (.bool true)], args := [d1, d2, d3] }
  | _ => none }
def chunkStaleRow : OpenClaim := { program := "ytaeopkhdokaaoaagreatdoor", sum := "7c9e5345b5f3ee40aa302a640705375e1200e1607f72113fb36fe534a8d825d4", func := "bedrock/bedrocklaw21.ChunkStale", spec := "chunkStale", unfollowed := true, recurses := true, named := ["bedrock/crc.nibbles", "bedrock/sizeclass.payload"], apart := false, laid := [("bedrock/crc.nibbles", laid_bedrock_crc_nibbles), ("bedrock/sizeclass.payload", laid_bedrock_sizeclass_payload)] }
def ChunkStaleSaid : Prop := chunkStaleRow.holds Tryz.pinned (OpenSpec.ofChange chunkStaleSpec)

/-- ITS FALSE NEIGHBOUR: 'it returns false'. Refute it at one input. -/
def chunkStaleWrong : ChangeSpec := { name := "chunkStale", fn := fun _ => fun
  | [d1, d2, d3] => { results := [.lit (.bool false)], args := [d1, d2, d3] }
  | _ => none }
def ChunkStaleWrongFalsely : Prop := chunkStaleRow.holds Tryz.pinned (OpenSpec.ofChange chunkStaleWrong)

/-- 'bedrocklaw21.ChunkCuts': WHATEVER THE INPUT: true; the input reads as it did. -/
def chunkCutsSpec : ChangeSpec := { name := "chunkCuts", fn := fun _ => fun
  | [d1, d2, d3] => { results := [.lit (.bool true)], args := [d1, d2, d3] }
  | _ => none }
def chunkCutsRow : OpenClaim := { program := "ytaeopkhdokaaoaagreatdoor", sum := "7c9e5345b5f3ee40aa302a640705375e1200e1607f72113fb36fe534a8d825d4", func := "bedrock/bedrocklaw21.ChunkCuts", spec := "chunkCuts", unfollowed := true, recurses := true, named := ["bedrock/crc.nibbles", "bedrock/sizeclass.payload"], apart := false, laid := [("bedrock/crc.nibbles", laid_bedrock_crc_nibbles), ("bedrock/sizeclass.payload", laid_bedrock_sizeclass_payload)] }
def ChunkCutsSaid : Prop := chunkCutsRow.holds Tryz.pinned (OpenSpec.ofChange chunkCutsSpec)

/-- ITS FALSE NEIGHBOUR: 'it returns false'. Refute it at one input. -/
def chunkCutsWrong : ChangeSpec := { name := "chunkCuts", fn := fun _ => fun
  | [d1, d2, d3] => { results := [.lit (.bool false)], args := [d1, d2, d3] }
  | _ => none }
def ChunkCutsWrongFalsely : Prop := chunkCutsRow.holds Tryz.pinned (OpenSpec.ofChange chunkCutsWrong)

/-- 'bedrocklaw21.ChunkAgain': WHATEVER THE INPUT: true; the input reads as it did. -/
def chunkAgainSpec : ChangeSpec := { name := "chunkAgain", fn := fun _ => fun
  | [d1, d2, d3] => { results := [.lit (.bool true)], args := [d1, d2, d3] }
  | _ => none }
def chunkAgainRow : OpenClaim := { program := "ytaeopkhdokaaoaagreatdoor", sum := "7c9e5345b5f3ee40aa302a640705375e1200e1607f72113fb36fe534a8d825d4", func := "bedrock/bedrocklaw21.ChunkAgain", spec := "chunkAgain", unfollowed := true, recurses := true, named := ["bedrock/crc.nibbles", "bedrock/sizeclass.payload"], apart := false, laid := [("bedrock/crc.nibbles", laid_bedrock_crc_nibbles), ("bedrock/sizeclass.payload", laid_bedrock_sizeclass_payload)] }
def ChunkAgainSaid : Prop := chunkAgainRow.holds Tryz.pinned (OpenSpec.ofChange chunkAgainSpec)

/-- ITS FALSE NEIGHBOUR: 'it returns false'. Refute it at one input. -/
def chunkAgainWrong : ChangeSpec := { name := "chunkAgain", fn := fun _ => fun
  | [d1, d2, d3] => { results := [.lit (.bool false)], args := [d1, d2, d3] }
  | _ => none }
def ChunkAgainWrongFalsely : Prop := chunkAgainRow.holds Tryz.pinned (OpenSpec.ofChange chunkAgainWrong)

/-- 'bedrocklaw21.ChunkZero': WHATEVER THE INPUT: true; the input reads as it did. -/
def chunkZeroSpec : ChangeSpec := { name := "chunkZero", fn := fun _ => fun
  | [d1, d2] => { results := [.lit (.bool true)], args := [d1, d2] }
  | _ => none }
def chunkZeroRow : OpenClaim := { program := "ytaeopkhdokaaoaagreatdoor", sum := "7c9e5345b5f3ee40aa302a640705375e1200e1607f72113fb36fe534a8d825d4", func := "bedrock/bedrocklaw21.ChunkZero", spec := "chunkZero", unfollowed := true, recurses := true, named := ["bedrock/crc.nibbles", "bedrock/sizeclass.payload"], apart := false, laid := [("bedrock/crc.nibbles", laid_bedrock_crc_nibbles), ("bedrock/sizeclass.payload", laid_bedrock_sizeclass_payload)] }
def ChunkZeroSaid : Prop := chunkZeroRow.holds Tryz.pinned (OpenSpec.ofChange chunkZeroSpec)

/-- ITS FALSE NEIGHBOUR: 'it returns false'. Refute it at one input. -/
def chunkZeroWrong : ChangeSpec := { name := "chunkZero", fn := fun _ => fun
  | [d1, d2] => { results := [.lit (.bool false)], args := [d1, d2] }
  | _ => none }
def ChunkZeroWrongFalsely : Prop := chunkZeroRow.holds Tryz.pinned (OpenSpec.ofChange chunkZeroWrong)

/- THE SECOND FORM. 'bulk': how many values and letters a reading holds, each counted each time it is reached (what is shared counts as often as it is met; a slice's spare places count too). A statement '..UptoSaid' is the law's where the arguments, and the package variables that the reading takes, are together of bulk at most 1048576: NARROWER than '..Said'. Prove '..Said' where nothing that the law and all that it calls make is longer than what came in: it says more and counts as full. Else prove '..UptoSaid'. A law counts once. -/
mutual
def uptoBulk {H : Type} : DataW H → Nat
  | .lit (.string bytes) => bytes.length + 1
  | .lit _ => 1
  | .nil => 1
  | .ptr d => uptoBulk d + 1
  | .slice elems spare => uptoBulkAll elems + uptoBulkAll spare + 1
  | .agg parts => uptoBulkAll parts + 1
  | .iface _ d => uptoBulk d + 1
  | .map entries => uptoBulkEntries entries + 1
  | .held _ => 1
def uptoBulkAll {H : Type} : List (DataW H) → Nat
  | [] => 0
  | d :: r => uptoBulk d + uptoBulkAll r
def uptoBulkEntries {H : Type} : List (Lit × DataW H) → Nat
  | [] => 0
  | x :: r => uptoBulkEntry x + uptoBulkEntries r
def uptoBulkEntry {H : Type} : Lit × DataW H → Nat
  | (.string bytes, d) => bytes.length + uptoBulk d + 1
  | (_, d) => uptoBulk d + 1
 end
def uptoSmall : (H : Type) → List (DataW H) → Bool := fun _ ds => decide (uptoBulkAll ds ≤ 1048576)
def OpenSpec.upto (s : _root_.Go.ChangeSpec) : _root_.Go.OpenSpec := { _root_.Go.OpenSpec.ofChange s with cond := some uptoSmall }

/-- 'bedrocklaw21.ChunkPrograms', WHERE WHAT IT READS IS OF BULK AT MOST 1048576: true; the input reads as it did. -/
def chunkProgramsUptoRow : OpenClaim := { program := "ytaeopkhdokaaoaagreatdoor", sum := "7c9e5345b5f3ee40aa302a640705375e1200e1607f72113fb36fe534a8d825d4", func := "bedrock/bedrocklaw21.ChunkPrograms", spec := "chunkPrograms", unfollowed := true, recurses := true, named := ["bedrock/crc.nibbles", "bedrock/sizeclass.payload"], apart := false, laid := [("bedrock/crc.nibbles", laid_bedrock_crc_nibbles), ("bedrock/sizeclass.payload", laid_bedrock_sizeclass_payload)], narrowed := true }
def ChunkProgramsUptoSaid : Prop := chunkProgramsUptoRow.holds Tryz.pinned (OpenSpec.upto chunkProgramsSpec)

/-- 'bedrocklaw21.ChunkLooks', WHERE WHAT IT READS IS OF BULK AT MOST 1048576: true; the input reads as it did. -/
def chunkLooksUptoRow : OpenClaim := { program := "ytaeopkhdokaaoaagreatdoor", sum := "7c9e5345b5f3ee40aa302a640705375e1200e1607f72113fb36fe534a8d825d4", func := "bedrock/bedrocklaw21.ChunkLooks", spec := "chunkLooks", unfollowed := true, recurses := true, named := ["bedrock/crc.nibbles", "bedrock/sizeclass.payload"], apart := false, laid := [("bedrock/crc.nibbles", laid_bedrock_crc_nibbles), ("bedrock/sizeclass.payload", laid_bedrock_sizeclass_payload)], narrowed := true }
def ChunkLooksUptoSaid : Prop := chunkLooksUptoRow.holds Tryz.pinned (OpenSpec.upto chunkLooksSpec)

/-- 'bedrocklaw21.ChunkPlays', WHERE WHAT IT READS IS OF BULK AT MOST 1048576: true; the input reads as it did. -/
def chunkPlaysUptoRow : OpenClaim := { program := "ytaeopkhdokaaoaagreatdoor", sum := "7c9e5345b5f3ee40aa302a640705375e1200e1607f72113fb36fe534a8d825d4", func := "bedrock/bedrocklaw21.ChunkPlays", spec := "chunkPlays", unfollowed := true, recurses := true, named := ["bedrock/crc.nibbles", "bedrock/sizeclass.payload"], apart := false, laid := [("bedrock/crc.nibbles", laid_bedrock_crc_nibbles), ("bedrock/sizeclass.payload", laid_bedrock_sizeclass_payload)], narrowed := true }
def ChunkPlaysUptoSaid : Prop := chunkPlaysUptoRow.holds Tryz.pinned (OpenSpec.upto chunkPlaysSpec)

/-- 'bedrocklaw21.ChunkBursts', WHERE WHAT IT READS IS OF BULK AT MOST 1048576: true; the input reads as it did. -/
def chunkBurstsUptoRow : OpenClaim := { program := "ytaeopkhdokaaoaagreatdoor", sum := "7c9e5345b5f3ee40aa302a640705375e1200e1607f72113fb36fe534a8d825d4", func := "bedrock/bedrocklaw21.ChunkBursts", spec := "chunkBursts", unfollowed := true, recurses := true, named := ["bedrock/crc.nibbles", "bedrock/sizeclass.payload"], apart := false, laid := [("bedrock/crc.nibbles", laid_bedrock_crc_nibbles), ("bedrock/sizeclass.payload", laid_bedrock_sizeclass_payload)], narrowed := true }
def ChunkBurstsUptoSaid : Prop := chunkBurstsUptoRow.holds Tryz.pinned (OpenSpec.upto chunkBurstsSpec)

/-- 'bedrocklaw21.ChunkPointers', WHERE WHAT IT READS IS OF BULK AT MOST 1048576: true; the input reads as it did. -/
def chunkPointersUptoRow : OpenClaim := { program := "ytaeopkhdokaaoaagreatdoor", sum := "7c9e5345b5f3ee40aa302a640705375e1200e1607f72113fb36fe534a8d825d4", func := "bedrock/bedrocklaw21.ChunkPointers", spec := "chunkPointers", unfollowed := true, recurses := true, named := ["bedrock/crc.nibbles", "bedrock/sizeclass.payload"], apart := false, laid := [("bedrock/crc.nibbles", laid_bedrock_crc_nibbles), ("bedrock/sizeclass.payload", laid_bedrock_sizeclass_payload)], narrowed := true }
def ChunkPointersUptoSaid : Prop := chunkPointersUptoRow.holds Tryz.pinned (OpenSpec.upto chunkPointersSpec)

/-- 'bedrocklaw21.ChunkStale', WHERE WHAT IT READS IS OF BULK AT MOST 1048576: true; the input reads as it did. -/
def chunkStaleUptoRow : OpenClaim := { program := "ytaeopkhdokaaoaagreatdoor", sum := "7c9e5345b5f3ee40aa302a640705375e1200e1607f72113fb36fe534a8d825d4", func := "bedrock/bedrocklaw21.ChunkStale", spec := "chunkStale", unfollowed := true, recurses := true, named := ["bedrock/crc.nibbles", "bedrock/sizeclass.payload"], apart := false, laid := [("bedrock/crc.nibbles", laid_bedrock_crc_nibbles), ("bedrock/sizeclass.payload", laid_bedrock_sizeclass_payload)], narrowed := true }
def ChunkStaleUptoSaid : Prop := chunkStaleUptoRow.holds Tryz.pinned (OpenSpec.upto chunkStaleSpec)

/-- 'bedrocklaw21.ChunkCuts', WHERE WHAT IT READS IS OF BULK AT MOST 1048576: true; the input reads as it did. -/
def chunkCutsUptoRow : OpenClaim := { program := "ytaeopkhdokaaoaagreatdoor", sum := "7c9e5345b5f3ee40aa302a640705375e1200e1607f72113fb36fe534a8d825d4", func := "bedrock/bedrocklaw21.ChunkCuts", spec := "chunkCuts", unfollowed := true, recurses := true, named := ["bedrock/crc.nibbles", "bedrock/sizeclass.payload"], apart := false, laid := [("bedrock/crc.nibbles", laid_bedrock_crc_nibbles), ("bedrock/sizeclass.payload", laid_bedrock_sizeclass_payload)], narrowed := true }
def ChunkCutsUptoSaid : Prop := chunkCutsUptoRow.holds Tryz.pinned (OpenSpec.upto chunkCutsSpec)

/-- 'bedrocklaw21.ChunkAgain', WHERE WHAT IT READS IS OF BULK AT MOST 1048576: true; the input reads as it did. -/
def chunkAgainUptoRow : OpenClaim := { program := "ytaeopkhdokaaoaagreatdoor", sum := "7c9e5345b5f3ee40aa302a640705375e1200e1607f72113fb36fe534a8d825d4", func := "bedrock/bedrocklaw21.ChunkAgain", spec := "chunkAgain", unfollowed := true, recurses := true, named := ["bedrock/crc.nibbles", "bedrock/sizeclass.payload"], apart := false, laid := [("bedrock/crc.nibbles", laid_bedrock_crc_nibbles), ("bedrock/sizeclass.payload", laid_bedrock_sizeclass_payload)], narrowed := true }
def ChunkAgainUptoSaid : Prop := chunkAgainUptoRow.holds Tryz.pinned (OpenSpec.upto chunkAgainSpec)

/-- 'bedrocklaw21.ChunkZero', WHERE WHAT IT READS IS OF BULK AT MOST 1048576: true; the input reads as it did. -/
def chunkZeroUptoRow : OpenClaim := { program := "ytaeopkhdokaaoaagreatdoor", sum := "7c9e5345b5f3ee40aa302a640705375e1200e1607f72113fb36fe534a8d825d4", func := "bedrock/bedrocklaw21.ChunkZero", spec := "chunkZero", unfollowed := true, recurses := true, named := ["bedrock/crc.nibbles", "bedrock/sizeclass.payload"], apart := false, laid := [("bedrock/crc.nibbles", laid_bedrock_crc_nibbles), ("bedrock/sizeclass.payload", laid_bedrock_sizeclass_payload)], narrowed := true }
def ChunkZeroUptoSaid : Prop := chunkZeroUptoRow.holds Tryz.pinned (OpenSpec.upto chunkZeroSpec)

end Rows
end Go.Proofs.YtaeopkhdokaaoaaGreatDoor
