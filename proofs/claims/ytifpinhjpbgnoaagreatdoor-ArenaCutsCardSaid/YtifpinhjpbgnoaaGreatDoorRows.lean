/-
  NARROWER THAN 'FOR EVERY INPUT', by the rows' own cells (each row's printed sentence says how): ArenaOpens: laid · ArenaPlays: laid · ArenaReopens: laid · ArenaApart: laid · ArenaCuts: laid.
  DERIVED. THE GIVEN ROWS OF THIS SEAT. 5 by the template 'for every input the law returns true; each argument reads behind the call as it read before'; 0 by the template 'total and deterministic' (their statements: YtifpinhjpbgnoaaGreatDoorTotals.lean).
  GIVEN WITH THE SEED: the statements are not yours to turn. If you find one false, say at which input.
  Laid BY PROGRAM, IN A SANDBOX (cutbox-rows.mjs): the forced cells as the released guide's own fill.sh prints them over the translation a537b665022a8b01… (all of the seat's roots in one cut). By AI agents, Wed Nov 11 2026. No macro, syntax, notation, axiom, sorry.
-/
import Derived.Test.YtifpinhjpbgnoaaGreatDoorChecked
import GoSem.Claim
import GoSem.ClaimJoined
import GoSem.ClaimMapViews
import Derived.JoinedTies
import Derived.KernelRfl
namespace Go.Proofs.YtifpinhjpbgnoaaGreatDoor
/- THE CELL 'sum', in the pinned program and in every row, IS THE sha256 OF THE DUMP (.gsa) THAT YtifpinhjpbgnoaaGreatDoorProg.lean LOADS. Nothing in Lean hashes anything: it is a label: what it is worth is what the hold of that sum in a sandbox is worth. -/
noncomputable def Tryz.pinned : Pinned := { name := "ytifpinhjpbgnoaagreatdoor", sum := "a537b665022a8b014c024dc9c07a42eaecafe18f0f4a4d45950c40c9bc9c711d", checked := Tryz.checked }
namespace Rows
def none {H : Type} : Left H := { results := [], args := [] }

/- WHAT THE LISTED PACKAGE-LEVEL VARIABLES READ AS WHEN THE CALL BEGINS. Each datum BY PROGRAM (the guide's laid-datum.mjs) off the statement by which the dump's own 'gosem.cut.vars' lays the variable. In a bare row this is a premise. The card (YtifpinhjpbgnoaaGreatDoorCards.lean) ties it to the program's text. -/
def laid_bedrock_crc_nibbles {H : Type} : DataW H := .agg [.lit (.int .u32 0), .lit (.int .u32 274646895), .lit (.int .u32 549293790), .lit (.int .u32 820201905), .lit (.int .u32 1098587580), .lit (.int .u32 1361435347), .lit (.int .u32 1640403810), .lit (.int .u32 1905808397), .lit (.int .u32 2197175160), .lit (.int .u32 2460548119), .lit (.int .u32 2722870694), .lit (.int .u32 2987750089), .lit (.int .u32 3280807620), .lit (.int .u32 3553878443), .lit (.int .u32 3811616794), .lit (.int .u32 4084100981)]
def laid_bedrock_sizeclass_payload {H : Type} : DataW H := .agg [.lit (.int .i64 3), .lit (.int .i64 7), .lit (.int .i64 15), .lit (.int .i64 31), .lit (.int .i64 60)]

/-- 'bedrocklaw22.ArenaOpens': WHATEVER THE INPUT: true; the input reads as it did. -/
def arenaOpensSpec : ChangeSpec := { name := "arenaOpens", fn := fun _ => fun
  | [d1, d2] => { results := [.lit (.bool true)], args := [d1, d2] }
  | _ => none }
def arenaOpensRow : OpenClaim := { program := "ytifpinhjpbgnoaagreatdoor", sum := "a537b665022a8b014c024dc9c07a42eaecafe18f0f4a4d45950c40c9bc9c711d", func := "bedrock/bedrocklaw22.ArenaOpens", spec := "arenaOpens", unfollowed := true, recurses := true, named := ["bedrock/crc.nibbles", "bedrock/sizeclass.payload"], apart := false, laid := [("bedrock/crc.nibbles", laid_bedrock_crc_nibbles), ("bedrock/sizeclass.payload", laid_bedrock_sizeclass_payload)] }
def ArenaOpensSaid : Prop := arenaOpensRow.holds Tryz.pinned (OpenSpec.ofChange arenaOpensSpec)

/-- ITS FALSE NEIGHBOUR: 'it returns false'. Refute it at one input. -/
def arenaOpensWrong : ChangeSpec := { name := "arenaOpens", fn := fun _ => fun
  | [d1, d2] => { results := [.lit (.bool false)], args := [d1, d2] }
  | _ => none }
def ArenaOpensWrongFalsely : Prop := arenaOpensRow.holds Tryz.pinned (OpenSpec.ofChange arenaOpensWrong)

/-- 'bedrocklaw22.ArenaPlays': WHATEVER THE INPUT: true; the input reads as it did. -/
def arenaPlaysSpec : ChangeSpec := { name := "arenaPlays", fn := fun _ => fun
  | [d1, d2] => { results := [.lit (.bool true)], args := [d1, d2] }
  | _ => none }
def arenaPlaysRow : OpenClaim := { program := "ytifpinhjpbgnoaagreatdoor", sum := "a537b665022a8b014c024dc9c07a42eaecafe18f0f4a4d45950c40c9bc9c711d", func := "bedrock/bedrocklaw22.ArenaPlays", spec := "arenaPlays", unfollowed := true, recurses := true, named := ["bedrock/crc.nibbles", "bedrock/sizeclass.payload"], apart := false, laid := [("bedrock/crc.nibbles", laid_bedrock_crc_nibbles), ("bedrock/sizeclass.payload", laid_bedrock_sizeclass_payload)] }
def ArenaPlaysSaid : Prop := arenaPlaysRow.holds Tryz.pinned (OpenSpec.ofChange arenaPlaysSpec)

/-- ITS FALSE NEIGHBOUR: 'it returns false'. Refute it at one input. -/
def arenaPlaysWrong : ChangeSpec := { name := "arenaPlays", fn := fun _ => fun
  | [d1, d2] => { results := [.lit (.bool false)], args := [d1, d2] }
  | _ => none }
def ArenaPlaysWrongFalsely : Prop := arenaPlaysRow.holds Tryz.pinned (OpenSpec.ofChange arenaPlaysWrong)

/-- 'bedrocklaw22.ArenaReopens': WHATEVER THE INPUT: true; the input reads as it did. -/
def arenaReopensSpec : ChangeSpec := { name := "arenaReopens", fn := fun _ => fun
  | [d1, d2, d3] => { results := [.lit (.bool true)], args := [d1, d2, d3] }
  | _ => none }
def arenaReopensRow : OpenClaim := { program := "ytifpinhjpbgnoaagreatdoor", sum := "a537b665022a8b014c024dc9c07a42eaecafe18f0f4a4d45950c40c9bc9c711d", func := "bedrock/bedrocklaw22.ArenaReopens", spec := "arenaReopens", unfollowed := true, recurses := true, named := ["bedrock/crc.nibbles", "bedrock/sizeclass.payload"], apart := false, laid := [("bedrock/crc.nibbles", laid_bedrock_crc_nibbles), ("bedrock/sizeclass.payload", laid_bedrock_sizeclass_payload)] }
def ArenaReopensSaid : Prop := arenaReopensRow.holds Tryz.pinned (OpenSpec.ofChange arenaReopensSpec)

/-- ITS FALSE NEIGHBOUR: 'it returns false'. Refute it at one input. -/
def arenaReopensWrong : ChangeSpec := { name := "arenaReopens", fn := fun _ => fun
  | [d1, d2, d3] => { results := [.lit (.bool false)], args := [d1, d2, d3] }
  | _ => none }
def ArenaReopensWrongFalsely : Prop := arenaReopensRow.holds Tryz.pinned (OpenSpec.ofChange arenaReopensWrong)

/-- 'bedrocklaw22.ArenaApart': WHATEVER THE INPUT: true; the input reads as it did. -/
def arenaApartSpec : ChangeSpec := { name := "arenaApart", fn := fun _ => fun
  | [d1, d2] => { results := [.lit (.bool true)], args := [d1, d2] }
  | _ => none }
def arenaApartRow : OpenClaim := { program := "ytifpinhjpbgnoaagreatdoor", sum := "a537b665022a8b014c024dc9c07a42eaecafe18f0f4a4d45950c40c9bc9c711d", func := "bedrock/bedrocklaw22.ArenaApart", spec := "arenaApart", unfollowed := true, recurses := true, named := ["bedrock/crc.nibbles", "bedrock/sizeclass.payload"], apart := false, laid := [("bedrock/crc.nibbles", laid_bedrock_crc_nibbles), ("bedrock/sizeclass.payload", laid_bedrock_sizeclass_payload)] }
def ArenaApartSaid : Prop := arenaApartRow.holds Tryz.pinned (OpenSpec.ofChange arenaApartSpec)

/-- ITS FALSE NEIGHBOUR: 'it returns false'. Refute it at one input. -/
def arenaApartWrong : ChangeSpec := { name := "arenaApart", fn := fun _ => fun
  | [d1, d2] => { results := [.lit (.bool false)], args := [d1, d2] }
  | _ => none }
def ArenaApartWrongFalsely : Prop := arenaApartRow.holds Tryz.pinned (OpenSpec.ofChange arenaApartWrong)

/-- 'bedrocklaw22.ArenaCuts': WHATEVER THE INPUT: true; the input reads as it did. -/
def arenaCutsSpec : ChangeSpec := { name := "arenaCuts", fn := fun _ => fun
  | [d1, d2, d3] => { results := [.lit (.bool true)], args := [d1, d2, d3] }
  | _ => none }
def arenaCutsRow : OpenClaim := { program := "ytifpinhjpbgnoaagreatdoor", sum := "a537b665022a8b014c024dc9c07a42eaecafe18f0f4a4d45950c40c9bc9c711d", func := "bedrock/bedrocklaw22.ArenaCuts", spec := "arenaCuts", unfollowed := true, recurses := true, named := ["bedrock/crc.nibbles", "bedrock/sizeclass.payload"], apart := false, laid := [("bedrock/crc.nibbles", laid_bedrock_crc_nibbles), ("bedrock/sizeclass.payload", laid_bedrock_sizeclass_payload)] }
def ArenaCutsSaid : Prop := arenaCutsRow.holds Tryz.pinned (OpenSpec.ofChange arenaCutsSpec)

/-- ITS FALSE NEIGHBOUR: 'it returns false'. Refute it at one input. -/
def arenaCutsWrong : ChangeSpec := { name := "arenaCuts", fn := fun _ => fun
  | [d1, d2, d3] => { results := [.lit (.bool false)], args := [d1, d2, d3] }
  | _ => none }
def ArenaCutsWrongFalsely : Prop := arenaCutsRow.holds Tryz.pinned (OpenSpec.ofChange arenaCutsWrong)

/- THE SECOND FORM. 'bulk': how many values and letters a reading holds, each counted each time it is reached (what is shared counts as often as it is met; a slice's spare places count too). A statement '..UptoSaid' is the law's where the arguments, and the package variables that the reading takes, are together of bulk at most 1048576: NARROWER than '..Said'. Prove '..Said' where nothing that the law and all that it calls make is longer than what came in: it says more and counts as full. Else prove '..UptoSaid'. A law counts once. -/
mutual
def uptoBulk {H : Type} : DataW H → Nat
  | .lit (.string bytes) => bytes.length + 1
  | .lit _ => 1
  | .nil => 1
  | .ptr d => uptoBulk d + 1
  | .slice elems spare => uptoBulkAll elems + uptoBulkAll spare + 1
  | .agg parts => uptoBulkAll parts + 1
  | .iface _ d => uptoBulk d + 1
  | .map entries => uptoBulkEntries entries + 1
  | .held _ => 1
def uptoBulkAll {H : Type} : List (DataW H) → Nat
  | [] => 0
  | d :: r => uptoBulk d + uptoBulkAll r
def uptoBulkEntries {H : Type} : List (Lit × DataW H) → Nat
  | [] => 0
  | x :: r => uptoBulkEntry x + uptoBulkEntries r
def uptoBulkEntry {H : Type} : Lit × DataW H → Nat
  | (.string bytes, d) => bytes.length + uptoBulk d + 1
  | (_, d) => uptoBulk d + 1
 end
def uptoSmall : (H : Type) → List (DataW H) → Bool := fun _ ds => decide (uptoBulkAll ds ≤ 1048576)
def OpenSpec.upto (s : _root_.Go.ChangeSpec) : _root_.Go.OpenSpec := { _root_.Go.OpenSpec.ofChange s with cond := some uptoSmall }

/-- 'bedrocklaw22.ArenaOpens', WHERE WHAT IT READS IS OF BULK AT MOST 1048576: true; the input reads as it did. -/
def arenaOpensUptoRow : OpenClaim := { program := "ytifpinhjpbgnoaagreatdoor", sum := "a537b665022a8b014c024dc9c07a42eaecafe18f0f4a4d45950c40c9bc9c711d", func := "bedrock/bedrocklaw22.ArenaOpens", spec := "arenaOpens", unfollowed := true, recurses := true, named := ["bedrock/crc.nibbles", "bedrock/sizeclass.payload"], apart := false, laid := [("bedrock/crc.nibbles", laid_bedrock_crc_nibbles), ("bedrock/sizeclass.payload", laid_bedrock_sizeclass_payload)], narrowed := true }
def ArenaOpensUptoSaid : Prop := arenaOpensUptoRow.holds Tryz.pinned (OpenSpec.upto arenaOpensSpec)

/-- 'bedrocklaw22.ArenaPlays', WHERE WHAT IT READS IS OF BULK AT MOST 1048576: true; the input reads as it did. -/
def arenaPlaysUptoRow : OpenClaim := { program := "ytifpinhjpbgnoaagreatdoor", sum := "a537b665022a8b014c024dc9c07a42eaecafe18f0f4a4d45950c40c9bc9c711d", func := "bedrock/bedrocklaw22.ArenaPlays", spec := "arenaPlays", unfollowed := true, recurses := true, named := ["bedrock/crc.nibbles", "bedrock/sizeclass.payload"], apart := false, laid := [("bedrock/crc.nibbles", laid_bedrock_crc_nibbles), ("bedrock/sizeclass.payload", laid_bedrock_sizeclass_payload)], narrowed := true }
def ArenaPlaysUptoSaid : Prop := arenaPlaysUptoRow.holds Tryz.pinned (OpenSpec.upto arenaPlaysSpec)

/-- 'bedrocklaw22.ArenaReopens', WHERE WHAT IT READS IS OF BULK AT MOST 1048576: true; the input reads as it did. -/
def arenaReopensUptoRow : OpenClaim := { program := "ytifpinhjpbgnoaagreatdoor", sum := "a537b665022a8b014c024dc9c07a42eaecafe18f0f4a4d45950c40c9bc9c711d", func := "bedrock/bedrocklaw22.ArenaReopens", spec := "arenaReopens", unfollowed := true, recurses := true, named := ["bedrock/crc.nibbles", "bedrock/sizeclass.payload"], apart := false, laid := [("bedrock/crc.nibbles", laid_bedrock_crc_nibbles), ("bedrock/sizeclass.payload", laid_bedrock_sizeclass_payload)], narrowed := true }
def ArenaReopensUptoSaid : Prop := arenaReopensUptoRow.holds Tryz.pinned (OpenSpec.upto arenaReopensSpec)

/-- 'bedrocklaw22.ArenaApart', WHERE WHAT IT READS IS OF BULK AT MOST 1048576: true; the input reads as it did. -/
def arenaApartUptoRow : OpenClaim := { program := "ytifpinhjpbgnoaagreatdoor", sum := "a537b665022a8b014c024dc9c07a42eaecafe18f0f4a4d45950c40c9bc9c711d", func := "bedrock/bedrocklaw22.ArenaApart", spec := "arenaApart", unfollowed := true, recurses := true, named := ["bedrock/crc.nibbles", "bedrock/sizeclass.payload"], apart := false, laid := [("bedrock/crc.nibbles", laid_bedrock_crc_nibbles), ("bedrock/sizeclass.payload", laid_bedrock_sizeclass_payload)], narrowed := true }
def ArenaApartUptoSaid : Prop := arenaApartUptoRow.holds Tryz.pinned (OpenSpec.upto arenaApartSpec)

/-- 'bedrocklaw22.ArenaCuts', WHERE WHAT IT READS IS OF BULK AT MOST 1048576: true; the input reads as it did. -/
def arenaCutsUptoRow : OpenClaim := { program := "ytifpinhjpbgnoaagreatdoor", sum := "a537b665022a8b014c024dc9c07a42eaecafe18f0f4a4d45950c40c9bc9c711d", func := "bedrock/bedrocklaw22.ArenaCuts", spec := "arenaCuts", unfollowed := true, recurses := true, named := ["bedrock/crc.nibbles", "bedrock/sizeclass.payload"], apart := false, laid := [("bedrock/crc.nibbles", laid_bedrock_crc_nibbles), ("bedrock/sizeclass.payload", laid_bedrock_sizeclass_payload)], narrowed := true }
def ArenaCutsUptoSaid : Prop := arenaCutsUptoRow.holds Tryz.pinned (OpenSpec.upto arenaCutsSpec)

end Rows
end Go.Proofs.YtifpinhjpbgnoaaGreatDoor
