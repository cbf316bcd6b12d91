/-
  NARROWER THAN 'FOR EVERY INPUT', by the rows' own cells (each row's printed sentence says how): ReachShapes: laid · ReachStandard: laid · IndexEntries: laid · IndexRanges: laid · IndexHolds: laid · CursorTakes: laid.
  DERIVED. THE GIVEN ROWS OF THIS SEAT. 6 by the template 'for every input the law returns true; each argument reads behind the call as it read before'; 0 by the template 'total and deterministic' (their statements: YtjegifbmbianiaaGreatDoorTotals.lean).
  GIVEN WITH THE SEED: the statements are not yours to turn. If you find one false, say at which input.
  Laid BY PROGRAM, IN A SANDBOX (cutbox-rows.mjs): the forced cells as the released guide's own fill.sh prints them over the translation c800307e73f90bdf… (all of the seat's roots in one cut). By AI agents, Wed Nov 11 2026. No macro, syntax, notation, axiom, sorry.
-/
import Derived.Test.YtjegifbmbianiaaGreatDoorChecked
import GoSem.PinnedTables
import GoSem.Claim
import GoSem.ClaimJoined
import GoSem.ClaimMapViews
import Derived.JoinedTies
import Derived.KernelRfl
namespace Go.Proofs.YtjegifbmbianiaaGreatDoor
/- THE CELL 'sum', in the pinned program and in every row, IS THE sha256 OF THE DUMP (.gsa) THAT YtjegifbmbianiaaGreatDoorProg.lean LOADS. Nothing in Lean hashes anything: it is a label: what it is worth is what the hold of that sum in a sandbox is worth. -/
noncomputable def Tryz.pinned : Pinned := { name := "ytjegifbmbianiaagreatdoor", sum := "c800307e73f90bdf08f852399184f89bc16746504e2cb04c9ea1e3d6f8f36218", checked := Tryz.checked }
namespace Rows
def none {H : Type} : Left H := { results := [], args := [] }

/- WHAT THE LISTED PACKAGE-LEVEL VARIABLES READ AS WHEN THE CALL BEGINS. Each datum BY PROGRAM (the guide's laid-datum.mjs) off the statement by which the dump's own 'gosem.cut.vars' lays the variable. In a bare row this is a premise. The card (YtjegifbmbianiaaGreatDoorCards.lean) ties it to the program's text. -/
def laid_bedrock_crc_nibbles {H : Type} : DataW H := .agg [.lit (.int .u32 0), .lit (.int .u32 274646895), .lit (.int .u32 549293790), .lit (.int .u32 820201905), .lit (.int .u32 1098587580), .lit (.int .u32 1361435347), .lit (.int .u32 1640403810), .lit (.int .u32 1905808397), .lit (.int .u32 2197175160), .lit (.int .u32 2460548119), .lit (.int .u32 2722870694), .lit (.int .u32 2987750089), .lit (.int .u32 3280807620), .lit (.int .u32 3553878443), .lit (.int .u32 3811616794), .lit (.int .u32 4084100981)]
def laid_bedrock_sizeclass_payload {H : Type} : DataW H := .agg [.lit (.int .i64 3), .lit (.int .i64 7), .lit (.int .i64 15), .lit (.int .i64 31), .lit (.int .i64 60)]
def laid_unicode_utf8_acceptRanges {H : Type} : DataW H := .agg [.agg [.lit (.int .u8 128), .lit (.int .u8 191)], .agg [.lit (.int .u8 160), .lit (.int .u8 191)], .agg [.lit (.int .u8 128), .lit (.int .u8 159)], .agg [.lit (.int .u8 144), .lit (.int .u8 191)], .agg [.lit (.int .u8 128), .lit (.int .u8 143)], .agg [.lit (.int .u8 0), .lit (.int .u8 0)], .agg [.lit (.int .u8 0), .lit (.int .u8 0)], .agg [.lit (.int .u8 0), .lit (.int .u8 0)], .agg [.lit (.int .u8 0), .lit (.int .u8 0)], .agg [.lit (.int .u8 0), .lit (.int .u8 0)], .agg [.lit (.int .u8 0), .lit (.int .u8 0)], .agg [.lit (.int .u8 0), .lit (.int .u8 0)], .agg [.lit (.int .u8 0), .lit (.int .u8 0)], .agg [.lit (.int .u8 0), .lit (.int .u8 0)], .agg [.lit (.int .u8 0), .lit (.int .u8 0)], .agg [.lit (.int .u8 0), .lit (.int .u8 0)]]
/-- One of Go's own tables, pinned by name: the form's constant. -/
def laid_unicode_utf8_first : DataW Unit := Go.Pinned.utf8First

/-- 'bedrocklaw27.ReachShapes': WHATEVER THE INPUT: true; the input reads as it did. -/
def reachShapesSpec : ChangeSpec := { name := "reachShapes", fn := fun _ => fun
  | [d1, d2, d3] => { results := [.lit (.bool true)], args := [d1, d2, d3] }
  | _ => none }
def reachShapesRow : OpenClaim := { program := "ytjegifbmbianiaagreatdoor", sum := "c800307e73f90bdf08f852399184f89bc16746504e2cb04c9ea1e3d6f8f36218", func := "bedrock/bedrocklaw27.ReachShapes", spec := "reachShapes", unfollowed := true, recurses := true, named := ["bedrock/crc.nibbles", "bedrock/sizeclass.payload"], apart := false, laid := [("bedrock/crc.nibbles", laid_bedrock_crc_nibbles), ("bedrock/sizeclass.payload", laid_bedrock_sizeclass_payload)] }
def ReachShapesSaid : Prop := reachShapesRow.holds Tryz.pinned (OpenSpec.ofChange reachShapesSpec)

/-- ITS FALSE NEIGHBOUR: 'it returns false'. Refute it at one input. -/
def reachShapesWrong : ChangeSpec := { name := "reachShapes", fn := fun _ => fun
  | [d1, d2, d3] => { results := [.lit (.bool false)], args := [d1, d2, d3] }
  | _ => none }
def ReachShapesWrongFalsely : Prop := reachShapesRow.holds Tryz.pinned (OpenSpec.ofChange reachShapesWrong)

/-- 'bedrocklaw27.ReachStandard': WHATEVER THE INPUT: true; the input reads as it did. -/
def reachStandardSpec : ChangeSpec := { name := "reachStandard", fn := fun _ => fun
  | [d1, d2] => { results := [.lit (.bool true)], args := [d1, d2] }
  | _ => none }
def reachStandardRow : OpenClaim := { program := "ytjegifbmbianiaagreatdoor", sum := "c800307e73f90bdf08f852399184f89bc16746504e2cb04c9ea1e3d6f8f36218", func := "bedrock/bedrocklaw27.ReachStandard", spec := "reachStandard", unfollowed := true, recurses := true, named := ["bedrock/crc.nibbles", "bedrock/sizeclass.payload"], apart := false, laid := [("bedrock/crc.nibbles", laid_bedrock_crc_nibbles), ("bedrock/sizeclass.payload", laid_bedrock_sizeclass_payload)] }
def ReachStandardSaid : Prop := reachStandardRow.holds Tryz.pinned (OpenSpec.ofChange reachStandardSpec)

/-- ITS FALSE NEIGHBOUR: 'it returns false'. Refute it at one input. -/
def reachStandardWrong : ChangeSpec := { name := "reachStandard", fn := fun _ => fun
  | [d1, d2] => { results := [.lit (.bool false)], args := [d1, d2] }
  | _ => none }
def ReachStandardWrongFalsely : Prop := reachStandardRow.holds Tryz.pinned (OpenSpec.ofChange reachStandardWrong)

/-- 'bedrocklaw41.IndexEntries': WHATEVER THE INPUT: true; the input reads as it did. -/
def indexEntriesSpec : ChangeSpec := { name := "indexEntries", fn := fun _ => fun
  | [d1, d2, d3] => { results := [.lit (.bool true)], args := [d1, d2, d3] }
  | _ => none }
def indexEntriesRow : OpenClaim := { program := "ytjegifbmbianiaagreatdoor", sum := "c800307e73f90bdf08f852399184f89bc16746504e2cb04c9ea1e3d6f8f36218", func := "bedrock/bedrocklaw41.IndexEntries", spec := "indexEntries", inPlace := ["slices.overlaps[uint64]", "internal/bytealg.abigen_runtime_cmpstring"], unfollowed := true, recurses := true, named := ["unicode/utf8.first", "unicode/utf8.acceptRanges", "bedrock/crc.nibbles", "bedrock/sizeclass.payload"], apart := false, laid := [("bedrock/crc.nibbles", laid_bedrock_crc_nibbles), ("bedrock/sizeclass.payload", laid_bedrock_sizeclass_payload), ("unicode/utf8.acceptRanges", laid_unicode_utf8_acceptRanges), ("unicode/utf8.first", laid_unicode_utf8_first)] }
def IndexEntriesSaid : Prop := indexEntriesRow.holds Tryz.pinned (OpenSpec.ofChange indexEntriesSpec)

/-- ITS FALSE NEIGHBOUR: 'it returns false'. Refute it at one input. -/
def indexEntriesWrong : ChangeSpec := { name := "indexEntries", fn := fun _ => fun
  | [d1, d2, d3] => { results := [.lit (.bool false)], args := [d1, d2, d3] }
  | _ => none }
def IndexEntriesWrongFalsely : Prop := indexEntriesRow.holds Tryz.pinned (OpenSpec.ofChange indexEntriesWrong)

/-- 'bedrocklaw41.IndexRanges': WHATEVER THE INPUT: true; the input reads as it did. -/
def indexRangesSpec : ChangeSpec := { name := "indexRanges", fn := fun _ => fun
  | [d1, d2, d3] => { results := [.lit (.bool true)], args := [d1, d2, d3] }
  | _ => none }
def indexRangesRow : OpenClaim := { program := "ytjegifbmbianiaagreatdoor", sum := "c800307e73f90bdf08f852399184f89bc16746504e2cb04c9ea1e3d6f8f36218", func := "bedrock/bedrocklaw41.IndexRanges", spec := "indexRanges", inPlace := ["slices.overlaps[uint64]", "internal/bytealg.abigen_runtime_cmpstring"], unfollowed := true, recurses := true, named := ["unicode/utf8.first", "unicode/utf8.acceptRanges", "bedrock/crc.nibbles", "bedrock/sizeclass.payload"], apart := false, laid := [("bedrock/crc.nibbles", laid_bedrock_crc_nibbles), ("bedrock/sizeclass.payload", laid_bedrock_sizeclass_payload), ("unicode/utf8.acceptRanges", laid_unicode_utf8_acceptRanges), ("unicode/utf8.first", laid_unicode_utf8_first)] }
def IndexRangesSaid : Prop := indexRangesRow.holds Tryz.pinned (OpenSpec.ofChange indexRangesSpec)

/-- ITS FALSE NEIGHBOUR: 'it returns false'. Refute it at one input. -/
def indexRangesWrong : ChangeSpec := { name := "indexRanges", fn := fun _ => fun
  | [d1, d2, d3] => { results := [.lit (.bool false)], args := [d1, d2, d3] }
  | _ => none }
def IndexRangesWrongFalsely : Prop := indexRangesRow.holds Tryz.pinned (OpenSpec.ofChange indexRangesWrong)

/-- 'bedrocklaw41.IndexHolds': WHATEVER THE INPUT: true; the input reads as it did. -/
def indexHoldsSpec : ChangeSpec := { name := "indexHolds", fn := fun _ => fun
  | [d1, d2, d3] => { results := [.lit (.bool true)], args := [d1, d2, d3] }
  | _ => none }
def indexHoldsRow : OpenClaim := { program := "ytjegifbmbianiaagreatdoor", sum := "c800307e73f90bdf08f852399184f89bc16746504e2cb04c9ea1e3d6f8f36218", func := "bedrock/bedrocklaw41.IndexHolds", spec := "indexHolds", inPlace := ["slices.overlaps[uint64]", "internal/bytealg.abigen_runtime_cmpstring"], unfollowed := true, recurses := true, named := ["unicode/utf8.first", "unicode/utf8.acceptRanges", "bedrock/crc.nibbles", "bedrock/sizeclass.payload"], apart := false, laid := [("bedrock/crc.nibbles", laid_bedrock_crc_nibbles), ("bedrock/sizeclass.payload", laid_bedrock_sizeclass_payload), ("unicode/utf8.acceptRanges", laid_unicode_utf8_acceptRanges), ("unicode/utf8.first", laid_unicode_utf8_first)] }
def IndexHoldsSaid : Prop := indexHoldsRow.holds Tryz.pinned (OpenSpec.ofChange indexHoldsSpec)

/-- ITS FALSE NEIGHBOUR: 'it returns false'. Refute it at one input. -/
def indexHoldsWrong : ChangeSpec := { name := "indexHolds", fn := fun _ => fun
  | [d1, d2, d3] => { results := [.lit (.bool false)], args := [d1, d2, d3] }
  | _ => none }
def IndexHoldsWrongFalsely : Prop := indexHoldsRow.holds Tryz.pinned (OpenSpec.ofChange indexHoldsWrong)

/-- 'bedrocklaw35.CursorTakes': WHATEVER THE INPUT: true; the input reads as it did. -/
def cursorTakesSpec : ChangeSpec := { name := "cursorTakes", fn := fun _ => fun
  | [d1, d2, d3] => { results := [.lit (.bool true)], args := [d1, d2, d3] }
  | _ => none }
def cursorTakesRow : OpenClaim := { program := "ytjegifbmbianiaagreatdoor", sum := "c800307e73f90bdf08f852399184f89bc16746504e2cb04c9ea1e3d6f8f36218", func := "bedrock/bedrocklaw35.CursorTakes", spec := "cursorTakes", inPlace := ["slices.overlaps[uint64]"], unfollowed := true, recurses := true, named := ["bedrock/crc.nibbles", "bedrock/sizeclass.payload"], apart := false, laid := [("bedrock/crc.nibbles", laid_bedrock_crc_nibbles), ("bedrock/sizeclass.payload", laid_bedrock_sizeclass_payload)] }
def CursorTakesSaid : Prop := cursorTakesRow.holds Tryz.pinned (OpenSpec.ofChange cursorTakesSpec)

/-- ITS FALSE NEIGHBOUR: 'it returns false'. Refute it at one input. -/
def cursorTakesWrong : ChangeSpec := { name := "cursorTakes", fn := fun _ => fun
  | [d1, d2, d3] => { results := [.lit (.bool false)], args := [d1, d2, d3] }
  | _ => none }
def CursorTakesWrongFalsely : Prop := cursorTakesRow.holds Tryz.pinned (OpenSpec.ofChange cursorTakesWrong)

/- THE SECOND FORM. 'bulk': how many values and letters a reading holds, each counted each time it is reached (what is shared counts as often as it is met; a slice's spare places count too). A statement '..UptoSaid' is the law's where the arguments, and the package variables that the reading takes, are together of bulk at most 1048576: NARROWER than '..Said'. Prove '..Said' where nothing that the law and all that it calls make is longer than what came in: it says more and counts as full. Else prove '..UptoSaid'. A law counts once. -/
mutual
def uptoBulk {H : Type} : DataW H → Nat
  | .lit (.string bytes) => bytes.length + 1
  | .lit _ => 1
  | .nil => 1
  | .ptr d => uptoBulk d + 1
  | .slice elems spare => uptoBulkAll elems + uptoBulkAll spare + 1
  | .agg parts => uptoBulkAll parts + 1
  | .iface _ d => uptoBulk d + 1
  | .map entries => uptoBulkEntries entries + 1
  | .held _ => 1
def uptoBulkAll {H : Type} : List (DataW H) → Nat
  | [] => 0
  | d :: r => uptoBulk d + uptoBulkAll r
def uptoBulkEntries {H : Type} : List (Lit × DataW H) → Nat
  | [] => 0
  | x :: r => uptoBulkEntry x + uptoBulkEntries r
def uptoBulkEntry {H : Type} : Lit × DataW H → Nat
  | (.string bytes, d) => bytes.length + uptoBulk d + 1
  | (_, d) => uptoBulk d + 1
 end
def uptoSmall : (H : Type) → List (DataW H) → Bool := fun _ ds => decide (uptoBulkAll ds ≤ 1048576)
def OpenSpec.upto (s : _root_.Go.ChangeSpec) : _root_.Go.OpenSpec := { _root_.Go.OpenSpec.ofChange s with cond := some uptoSmall }

/-- 'bedrocklaw27.ReachShapes', WHERE WHAT IT READS IS OF BULK AT MOST 1048576: true; the input reads as it did. -/
def reachShapesUptoRow : OpenClaim := { program := "ytjegifbmbianiaagreatdoor", sum := "c800307e73f90bdf08f852399184f89bc16746504e2cb04c9ea1e3d6f8f36218", func := "bedrock/bedrocklaw27.ReachShapes", spec := "reachShapes", unfollowed := true, recurses := true, named := ["bedrock/crc.nibbles", "bedrock/sizeclass.payload"], apart := false, laid := [("bedrock/crc.nibbles", laid_bedrock_crc_nibbles), ("bedrock/sizeclass.payload", laid_bedrock_sizeclass_payload)], narrowed := true }
def ReachShapesUptoSaid : Prop := reachShapesUptoRow.holds Tryz.pinned (OpenSpec.upto reachShapesSpec)

/-- 'bedrocklaw27.ReachStandard', WHERE WHAT IT READS IS OF BULK AT MOST 1048576: true; the input reads as it did. -/
def reachStandardUptoRow : OpenClaim := { program := "ytjegifbmbianiaagreatdoor", sum := "c800307e73f90bdf08f852399184f89bc16746504e2cb04c9ea1e3d6f8f36218", func := "bedrock/bedrocklaw27.ReachStandard", spec := "reachStandard", unfollowed := true, recurses := true, named := ["bedrock/crc.nibbles", "bedrock/sizeclass.payload"], apart := false, laid := [("bedrock/crc.nibbles", laid_bedrock_crc_nibbles), ("bedrock/sizeclass.payload", laid_bedrock_sizeclass_payload)], narrowed := true }
def ReachStandardUptoSaid : Prop := reachStandardUptoRow.holds Tryz.pinned (OpenSpec.upto reachStandardSpec)

/-- 'bedrocklaw41.IndexEntries', WHERE WHAT IT READS IS OF BULK AT MOST 1048576: true; the input reads as it did. -/
def indexEntriesUptoRow : OpenClaim := { program := "ytjegifbmbianiaagreatdoor", sum := "c800307e73f90bdf08f852399184f89bc16746504e2cb04c9ea1e3d6f8f36218", func := "bedrock/bedrocklaw41.IndexEntries", spec := "indexEntries", inPlace := ["slices.overlaps[uint64]", "internal/bytealg.abigen_runtime_cmpstring"], unfollowed := true, recurses := true, named := ["unicode/utf8.first", "unicode/utf8.acceptRanges", "bedrock/crc.nibbles", "bedrock/sizeclass.payload"], apart := false, laid := [("bedrock/crc.nibbles", laid_bedrock_crc_nibbles), ("bedrock/sizeclass.payload", laid_bedrock_sizeclass_payload), ("unicode/utf8.acceptRanges", laid_unicode_utf8_acceptRanges), ("unicode/utf8.first", laid_unicode_utf8_first)], narrowed := true }
def IndexEntriesUptoSaid : Prop := indexEntriesUptoRow.holds Tryz.pinned (OpenSpec.upto indexEntriesSpec)

/-- 'bedrocklaw41.IndexRanges', WHERE WHAT IT READS IS OF BULK AT MOST 1048576: true; the input reads as it did. -/
def indexRangesUptoRow : OpenClaim := { program := "ytjegifbmbianiaagreatdoor", sum := "c800307e73f90bdf08f852399184f89bc16746504e2cb04c9ea1e3d6f8f36218", func := "bedrock/bedrocklaw41.IndexRanges", spec := "indexRanges", inPlace := ["slices.overlaps[uint64]", "internal/bytealg.abigen_runtime_cmpstring"], unfollowed := true, recurses := true, named := ["unicode/utf8.first", "unicode/utf8.acceptRanges", "bedrock/crc.nibbles", "bedrock/sizeclass.payload"], apart := false, laid := [("bedrock/crc.nibbles", laid_bedrock_crc_nibbles), ("bedrock/sizeclass.payload", laid_bedrock_sizeclass_payload), ("unicode/utf8.acceptRanges", laid_unicode_utf8_acceptRanges), ("unicode/utf8.first", laid_unicode_utf8_first)], narrowed := true }
def IndexRangesUptoSaid : Prop := indexRangesUptoRow.holds Tryz.pinned (OpenSpec.upto indexRangesSpec)

/-- 'bedrocklaw41.IndexHolds', WHERE WHAT IT READS IS OF BULK AT MOST 1048576: true; the input reads as it did. -/
def indexHoldsUptoRow : OpenClaim := { program := "ytjegifbmbianiaagreatdoor", sum := "c800307e73f90bdf08f852399184f89bc16746504e2cb04c9ea1e3d6f8f36218", func := "bedrock/bedrocklaw41.IndexHolds", spec := "indexHolds", inPlace := ["slices.overlaps[uint64]", "internal/bytealg.abigen_runtime_cmpstring"], unfollowed := true, recurses := true, named := ["unicode/utf8.first", "unicode/utf8.acceptRanges", "bedrock/crc.nibbles", "bedrock/sizeclass.payload"], apart := false, laid := [("bedrock/crc.nibbles", laid_bedrock_crc_nibbles), ("bedrock/sizeclass.payload", laid_bedrock_sizeclass_payload), ("unicode/utf8.acceptRanges", laid_unicode_utf8_acceptRanges), ("unicode/utf8.first", laid_unicode_utf8_first)], narrowed := true }
def IndexHoldsUptoSaid : Prop := indexHoldsUptoRow.holds Tryz.pinned (OpenSpec.upto indexHoldsSpec)

/-- 'bedrocklaw35.CursorTakes', WHERE WHAT IT READS IS OF BULK AT MOST 1048576: true; the input reads as it did. -/
def cursorTakesUptoRow : OpenClaim := { program := "ytjegifbmbianiaagreatdoor", sum := "c800307e73f90bdf08f852399184f89bc16746504e2cb04c9ea1e3d6f8f36218", func := "bedrock/bedrocklaw35.CursorTakes", spec := "cursorTakes", inPlace := ["slices.overlaps[uint64]"], unfollowed := true, recurses := true, named := ["bedrock/crc.nibbles", "bedrock/sizeclass.payload"], apart := false, laid := [("bedrock/crc.nibbles", laid_bedrock_crc_nibbles), ("bedrock/sizeclass.payload", laid_bedrock_sizeclass_payload)], narrowed := true }
def CursorTakesUptoSaid : Prop := cursorTakesUptoRow.holds Tryz.pinned (OpenSpec.upto cursorTakesSpec)

end Rows
end Go.Proofs.YtjegifbmbianiaaGreatDoor
