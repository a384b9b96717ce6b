/-
  NARROWER THAN 'FOR EVERY INPUT', by the rows' own cells (each row's printed sentence says how): WholeSends: loops, laid · WholeChunks: laid · WholeOver: laid · WholeBounds: laid.
  DERIVED. THE GIVEN ROWS OF THIS SEAT. 4 by the template 'for every input the law returns true; each argument reads behind the call as it read before'; 0 by the template 'total and deterministic' (their statements: YtdbmifjankgfpaaGreatDoorTotals.lean).
  GIVEN WITH THE SEED: the statements are not yours to turn. If you find one false, say at which input.
  Laid BY PROGRAM, IN A SANDBOX (cutbox-rows.mjs): the forced cells as the released guide's own fill.sh prints them over the translation a2d6335004360368… (all of the seat's roots in one cut). By AI agents, Wed Nov 11 2026. No macro, syntax, notation, axiom, sorry.
-/
import Derived.Test.YtdbmifjankgfpaaGreatDoorChecked
import GoSem.PinnedTables
import GoSem.Claim
import GoSem.ClaimJoined
import GoSem.ClaimMapViews
import Derived.JoinedTies
import Derived.KernelRfl
namespace Go.Proofs.YtdbmifjankgfpaaGreatDoor
/- THE CELL 'sum', in the pinned program and in every row, IS THE sha256 OF THE DUMP (.gsa) THAT YtdbmifjankgfpaaGreatDoorProg.lean LOADS. Nothing in Lean hashes anything: it is a label: what it is worth is what the hold of that sum in a sandbox is worth. -/
noncomputable def Tryz.pinned : Pinned := { name := "ytdbmifjankgfpaagreatdoor", sum := "a2d633500436036834e305ec4bcbca66794a38108a2ef6fff5aa8659f0ce2ca4", checked := Tryz.checked }
namespace Rows
def none {H : Type} : Left H := { results := [], args := [] }

/- WHAT THE LISTED PACKAGE-LEVEL VARIABLES READ AS WHEN THE CALL BEGINS. Each datum BY PROGRAM (the guide's laid-datum.mjs) off the statement by which the dump's own 'gosem.cut.vars' lays the variable. In a bare row this is a premise. The card (YtdbmifjankgfpaaGreatDoorCards.lean) ties it to the program's text. -/
def laid_unicode_utf8_acceptRanges {H : Type} : DataW H := .agg [.agg [.lit (.int .u8 128), .lit (.int .u8 191)], .agg [.lit (.int .u8 160), .lit (.int .u8 191)], .agg [.lit (.int .u8 128), .lit (.int .u8 159)], .agg [.lit (.int .u8 144), .lit (.int .u8 191)], .agg [.lit (.int .u8 128), .lit (.int .u8 143)], .agg [.lit (.int .u8 0), .lit (.int .u8 0)], .agg [.lit (.int .u8 0), .lit (.int .u8 0)], .agg [.lit (.int .u8 0), .lit (.int .u8 0)], .agg [.lit (.int .u8 0), .lit (.int .u8 0)], .agg [.lit (.int .u8 0), .lit (.int .u8 0)], .agg [.lit (.int .u8 0), .lit (.int .u8 0)], .agg [.lit (.int .u8 0), .lit (.int .u8 0)], .agg [.lit (.int .u8 0), .lit (.int .u8 0)], .agg [.lit (.int .u8 0), .lit (.int .u8 0)], .agg [.lit (.int .u8 0), .lit (.int .u8 0)], .agg [.lit (.int .u8 0), .lit (.int .u8 0)]]
def laid_hatchway_compact_behind {H : Type} : DataW H := .agg [.lit (.int .i64 2), .lit (.int .i64 4), .lit (.int .i64 8)]
def laid_hatchway_schema_uintSizes {H : Type} : DataW H := .agg [.lit (.int .i64 1), .lit (.int .i64 2), .lit (.int .i64 4), .lit (.int .i64 8)]
/-- One of Go's own tables, pinned by name: the form's constant. -/
def laid_unicode_utf8_first : DataW Unit := Go.Pinned.utf8First

/-- 'hatchwaytop.WholeSends': WHATEVER THE INPUT: true; the input reads as it did. -/
def wholeSendsSpec : ChangeSpec := { name := "wholeSends", fn := fun _ => fun
  | [d1, d2, d3, d4] => { results := [.lit (.bool true)], args := [d1, d2, d3, d4] }
  | _ => none }
def wholeSendsRow : OpenClaim := { program := "ytdbmifjankgfpaagreatdoor", sum := "a2d633500436036834e305ec4bcbca66794a38108a2ef6fff5aa8659f0ce2ca4", func := "hatchway/hatchwaytop.WholeSends", spec := "wholeSends", inPlace := ["internal/abi.NoEscape", "internal/bytealg.MakeNoZero", "internal/bytealg.IndexByteString", "internal/bytealg.IndexString"], unfollowed := true, recurses := true, named := ["hatchway/schema.uintSizes", "hatchway/compact.behind", "unicode/utf8.first", "unicode/utf8.acceptRanges", "internal/bytealg.MaxLen"], loops := true, plainKeys := false, apart := false, laid := [("unicode/utf8.acceptRanges", laid_unicode_utf8_acceptRanges), ("hatchway/compact.behind", laid_hatchway_compact_behind), ("hatchway/schema.uintSizes", laid_hatchway_schema_uintSizes), ("unicode/utf8.first", laid_unicode_utf8_first)] }
def WholeSendsSaid : Prop := wholeSendsRow.holds Tryz.pinned (OpenSpec.ofChange wholeSendsSpec)

/-- ITS FALSE NEIGHBOUR: 'it returns false'. Refute it at one input. -/
def wholeSendsWrong : ChangeSpec := { name := "wholeSends", fn := fun _ => fun
  | [d1, d2, d3, d4] => { results := [.lit (.bool false)], args := [d1, d2, d3, d4] }
  | _ => none }
def WholeSendsWrongFalsely : Prop := wholeSendsRow.holds Tryz.pinned (OpenSpec.ofChange wholeSendsWrong)

/-- 'hatchwaytop.WholeChunks': WHATEVER THE INPUT: true; the input reads as it did. -/
def wholeChunksSpec : ChangeSpec := { name := "wholeChunks", fn := fun _ => fun
  | [d1, d2, d3, d4, d5] => { results := [.lit (.bool true)], args := [d1, d2, d3, d4, d5] }
  | _ => none }
def wholeChunksRow : OpenClaim := { program := "ytdbmifjankgfpaagreatdoor", sum := "a2d633500436036834e305ec4bcbca66794a38108a2ef6fff5aa8659f0ce2ca4", func := "hatchway/hatchwaytop.WholeChunks", spec := "wholeChunks", inPlace := ["internal/abi.NoEscape", "internal/bytealg.MakeNoZero", "internal/bytealg.IndexByteString", "internal/bytealg.IndexString"], unfollowed := true, recurses := true, named := ["hatchway/schema.uintSizes", "hatchway/compact.behind", "unicode/utf8.first", "unicode/utf8.acceptRanges", "internal/bytealg.MaxLen"], plainKeys := false, apart := false, laid := [("unicode/utf8.acceptRanges", laid_unicode_utf8_acceptRanges), ("hatchway/compact.behind", laid_hatchway_compact_behind), ("hatchway/schema.uintSizes", laid_hatchway_schema_uintSizes), ("unicode/utf8.first", laid_unicode_utf8_first)] }
def WholeChunksSaid : Prop := wholeChunksRow.holds Tryz.pinned (OpenSpec.ofChange wholeChunksSpec)

/-- ITS FALSE NEIGHBOUR: 'it returns false'. Refute it at one input. -/
def wholeChunksWrong : ChangeSpec := { name := "wholeChunks", fn := fun _ => fun
  | [d1, d2, d3, d4, d5] => { results := [.lit (.bool false)], args := [d1, d2, d3, d4, d5] }
  | _ => none }
def WholeChunksWrongFalsely : Prop := wholeChunksRow.holds Tryz.pinned (OpenSpec.ofChange wholeChunksWrong)

/-- 'hatchwaytop.WholeOver': WHATEVER THE INPUT: true; the input reads as it did. -/
def wholeOverSpec : ChangeSpec := { name := "wholeOver", fn := fun _ => fun
  | [d1, d2, d3, d4] => { results := [.lit (.bool true)], args := [d1, d2, d3, d4] }
  | _ => none }
def wholeOverRow : OpenClaim := { program := "ytdbmifjankgfpaagreatdoor", sum := "a2d633500436036834e305ec4bcbca66794a38108a2ef6fff5aa8659f0ce2ca4", func := "hatchway/hatchwaytop.WholeOver", spec := "wholeOver", inPlace := ["internal/abi.NoEscape", "internal/bytealg.MakeNoZero", "internal/bytealg.IndexByteString", "internal/bytealg.IndexString"], unfollowed := true, recurses := true, named := ["hatchway/schema.uintSizes", "hatchway/compact.behind", "unicode/utf8.first", "unicode/utf8.acceptRanges", "internal/bytealg.MaxLen"], plainKeys := false, apart := false, laid := [("unicode/utf8.acceptRanges", laid_unicode_utf8_acceptRanges), ("hatchway/compact.behind", laid_hatchway_compact_behind), ("hatchway/schema.uintSizes", laid_hatchway_schema_uintSizes), ("unicode/utf8.first", laid_unicode_utf8_first)] }
def WholeOverSaid : Prop := wholeOverRow.holds Tryz.pinned (OpenSpec.ofChange wholeOverSpec)

/-- ITS FALSE NEIGHBOUR: 'it returns false'. Refute it at one input. -/
def wholeOverWrong : ChangeSpec := { name := "wholeOver", fn := fun _ => fun
  | [d1, d2, d3, d4] => { results := [.lit (.bool false)], args := [d1, d2, d3, d4] }
  | _ => none }
def WholeOverWrongFalsely : Prop := wholeOverRow.holds Tryz.pinned (OpenSpec.ofChange wholeOverWrong)

/-- 'hatchwaytop.WholeBounds': WHATEVER THE INPUT: true; the input reads as it did. -/
def wholeBoundsSpec : ChangeSpec := { name := "wholeBounds", fn := fun _ => fun
  | [d1, d2, d3] => { results := [.lit (.bool true)], args := [d1, d2, d3] }
  | _ => none }
def wholeBoundsRow : OpenClaim := { program := "ytdbmifjankgfpaagreatdoor", sum := "a2d633500436036834e305ec4bcbca66794a38108a2ef6fff5aa8659f0ce2ca4", func := "hatchway/hatchwaytop.WholeBounds", spec := "wholeBounds", inPlace := ["internal/abi.NoEscape", "internal/bytealg.MakeNoZero", "internal/bytealg.IndexByteString", "internal/bytealg.IndexString"], unfollowed := true, recurses := true, named := ["hatchway/schema.uintSizes", "hatchway/compact.behind", "unicode/utf8.first", "unicode/utf8.acceptRanges", "internal/bytealg.MaxLen"], plainKeys := false, apart := false, laid := [("unicode/utf8.acceptRanges", laid_unicode_utf8_acceptRanges), ("hatchway/compact.behind", laid_hatchway_compact_behind), ("hatchway/schema.uintSizes", laid_hatchway_schema_uintSizes), ("unicode/utf8.first", laid_unicode_utf8_first)] }
def WholeBoundsSaid : Prop := wholeBoundsRow.holds Tryz.pinned (OpenSpec.ofChange wholeBoundsSpec)

/-- ITS FALSE NEIGHBOUR: 'it returns false'. Refute it at one input. -/
def wholeBoundsWrong : ChangeSpec := { name := "wholeBounds", fn := fun _ => fun
  | [d1, d2, d3] => { results := [.lit (.bool false)], args := [d1, d2, d3] }
  | _ => none }
def WholeBoundsWrongFalsely : Prop := wholeBoundsRow.holds Tryz.pinned (OpenSpec.ofChange wholeBoundsWrong)

/- THE SECOND FORM. 'bulk': how many values and letters a reading holds, each counted each time it is reached (what is shared counts as often as it is met; a slice's spare places count too). A statement '..UptoSaid' is the law's where the arguments, and the package variables that the reading takes, are together of bulk at most 1048576: NARROWER than '..Said'. Prove '..Said' where nothing that the law and all that it calls make is longer than what came in: it says more and counts as full. Else prove '..UptoSaid'. A law counts once. -/
mutual
def uptoBulk {H : Type} : DataW H → Nat
  | .lit (.string bytes) => bytes.length + 1
  | .lit _ => 1
  | .nil => 1
  | .ptr d => uptoBulk d + 1
  | .slice elems spare => uptoBulkAll elems + uptoBulkAll spare + 1
  | .agg parts => uptoBulkAll parts + 1
  | .iface _ d => uptoBulk d + 1
  | .map entries => uptoBulkEntries entries + 1
  | .held _ => 1
def uptoBulkAll {H : Type} : List (DataW H) → Nat
  | [] => 0
  | d :: r => uptoBulk d + uptoBulkAll r
def uptoBulkEntries {H : Type} : List (Lit × DataW H) → Nat
  | [] => 0
  | x :: r => uptoBulkEntry x + uptoBulkEntries r
def uptoBulkEntry {H : Type} : Lit × DataW H → Nat
  | (.string bytes, d) => bytes.length + uptoBulk d + 1
  | (_, d) => uptoBulk d + 1
 end
def uptoSmall : (H : Type) → List (DataW H) → Bool := fun _ ds => decide (uptoBulkAll ds ≤ 1048576)
def OpenSpec.upto (s : _root_.Go.ChangeSpec) : _root_.Go.OpenSpec := { _root_.Go.OpenSpec.ofChange s with cond := some uptoSmall }

/-- 'hatchwaytop.WholeSends', WHERE WHAT IT READS IS OF BULK AT MOST 1048576: true; the input reads as it did. -/
def wholeSendsUptoRow : OpenClaim := { program := "ytdbmifjankgfpaagreatdoor", sum := "a2d633500436036834e305ec4bcbca66794a38108a2ef6fff5aa8659f0ce2ca4", func := "hatchway/hatchwaytop.WholeSends", spec := "wholeSends", inPlace := ["internal/abi.NoEscape", "internal/bytealg.MakeNoZero", "internal/bytealg.IndexByteString", "internal/bytealg.IndexString"], unfollowed := true, recurses := true, named := ["hatchway/schema.uintSizes", "hatchway/compact.behind", "unicode/utf8.first", "unicode/utf8.acceptRanges", "internal/bytealg.MaxLen"], loops := true, plainKeys := false, apart := false, laid := [("unicode/utf8.acceptRanges", laid_unicode_utf8_acceptRanges), ("hatchway/compact.behind", laid_hatchway_compact_behind), ("hatchway/schema.uintSizes", laid_hatchway_schema_uintSizes), ("unicode/utf8.first", laid_unicode_utf8_first)], narrowed := true }
def WholeSendsUptoSaid : Prop := wholeSendsUptoRow.holds Tryz.pinned (OpenSpec.upto wholeSendsSpec)

/-- 'hatchwaytop.WholeChunks', WHERE WHAT IT READS IS OF BULK AT MOST 1048576: true; the input reads as it did. -/
def wholeChunksUptoRow : OpenClaim := { program := "ytdbmifjankgfpaagreatdoor", sum := "a2d633500436036834e305ec4bcbca66794a38108a2ef6fff5aa8659f0ce2ca4", func := "hatchway/hatchwaytop.WholeChunks", spec := "wholeChunks", inPlace := ["internal/abi.NoEscape", "internal/bytealg.MakeNoZero", "internal/bytealg.IndexByteString", "internal/bytealg.IndexString"], unfollowed := true, recurses := true, named := ["hatchway/schema.uintSizes", "hatchway/compact.behind", "unicode/utf8.first", "unicode/utf8.acceptRanges", "internal/bytealg.MaxLen"], plainKeys := false, apart := false, laid := [("unicode/utf8.acceptRanges", laid_unicode_utf8_acceptRanges), ("hatchway/compact.behind", laid_hatchway_compact_behind), ("hatchway/schema.uintSizes", laid_hatchway_schema_uintSizes), ("unicode/utf8.first", laid_unicode_utf8_first)], narrowed := true }
def WholeChunksUptoSaid : Prop := wholeChunksUptoRow.holds Tryz.pinned (OpenSpec.upto wholeChunksSpec)

/-- 'hatchwaytop.WholeOver', WHERE WHAT IT READS IS OF BULK AT MOST 1048576: true; the input reads as it did. -/
def wholeOverUptoRow : OpenClaim := { program := "ytdbmifjankgfpaagreatdoor", sum := "a2d633500436036834e305ec4bcbca66794a38108a2ef6fff5aa8659f0ce2ca4", func := "hatchway/hatchwaytop.WholeOver", spec := "wholeOver", inPlace := ["internal/abi.NoEscape", "internal/bytealg.MakeNoZero", "internal/bytealg.IndexByteString", "internal/bytealg.IndexString"], unfollowed := true, recurses := true, named := ["hatchway/schema.uintSizes", "hatchway/compact.behind", "unicode/utf8.first", "unicode/utf8.acceptRanges", "internal/bytealg.MaxLen"], plainKeys := false, apart := false, laid := [("unicode/utf8.acceptRanges", laid_unicode_utf8_acceptRanges), ("hatchway/compact.behind", laid_hatchway_compact_behind), ("hatchway/schema.uintSizes", laid_hatchway_schema_uintSizes), ("unicode/utf8.first", laid_unicode_utf8_first)], narrowed := true }
def WholeOverUptoSaid : Prop := wholeOverUptoRow.holds Tryz.pinned (OpenSpec.upto wholeOverSpec)

/-- 'hatchwaytop.WholeBounds', WHERE WHAT IT READS IS OF BULK AT MOST 1048576: true; the input reads as it did. -/
def wholeBoundsUptoRow : OpenClaim := { program := "ytdbmifjankgfpaagreatdoor", sum := "a2d633500436036834e305ec4bcbca66794a38108a2ef6fff5aa8659f0ce2ca4", func := "hatchway/hatchwaytop.WholeBounds", spec := "wholeBounds", inPlace := ["internal/abi.NoEscape", "internal/bytealg.MakeNoZero", "internal/bytealg.IndexByteString", "internal/bytealg.IndexString"], unfollowed := true, recurses := true, named := ["hatchway/schema.uintSizes", "hatchway/compact.behind", "unicode/utf8.first", "unicode/utf8.acceptRanges", "internal/bytealg.MaxLen"], plainKeys := false, apart := false, laid := [("unicode/utf8.acceptRanges", laid_unicode_utf8_acceptRanges), ("hatchway/compact.behind", laid_hatchway_compact_behind), ("hatchway/schema.uintSizes", laid_hatchway_schema_uintSizes), ("unicode/utf8.first", laid_unicode_utf8_first)], narrowed := true }
def WholeBoundsUptoSaid : Prop := wholeBoundsUptoRow.holds Tryz.pinned (OpenSpec.upto wholeBoundsSpec)

end Rows
end Go.Proofs.YtdbmifjankgfpaaGreatDoor
