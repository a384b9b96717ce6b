/-
  NARROWER THAN 'FOR EVERY INPUT', by the rows' own cells (each row's printed sentence says how): WirePuts: laid · WireMost: laid · WireReads: laid · SplitMore: laid · SplitReads: laid · SplitJoins: laid · FramerChunks: laid · FramerBounds: laid · FramerEmpty: laid · FramerFeeds: laid.
  DERIVED. THE GIVEN ROWS OF THIS SEAT. 10 by the template 'for every input the law returns true; each argument reads behind the call as it read before'; 0 by the template 'total and deterministic' (their statements: YtebllmpdlapefaaGreatDoorTotals.lean).
  GIVEN WITH THE SEED: the statements are not yours to turn. If you find one false, say at which input.
  Laid BY PROGRAM, IN A SANDBOX (cutbox-rows.mjs): the forced cells as the released guide's own fill.sh prints them over the translation 715c62a40aa39cac… (all of the seat's roots in one cut). By AI agents, Wed Nov 11 2026. No macro, syntax, notation, axiom, sorry.
-/
import Derived.Test.YtebllmpdlapefaaGreatDoorChecked
import GoSem.PinnedTables
import GoSem.Claim
import GoSem.ClaimJoined
import GoSem.ClaimMapViews
import Derived.JoinedTies
import Derived.KernelRfl
namespace Go.Proofs.YtebllmpdlapefaaGreatDoor
/- THE CELL 'sum', in the pinned program and in every row, IS THE sha256 OF THE DUMP (.gsa) THAT YtebllmpdlapefaaGreatDoorProg.lean LOADS. Nothing in Lean hashes anything: it is a label: what it is worth is what the hold of that sum in a sandbox is worth. -/
noncomputable def Tryz.pinned : Pinned := { name := "ytebllmpdlapefaagreatdoor", sum := "715c62a40aa39cac96c17afae14cbe4322c244d132b75cba3304ae54fe89340d", checked := Tryz.checked }
namespace Rows
def none {H : Type} : Left H := { results := [], args := [] }

/- WHAT THE LISTED PACKAGE-LEVEL VARIABLES READ AS WHEN THE CALL BEGINS. Each datum BY PROGRAM (the guide's laid-datum.mjs) off the statement by which the dump's own 'gosem.cut.vars' lays the variable. In a bare row this is a premise. The card (YtebllmpdlapefaaGreatDoorCards.lean) ties it to the program's text. -/
def laid_unicode_utf8_acceptRanges {H : Type} : DataW H := .agg [.agg [.lit (.int .u8 128), .lit (.int .u8 191)], .agg [.lit (.int .u8 160), .lit (.int .u8 191)], .agg [.lit (.int .u8 128), .lit (.int .u8 159)], .agg [.lit (.int .u8 144), .lit (.int .u8 191)], .agg [.lit (.int .u8 128), .lit (.int .u8 143)], .agg [.lit (.int .u8 0), .lit (.int .u8 0)], .agg [.lit (.int .u8 0), .lit (.int .u8 0)], .agg [.lit (.int .u8 0), .lit (.int .u8 0)], .agg [.lit (.int .u8 0), .lit (.int .u8 0)], .agg [.lit (.int .u8 0), .lit (.int .u8 0)], .agg [.lit (.int .u8 0), .lit (.int .u8 0)], .agg [.lit (.int .u8 0), .lit (.int .u8 0)], .agg [.lit (.int .u8 0), .lit (.int .u8 0)], .agg [.lit (.int .u8 0), .lit (.int .u8 0)], .agg [.lit (.int .u8 0), .lit (.int .u8 0)], .agg [.lit (.int .u8 0), .lit (.int .u8 0)]]
/-- One of Go's own tables, pinned by name: the form's constant. -/
def laid_unicode_utf8_first : DataW Unit := Go.Pinned.utf8First

/-- 'hatchwaylaw17.WirePuts': WHATEVER THE INPUT: true; the input reads as it did. -/
def wirePutsSpec : ChangeSpec := { name := "wirePuts", fn := fun _ => fun
  | [d1, d2, d3] => { results := [.lit (.bool true)], args := [d1, d2, d3] }
  | _ => none }
def wirePutsRow : OpenClaim := { program := "ytebllmpdlapefaagreatdoor", sum := "715c62a40aa39cac96c17afae14cbe4322c244d132b75cba3304ae54fe89340d", func := "hatchway/hatchwaylaw17.WirePuts", spec := "wirePuts", inPlace := ["internal/bytealg.IndexByteString", "internal/bytealg.IndexString"], unfollowed := true, recurses := true, named := ["unicode/utf8.first", "unicode/utf8.acceptRanges", "internal/bytealg.MaxLen"], plainKeys := false, apart := false, laid := [("unicode/utf8.acceptRanges", laid_unicode_utf8_acceptRanges), ("unicode/utf8.first", laid_unicode_utf8_first)] }
def WirePutsSaid : Prop := wirePutsRow.holds Tryz.pinned (OpenSpec.ofChange wirePutsSpec)

/-- ITS FALSE NEIGHBOUR: 'it returns false'. Refute it at one input. -/
def wirePutsWrong : ChangeSpec := { name := "wirePuts", fn := fun _ => fun
  | [d1, d2, d3] => { results := [.lit (.bool false)], args := [d1, d2, d3] }
  | _ => none }
def WirePutsWrongFalsely : Prop := wirePutsRow.holds Tryz.pinned (OpenSpec.ofChange wirePutsWrong)

/-- 'hatchwaylaw17.WireMost': WHATEVER THE INPUT: true; the input reads as it did. -/
def wireMostSpec : ChangeSpec := { name := "wireMost", fn := fun _ => fun
  | [d1, d2] => { results := [.lit (.bool true)], args := [d1, d2] }
  | _ => none }
def wireMostRow : OpenClaim := { program := "ytebllmpdlapefaagreatdoor", sum := "715c62a40aa39cac96c17afae14cbe4322c244d132b75cba3304ae54fe89340d", func := "hatchway/hatchwaylaw17.WireMost", spec := "wireMost", inPlace := ["internal/bytealg.IndexByteString", "internal/bytealg.IndexString"], unfollowed := true, recurses := true, named := ["unicode/utf8.first", "unicode/utf8.acceptRanges", "internal/bytealg.MaxLen"], plainKeys := false, apart := false, laid := [("unicode/utf8.acceptRanges", laid_unicode_utf8_acceptRanges), ("unicode/utf8.first", laid_unicode_utf8_first)] }
def WireMostSaid : Prop := wireMostRow.holds Tryz.pinned (OpenSpec.ofChange wireMostSpec)

/-- ITS FALSE NEIGHBOUR: 'it returns false'. Refute it at one input. -/
def wireMostWrong : ChangeSpec := { name := "wireMost", fn := fun _ => fun
  | [d1, d2] => { results := [.lit (.bool false)], args := [d1, d2] }
  | _ => none }
def WireMostWrongFalsely : Prop := wireMostRow.holds Tryz.pinned (OpenSpec.ofChange wireMostWrong)

/-- 'hatchwaylaw17.WireReads': WHATEVER THE INPUT: true; the input reads as it did. -/
def wireReadsSpec : ChangeSpec := { name := "wireReads", fn := fun _ => fun
  | [d1, d2, d3] => { results := [.lit (.bool true)], args := [d1, d2, d3] }
  | _ => none }
def wireReadsRow : OpenClaim := { program := "ytebllmpdlapefaagreatdoor", sum := "715c62a40aa39cac96c17afae14cbe4322c244d132b75cba3304ae54fe89340d", func := "hatchway/hatchwaylaw17.WireReads", spec := "wireReads", inPlace := ["internal/bytealg.IndexByteString", "internal/bytealg.IndexString"], unfollowed := true, recurses := true, named := ["unicode/utf8.first", "unicode/utf8.acceptRanges", "internal/bytealg.MaxLen"], plainKeys := false, apart := false, laid := [("unicode/utf8.acceptRanges", laid_unicode_utf8_acceptRanges), ("unicode/utf8.first", laid_unicode_utf8_first)] }
def WireReadsSaid : Prop := wireReadsRow.holds Tryz.pinned (OpenSpec.ofChange wireReadsSpec)

/-- ITS FALSE NEIGHBOUR: 'it returns false'. Refute it at one input. -/
def wireReadsWrong : ChangeSpec := { name := "wireReads", fn := fun _ => fun
  | [d1, d2, d3] => { results := [.lit (.bool false)], args := [d1, d2, d3] }
  | _ => none }
def WireReadsWrongFalsely : Prop := wireReadsRow.holds Tryz.pinned (OpenSpec.ofChange wireReadsWrong)

/-- 'hatchwaylaw18.SplitMore': WHATEVER THE INPUT: true; the input reads as it did. -/
def splitMoreSpec : ChangeSpec := { name := "splitMore", fn := fun _ => fun
  | [d1, d2, d3] => { results := [.lit (.bool true)], args := [d1, d2, d3] }
  | _ => none }
def splitMoreRow : OpenClaim := { program := "ytebllmpdlapefaagreatdoor", sum := "715c62a40aa39cac96c17afae14cbe4322c244d132b75cba3304ae54fe89340d", func := "hatchway/hatchwaylaw18.SplitMore", spec := "splitMore", inPlace := ["internal/bytealg.IndexByteString", "internal/bytealg.IndexString"], unfollowed := true, recurses := true, named := ["unicode/utf8.first", "unicode/utf8.acceptRanges", "internal/bytealg.MaxLen"], plainKeys := false, apart := false, laid := [("unicode/utf8.acceptRanges", laid_unicode_utf8_acceptRanges), ("unicode/utf8.first", laid_unicode_utf8_first)] }
def SplitMoreSaid : Prop := splitMoreRow.holds Tryz.pinned (OpenSpec.ofChange splitMoreSpec)

/-- ITS FALSE NEIGHBOUR: 'it returns false'. Refute it at one input. -/
def splitMoreWrong : ChangeSpec := { name := "splitMore", fn := fun _ => fun
  | [d1, d2, d3] => { results := [.lit (.bool false)], args := [d1, d2, d3] }
  | _ => none }
def SplitMoreWrongFalsely : Prop := splitMoreRow.holds Tryz.pinned (OpenSpec.ofChange splitMoreWrong)

/-- 'hatchwaylaw18.SplitReads': WHATEVER THE INPUT: true; the input reads as it did. -/
def splitReadsSpec : ChangeSpec := { name := "splitReads", fn := fun _ => fun
  | [d1, d2] => { results := [.lit (.bool true)], args := [d1, d2] }
  | _ => none }
def splitReadsRow : OpenClaim := { program := "ytebllmpdlapefaagreatdoor", sum := "715c62a40aa39cac96c17afae14cbe4322c244d132b75cba3304ae54fe89340d", func := "hatchway/hatchwaylaw18.SplitReads", spec := "splitReads", inPlace := ["internal/bytealg.IndexByteString", "internal/bytealg.IndexString"], unfollowed := true, recurses := true, named := ["unicode/utf8.first", "unicode/utf8.acceptRanges", "internal/bytealg.MaxLen"], plainKeys := false, apart := false, laid := [("unicode/utf8.acceptRanges", laid_unicode_utf8_acceptRanges), ("unicode/utf8.first", laid_unicode_utf8_first)] }
def SplitReadsSaid : Prop := splitReadsRow.holds Tryz.pinned (OpenSpec.ofChange splitReadsSpec)

/-- ITS FALSE NEIGHBOUR: 'it returns false'. Refute it at one input. -/
def splitReadsWrong : ChangeSpec := { name := "splitReads", fn := fun _ => fun
  | [d1, d2] => { results := [.lit (.bool false)], args := [d1, d2] }
  | _ => none }
def SplitReadsWrongFalsely : Prop := splitReadsRow.holds Tryz.pinned (OpenSpec.ofChange splitReadsWrong)

/-- 'hatchwaylaw18.SplitJoins': WHATEVER THE INPUT: true; the input reads as it did. -/
def splitJoinsSpec : ChangeSpec := { name := "splitJoins", fn := fun _ => fun
  | [d1, d2] => { results := [.lit (.bool true)], args := [d1, d2] }
  | _ => none }
def splitJoinsRow : OpenClaim := { program := "ytebllmpdlapefaagreatdoor", sum := "715c62a40aa39cac96c17afae14cbe4322c244d132b75cba3304ae54fe89340d", func := "hatchway/hatchwaylaw18.SplitJoins", spec := "splitJoins", inPlace := ["internal/bytealg.IndexByteString", "internal/bytealg.IndexString", "internal/abi.NoEscape"], unfollowed := true, recurses := true, named := ["unicode/utf8.first", "unicode/utf8.acceptRanges", "internal/bytealg.MaxLen"], plainKeys := false, apart := false, laid := [("unicode/utf8.acceptRanges", laid_unicode_utf8_acceptRanges), ("unicode/utf8.first", laid_unicode_utf8_first)] }
def SplitJoinsSaid : Prop := splitJoinsRow.holds Tryz.pinned (OpenSpec.ofChange splitJoinsSpec)

/-- ITS FALSE NEIGHBOUR: 'it returns false'. Refute it at one input. -/
def splitJoinsWrong : ChangeSpec := { name := "splitJoins", fn := fun _ => fun
  | [d1, d2] => { results := [.lit (.bool false)], args := [d1, d2] }
  | _ => none }
def SplitJoinsWrongFalsely : Prop := splitJoinsRow.holds Tryz.pinned (OpenSpec.ofChange splitJoinsWrong)

/-- 'hatchwaylaw19.FramerChunks': WHATEVER THE INPUT: true; the input reads as it did. -/
def framerChunksSpec : ChangeSpec := { name := "framerChunks", fn := fun _ => fun
  | [d1, d2] => { results := [.lit (.bool true)], args := [d1, d2] }
  | _ => none }
def framerChunksRow : OpenClaim := { program := "ytebllmpdlapefaagreatdoor", sum := "715c62a40aa39cac96c17afae14cbe4322c244d132b75cba3304ae54fe89340d", func := "hatchway/hatchwaylaw19.FramerChunks", spec := "framerChunks", inPlace := ["internal/bytealg.IndexByteString", "internal/bytealg.IndexString"], unfollowed := true, recurses := true, named := ["unicode/utf8.first", "unicode/utf8.acceptRanges", "internal/bytealg.MaxLen"], plainKeys := false, apart := false, laid := [("unicode/utf8.acceptRanges", laid_unicode_utf8_acceptRanges), ("unicode/utf8.first", laid_unicode_utf8_first)] }
def FramerChunksSaid : Prop := framerChunksRow.holds Tryz.pinned (OpenSpec.ofChange framerChunksSpec)

/-- ITS FALSE NEIGHBOUR: 'it returns false'. Refute it at one input. -/
def framerChunksWrong : ChangeSpec := { name := "framerChunks", fn := fun _ => fun
  | [d1, d2] => { results := [.lit (.bool false)], args := [d1, d2] }
  | _ => none }
def FramerChunksWrongFalsely : Prop := framerChunksRow.holds Tryz.pinned (OpenSpec.ofChange framerChunksWrong)

/-- 'hatchwaylaw19.FramerBounds': WHATEVER THE INPUT: true; the input reads as it did. -/
def framerBoundsSpec : ChangeSpec := { name := "framerBounds", fn := fun _ => fun
  | [d1, d2] => { results := [.lit (.bool true)], args := [d1, d2] }
  | _ => none }
def framerBoundsRow : OpenClaim := { program := "ytebllmpdlapefaagreatdoor", sum := "715c62a40aa39cac96c17afae14cbe4322c244d132b75cba3304ae54fe89340d", func := "hatchway/hatchwaylaw19.FramerBounds", spec := "framerBounds", inPlace := ["internal/bytealg.IndexByteString", "internal/bytealg.IndexString"], unfollowed := true, recurses := true, named := ["unicode/utf8.first", "unicode/utf8.acceptRanges", "internal/bytealg.MaxLen"], plainKeys := false, apart := false, laid := [("unicode/utf8.acceptRanges", laid_unicode_utf8_acceptRanges), ("unicode/utf8.first", laid_unicode_utf8_first)] }
def FramerBoundsSaid : Prop := framerBoundsRow.holds Tryz.pinned (OpenSpec.ofChange framerBoundsSpec)

/-- ITS FALSE NEIGHBOUR: 'it returns false'. Refute it at one input. -/
def framerBoundsWrong : ChangeSpec := { name := "framerBounds", fn := fun _ => fun
  | [d1, d2] => { results := [.lit (.bool false)], args := [d1, d2] }
  | _ => none }
def FramerBoundsWrongFalsely : Prop := framerBoundsRow.holds Tryz.pinned (OpenSpec.ofChange framerBoundsWrong)

/-- 'hatchwaylaw19.FramerEmpty': WHATEVER THE INPUT: true; the input reads as it did. -/
def framerEmptySpec : ChangeSpec := { name := "framerEmpty", fn := fun _ => fun
  | [d1, d2, d3] => { results := [.lit (.bool true)], args := [d1, d2, d3] }
  | _ => none }
def framerEmptyRow : OpenClaim := { program := "ytebllmpdlapefaagreatdoor", sum := "715c62a40aa39cac96c17afae14cbe4322c244d132b75cba3304ae54fe89340d", func := "hatchway/hatchwaylaw19.FramerEmpty", spec := "framerEmpty", inPlace := ["internal/bytealg.IndexByteString", "internal/bytealg.IndexString"], unfollowed := true, recurses := true, named := ["unicode/utf8.first", "unicode/utf8.acceptRanges", "internal/bytealg.MaxLen"], plainKeys := false, apart := false, laid := [("unicode/utf8.acceptRanges", laid_unicode_utf8_acceptRanges), ("unicode/utf8.first", laid_unicode_utf8_first)] }
def FramerEmptySaid : Prop := framerEmptyRow.holds Tryz.pinned (OpenSpec.ofChange framerEmptySpec)

/-- ITS FALSE NEIGHBOUR: 'it returns false'. Refute it at one input. -/
def framerEmptyWrong : ChangeSpec := { name := "framerEmpty", fn := fun _ => fun
  | [d1, d2, d3] => { results := [.lit (.bool false)], args := [d1, d2, d3] }
  | _ => none }
def FramerEmptyWrongFalsely : Prop := framerEmptyRow.holds Tryz.pinned (OpenSpec.ofChange framerEmptyWrong)

/-- 'hatchwaylaw19.FramerFeeds': WHATEVER THE INPUT: true; the input reads as it did. -/
def framerFeedsSpec : ChangeSpec := { name := "framerFeeds", fn := fun _ => fun
  | [d1, d2] => { results := [.lit (.bool true)], args := [d1, d2] }
  | _ => none }
def framerFeedsRow : OpenClaim := { program := "ytebllmpdlapefaagreatdoor", sum := "715c62a40aa39cac96c17afae14cbe4322c244d132b75cba3304ae54fe89340d", func := "hatchway/hatchwaylaw19.FramerFeeds", spec := "framerFeeds", inPlace := ["internal/bytealg.IndexByteString", "internal/bytealg.IndexString"], unfollowed := true, recurses := true, named := ["unicode/utf8.first", "unicode/utf8.acceptRanges", "internal/bytealg.MaxLen"], plainKeys := false, apart := false, laid := [("unicode/utf8.acceptRanges", laid_unicode_utf8_acceptRanges), ("unicode/utf8.first", laid_unicode_utf8_first)] }
def FramerFeedsSaid : Prop := framerFeedsRow.holds Tryz.pinned (OpenSpec.ofChange framerFeedsSpec)

/-- ITS FALSE NEIGHBOUR: 'it returns false'. Refute it at one input. -/
def framerFeedsWrong : ChangeSpec := { name := "framerFeeds", fn := fun _ => fun
  | [d1, d2] => { results := [.lit (.bool false)], args := [d1, d2] }
  | _ => none }
def FramerFeedsWrongFalsely : Prop := framerFeedsRow.holds Tryz.pinned (OpenSpec.ofChange framerFeedsWrong)

/- THE SECOND FORM. 'bulk': how many values and letters a reading holds, each counted each time it is reached (what is shared counts as often as it is met; a slice's spare places count too). A statement '..UptoSaid' is the law's where the arguments, and the package variables that the reading takes, are together of bulk at most 1048576: NARROWER than '..Said'. Prove '..Said' where nothing that the law and all that it calls make is longer than what came in: it says more and counts as full. Else prove '..UptoSaid'. A law counts once. -/
mutual
def uptoBulk {H : Type} : DataW H → Nat
  | .lit (.string bytes) => bytes.length + 1
  | .lit _ => 1
  | .nil => 1
  | .ptr d => uptoBulk d + 1
  | .slice elems spare => uptoBulkAll elems + uptoBulkAll spare + 1
  | .agg parts => uptoBulkAll parts + 1
  | .iface _ d => uptoBulk d + 1
  | .map entries => uptoBulkEntries entries + 1
  | .held _ => 1
def uptoBulkAll {H : Type} : List (DataW H) → Nat
  | [] => 0
  | d :: r => uptoBulk d + uptoBulkAll r
def uptoBulkEntries {H : Type} : List (Lit × DataW H) → Nat
  | [] => 0
  | x :: r => uptoBulkEntry x + uptoBulkEntries r
def uptoBulkEntry {H : Type} : Lit × DataW H → Nat
  | (.string bytes, d) => bytes.length + uptoBulk d + 1
  | (_, d) => uptoBulk d + 1
 end
def uptoSmall : (H : Type) → List (DataW H) → Bool := fun _ ds => decide (uptoBulkAll ds ≤ 1048576)
def OpenSpec.upto (s : _root_.Go.ChangeSpec) : _root_.Go.OpenSpec := { _root_.Go.OpenSpec.ofChange s with cond := some uptoSmall }

/-- 'hatchwaylaw17.WirePuts', WHERE WHAT IT READS IS OF BULK AT MOST 1048576: true; the input reads as it did. -/
def wirePutsUptoRow : OpenClaim := { program := "ytebllmpdlapefaagreatdoor", sum := "715c62a40aa39cac96c17afae14cbe4322c244d132b75cba3304ae54fe89340d", func := "hatchway/hatchwaylaw17.WirePuts", spec := "wirePuts", inPlace := ["internal/bytealg.IndexByteString", "internal/bytealg.IndexString"], unfollowed := true, recurses := true, named := ["unicode/utf8.first", "unicode/utf8.acceptRanges", "internal/bytealg.MaxLen"], plainKeys := false, apart := false, laid := [("unicode/utf8.acceptRanges", laid_unicode_utf8_acceptRanges), ("unicode/utf8.first", laid_unicode_utf8_first)], narrowed := true }
def WirePutsUptoSaid : Prop := wirePutsUptoRow.holds Tryz.pinned (OpenSpec.upto wirePutsSpec)

/-- 'hatchwaylaw17.WireMost', WHERE WHAT IT READS IS OF BULK AT MOST 1048576: true; the input reads as it did. -/
def wireMostUptoRow : OpenClaim := { program := "ytebllmpdlapefaagreatdoor", sum := "715c62a40aa39cac96c17afae14cbe4322c244d132b75cba3304ae54fe89340d", func := "hatchway/hatchwaylaw17.WireMost", spec := "wireMost", inPlace := ["internal/bytealg.IndexByteString", "internal/bytealg.IndexString"], unfollowed := true, recurses := true, named := ["unicode/utf8.first", "unicode/utf8.acceptRanges", "internal/bytealg.MaxLen"], plainKeys := false, apart := false, laid := [("unicode/utf8.acceptRanges", laid_unicode_utf8_acceptRanges), ("unicode/utf8.first", laid_unicode_utf8_first)], narrowed := true }
def WireMostUptoSaid : Prop := wireMostUptoRow.holds Tryz.pinned (OpenSpec.upto wireMostSpec)

/-- 'hatchwaylaw17.WireReads', WHERE WHAT IT READS IS OF BULK AT MOST 1048576: true; the input reads as it did. -/
def wireReadsUptoRow : OpenClaim := { program := "ytebllmpdlapefaagreatdoor", sum := "715c62a40aa39cac96c17afae14cbe4322c244d132b75cba3304ae54fe89340d", func := "hatchway/hatchwaylaw17.WireReads", spec := "wireReads", inPlace := ["internal/bytealg.IndexByteString", "internal/bytealg.IndexString"], unfollowed := true, recurses := true, named := ["unicode/utf8.first", "unicode/utf8.acceptRanges", "internal/bytealg.MaxLen"], plainKeys := false, apart := false, laid := [("unicode/utf8.acceptRanges", laid_unicode_utf8_acceptRanges), ("unicode/utf8.first", laid_unicode_utf8_first)], narrowed := true }
def WireReadsUptoSaid : Prop := wireReadsUptoRow.holds Tryz.pinned (OpenSpec.upto wireReadsSpec)

/-- 'hatchwaylaw18.SplitMore', WHERE WHAT IT READS IS OF BULK AT MOST 1048576: true; the input reads as it did. -/
def splitMoreUptoRow : OpenClaim := { program := "ytebllmpdlapefaagreatdoor", sum := "715c62a40aa39cac96c17afae14cbe4322c244d132b75cba3304ae54fe89340d", func := "hatchway/hatchwaylaw18.SplitMore", spec := "splitMore", inPlace := ["internal/bytealg.IndexByteString", "internal/bytealg.IndexString"], unfollowed := true, recurses := true, named := ["unicode/utf8.first", "unicode/utf8.acceptRanges", "internal/bytealg.MaxLen"], plainKeys := false, apart := false, laid := [("unicode/utf8.acceptRanges", laid_unicode_utf8_acceptRanges), ("unicode/utf8.first", laid_unicode_utf8_first)], narrowed := true }
def SplitMoreUptoSaid : Prop := splitMoreUptoRow.holds Tryz.pinned (OpenSpec.upto splitMoreSpec)

/-- 'hatchwaylaw18.SplitReads', WHERE WHAT IT READS IS OF BULK AT MOST 1048576: true; the input reads as it did. -/
def splitReadsUptoRow : OpenClaim := { program := "ytebllmpdlapefaagreatdoor", sum := "715c62a40aa39cac96c17afae14cbe4322c244d132b75cba3304ae54fe89340d", func := "hatchway/hatchwaylaw18.SplitReads", spec := "splitReads", inPlace := ["internal/bytealg.IndexByteString", "internal/bytealg.IndexString"], unfollowed := true, recurses := true, named := ["unicode/utf8.first", "unicode/utf8.acceptRanges", "internal/bytealg.MaxLen"], plainKeys := false, apart := false, laid := [("unicode/utf8.acceptRanges", laid_unicode_utf8_acceptRanges), ("unicode/utf8.first", laid_unicode_utf8_first)], narrowed := true }
def SplitReadsUptoSaid : Prop := splitReadsUptoRow.holds Tryz.pinned (OpenSpec.upto splitReadsSpec)

/-- 'hatchwaylaw18.SplitJoins', WHERE WHAT IT READS IS OF BULK AT MOST 1048576: true; the input reads as it did. -/
def splitJoinsUptoRow : OpenClaim := { program := "ytebllmpdlapefaagreatdoor", sum := "715c62a40aa39cac96c17afae14cbe4322c244d132b75cba3304ae54fe89340d", func := "hatchway/hatchwaylaw18.SplitJoins", spec := "splitJoins", inPlace := ["internal/bytealg.IndexByteString", "internal/bytealg.IndexString", "internal/abi.NoEscape"], unfollowed := true, recurses := true, named := ["unicode/utf8.first", "unicode/utf8.acceptRanges", "internal/bytealg.MaxLen"], plainKeys := false, apart := false, laid := [("unicode/utf8.acceptRanges", laid_unicode_utf8_acceptRanges), ("unicode/utf8.first", laid_unicode_utf8_first)], narrowed := true }
def SplitJoinsUptoSaid : Prop := splitJoinsUptoRow.holds Tryz.pinned (OpenSpec.upto splitJoinsSpec)

/-- 'hatchwaylaw19.FramerChunks', WHERE WHAT IT READS IS OF BULK AT MOST 1048576: true; the input reads as it did. -/
def framerChunksUptoRow : OpenClaim := { program := "ytebllmpdlapefaagreatdoor", sum := "715c62a40aa39cac96c17afae14cbe4322c244d132b75cba3304ae54fe89340d", func := "hatchway/hatchwaylaw19.FramerChunks", spec := "framerChunks", inPlace := ["internal/bytealg.IndexByteString", "internal/bytealg.IndexString"], unfollowed := true, recurses := true, named := ["unicode/utf8.first", "unicode/utf8.acceptRanges", "internal/bytealg.MaxLen"], plainKeys := false, apart := false, laid := [("unicode/utf8.acceptRanges", laid_unicode_utf8_acceptRanges), ("unicode/utf8.first", laid_unicode_utf8_first)], narrowed := true }
def FramerChunksUptoSaid : Prop := framerChunksUptoRow.holds Tryz.pinned (OpenSpec.upto framerChunksSpec)

/-- 'hatchwaylaw19.FramerBounds', WHERE WHAT IT READS IS OF BULK AT MOST 1048576: true; the input reads as it did. -/
def framerBoundsUptoRow : OpenClaim := { program := "ytebllmpdlapefaagreatdoor", sum := "715c62a40aa39cac96c17afae14cbe4322c244d132b75cba3304ae54fe89340d", func := "hatchway/hatchwaylaw19.FramerBounds", spec := "framerBounds", inPlace := ["internal/bytealg.IndexByteString", "internal/bytealg.IndexString"], unfollowed := true, recurses := true, named := ["unicode/utf8.first", "unicode/utf8.acceptRanges", "internal/bytealg.MaxLen"], plainKeys := false, apart := false, laid := [("unicode/utf8.acceptRanges", laid_unicode_utf8_acceptRanges), ("unicode/utf8.first", laid_unicode_utf8_first)], narrowed := true }
def FramerBoundsUptoSaid : Prop := framerBoundsUptoRow.holds Tryz.pinned (OpenSpec.upto framerBoundsSpec)

/-- 'hatchwaylaw19.FramerEmpty', WHERE WHAT IT READS IS OF BULK AT MOST 1048576: true; the input reads as it did. -/
def framerEmptyUptoRow : OpenClaim := { program := "ytebllmpdlapefaagreatdoor", sum := "715c62a40aa39cac96c17afae14cbe4322c244d132b75cba3304ae54fe89340d", func := "hatchway/hatchwaylaw19.FramerEmpty", spec := "framerEmpty", inPlace := ["internal/bytealg.IndexByteString", "internal/bytealg.IndexString"], unfollowed := true, recurses := true, named := ["unicode/utf8.first", "unicode/utf8.acceptRanges", "internal/bytealg.MaxLen"], plainKeys := false, apart := false, laid := [("unicode/utf8.acceptRanges", laid_unicode_utf8_acceptRanges), ("unicode/utf8.first", laid_unicode_utf8_first)], narrowed := true }
def FramerEmptyUptoSaid : Prop := framerEmptyUptoRow.holds Tryz.pinned (OpenSpec.upto framerEmptySpec)

/-- 'hatchwaylaw19.FramerFeeds', WHERE WHAT IT READS IS OF BULK AT MOST 1048576: true; the input reads as it did. -/
def framerFeedsUptoRow : OpenClaim := { program := "ytebllmpdlapefaagreatdoor", sum := "715c62a40aa39cac96c17afae14cbe4322c244d132b75cba3304ae54fe89340d", func := "hatchway/hatchwaylaw19.FramerFeeds", spec := "framerFeeds", inPlace := ["internal/bytealg.IndexByteString", "internal/bytealg.IndexString"], unfollowed := true, recurses := true, named := ["unicode/utf8.first", "unicode/utf8.acceptRanges", "internal/bytealg.MaxLen"], plainKeys := false, apart := false, laid := [("unicode/utf8.acceptRanges", laid_unicode_utf8_acceptRanges), ("unicode/utf8.first", laid_unicode_utf8_first)], narrowed := true }
def FramerFeedsUptoSaid : Prop := framerFeedsUptoRow.holds Tryz.pinned (OpenSpec.upto framerFeedsSpec)

end Rows
end Go.Proofs.YtebllmpdlapefaaGreatDoor
