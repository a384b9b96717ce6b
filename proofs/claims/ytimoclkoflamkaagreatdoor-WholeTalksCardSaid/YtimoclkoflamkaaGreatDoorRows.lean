/-
  NARROWER THAN 'FOR EVERY INPUT', by the rows' own cells (each row's printed sentence says how): PeerApart: loops, laid · PeerTalks: loops, laid · WholeTalks: loops, laid.
  DERIVED. THE GIVEN ROWS OF THIS SEAT. 3 by the template 'for every input the law returns true; each argument reads behind the call as it read before'; 0 by the template 'total and deterministic' (their statements: YtimoclkoflamkaaGreatDoorTotals.lean).
  GIVEN WITH THE SEED: the statements are not yours to turn. If you find one false, say at which input.
  Laid BY PROGRAM, IN A SANDBOX (cutbox-rows.mjs): the forced cells as the released guide's own fill.sh prints them over the translation 94bdb98c9542bbbb… (all of the seat's roots in one cut). By AI agents, Wed Nov 11 2026. No macro, syntax, notation, axiom, sorry.
-/
import Derived.Test.YtimoclkoflamkaaGreatDoorChecked
import GoSem.PinnedTables
import GoSem.Claim
import GoSem.ClaimJoined
import GoSem.ClaimMapViews
import Derived.JoinedTies
import Derived.KernelRfl
namespace Go.Proofs.YtimoclkoflamkaaGreatDoor
/- THE CELL 'sum', in the pinned program and in every row, IS THE sha256 OF THE DUMP (.gsa) THAT YtimoclkoflamkaaGreatDoorProg.lean LOADS. Nothing in Lean hashes anything: it is a label: what it is worth is what the hold of that sum in a sandbox is worth. -/
noncomputable def Tryz.pinned : Pinned := { name := "ytimoclkoflamkaagreatdoor", sum := "94bdb98c9542bbbb6e979f4615f77b6c77a491167301f6547045d5f306036b0b", checked := Tryz.checked }
namespace Rows
def none {H : Type} : Left H := { results := [], args := [] }

/- WHAT THE LISTED PACKAGE-LEVEL VARIABLES READ AS WHEN THE CALL BEGINS. Each datum BY PROGRAM (the guide's laid-datum.mjs) off the statement by which the dump's own 'gosem.cut.vars' lays the variable. In a bare row this is a premise. The card (YtimoclkoflamkaaGreatDoorCards.lean) ties it to the program's text. -/
def laid_unicode_utf8_acceptRanges {H : Type} : DataW H := .agg [.agg [.lit (.int .u8 128), .lit (.int .u8 191)], .agg [.lit (.int .u8 160), .lit (.int .u8 191)], .agg [.lit (.int .u8 128), .lit (.int .u8 159)], .agg [.lit (.int .u8 144), .lit (.int .u8 191)], .agg [.lit (.int .u8 128), .lit (.int .u8 143)], .agg [.lit (.int .u8 0), .lit (.int .u8 0)], .agg [.lit (.int .u8 0), .lit (.int .u8 0)], .agg [.lit (.int .u8 0), .lit (.int .u8 0)], .agg [.lit (.int .u8 0), .lit (.int .u8 0)], .agg [.lit (.int .u8 0), .lit (.int .u8 0)], .agg [.lit (.int .u8 0), .lit (.int .u8 0)], .agg [.lit (.int .u8 0), .lit (.int .u8 0)], .agg [.lit (.int .u8 0), .lit (.int .u8 0)], .agg [.lit (.int .u8 0), .lit (.int .u8 0)], .agg [.lit (.int .u8 0), .lit (.int .u8 0)], .agg [.lit (.int .u8 0), .lit (.int .u8 0)]]
def laid_hatchway_compact_behind {H : Type} : DataW H := .agg [.lit (.int .i64 2), .lit (.int .i64 4), .lit (.int .i64 8)]
def laid_hatchway_schema_uintSizes {H : Type} : DataW H := .agg [.lit (.int .i64 1), .lit (.int .i64 2), .lit (.int .i64 4), .lit (.int .i64 8)]
/-- One of Go's own tables, pinned by name: the form's constant. -/
def laid_unicode_utf8_first : DataW Unit := Go.Pinned.utf8First

/-- 'hatchwaylaw26.PeerApart': WHATEVER THE INPUT: true; the input reads as it did. -/
def peerApartSpec : ChangeSpec := { name := "peerApart", fn := fun _ => fun
  | [d1, d2, d3] => { results := [.lit (.bool true)], args := [d1, d2, d3] }
  | _ => none }
def peerApartRow : OpenClaim := { program := "ytimoclkoflamkaagreatdoor", sum := "94bdb98c9542bbbb6e979f4615f77b6c77a491167301f6547045d5f306036b0b", func := "hatchway/hatchwaylaw26.PeerApart", spec := "peerApart", inPlace := ["internal/abi.NoEscape", "internal/bytealg.MakeNoZero", "internal/bytealg.IndexByteString", "internal/bytealg.IndexString"], unfollowed := true, recurses := true, named := ["hatchway/schema.uintSizes", "hatchway/compact.behind", "unicode/utf8.first", "unicode/utf8.acceptRanges", "internal/bytealg.MaxLen"], loops := true, plainKeys := false, apart := false, laid := [("unicode/utf8.acceptRanges", laid_unicode_utf8_acceptRanges), ("hatchway/compact.behind", laid_hatchway_compact_behind), ("hatchway/schema.uintSizes", laid_hatchway_schema_uintSizes), ("unicode/utf8.first", laid_unicode_utf8_first)] }
def PeerApartSaid : Prop := peerApartRow.holds Tryz.pinned (OpenSpec.ofChange peerApartSpec)

/-- ITS FALSE NEIGHBOUR: 'it returns false'. Refute it at one input. -/
def peerApartWrong : ChangeSpec := { name := "peerApart", fn := fun _ => fun
  | [d1, d2, d3] => { results := [.lit (.bool false)], args := [d1, d2, d3] }
  | _ => none }
def PeerApartWrongFalsely : Prop := peerApartRow.holds Tryz.pinned (OpenSpec.ofChange peerApartWrong)

/-- 'hatchwaylaw26.PeerTalks': WHATEVER THE INPUT: true; the input reads as it did. -/
def peerTalksSpec : ChangeSpec := { name := "peerTalks", fn := fun _ => fun
  | [d1, d2, d3] => { results := [.lit (.bool true)], args := [d1, d2, d3] }
  | _ => none }
def peerTalksRow : OpenClaim := { program := "ytimoclkoflamkaagreatdoor", sum := "94bdb98c9542bbbb6e979f4615f77b6c77a491167301f6547045d5f306036b0b", func := "hatchway/hatchwaylaw26.PeerTalks", spec := "peerTalks", inPlace := ["internal/abi.NoEscape", "internal/bytealg.MakeNoZero", "internal/bytealg.IndexByteString", "internal/bytealg.IndexString"], unfollowed := true, recurses := true, named := ["hatchway/schema.uintSizes", "hatchway/compact.behind", "unicode/utf8.first", "unicode/utf8.acceptRanges", "internal/bytealg.MaxLen"], loops := true, plainKeys := false, apart := false, laid := [("unicode/utf8.acceptRanges", laid_unicode_utf8_acceptRanges), ("hatchway/compact.behind", laid_hatchway_compact_behind), ("hatchway/schema.uintSizes", laid_hatchway_schema_uintSizes), ("unicode/utf8.first", laid_unicode_utf8_first)] }
def PeerTalksSaid : Prop := peerTalksRow.holds Tryz.pinned (OpenSpec.ofChange peerTalksSpec)

/-- ITS FALSE NEIGHBOUR: 'it returns false'. Refute it at one input. -/
def peerTalksWrong : ChangeSpec := { name := "peerTalks", fn := fun _ => fun
  | [d1, d2, d3] => { results := [.lit (.bool false)], args := [d1, d2, d3] }
  | _ => none }
def PeerTalksWrongFalsely : Prop := peerTalksRow.holds Tryz.pinned (OpenSpec.ofChange peerTalksWrong)

/-- 'hatchwaytop.WholeTalks': WHATEVER THE INPUT: true; the input reads as it did. -/
def wholeTalksSpec : ChangeSpec := { name := "wholeTalks", fn := fun _ => fun
  | [d1, d2, d3, d4] => { results := [.lit (.bool true)], args := [d1, d2, d3, d4] }
  | _ => none }
def wholeTalksRow : OpenClaim := { program := "ytimoclkoflamkaagreatdoor", sum := "94bdb98c9542bbbb6e979f4615f77b6c77a491167301f6547045d5f306036b0b", func := "hatchway/hatchwaytop.WholeTalks", spec := "wholeTalks", inPlace := ["internal/abi.NoEscape", "internal/bytealg.MakeNoZero", "internal/bytealg.IndexByteString", "internal/bytealg.IndexString"], unfollowed := true, recurses := true, named := ["hatchway/schema.uintSizes", "hatchway/compact.behind", "unicode/utf8.first", "unicode/utf8.acceptRanges", "internal/bytealg.MaxLen"], loops := true, plainKeys := false, apart := false, laid := [("unicode/utf8.acceptRanges", laid_unicode_utf8_acceptRanges), ("hatchway/compact.behind", laid_hatchway_compact_behind), ("hatchway/schema.uintSizes", laid_hatchway_schema_uintSizes), ("unicode/utf8.first", laid_unicode_utf8_first)] }
def WholeTalksSaid : Prop := wholeTalksRow.holds Tryz.pinned (OpenSpec.ofChange wholeTalksSpec)

/-- ITS FALSE NEIGHBOUR: 'it returns false'. Refute it at one input. -/
def wholeTalksWrong : ChangeSpec := { name := "wholeTalks", fn := fun _ => fun
  | [d1, d2, d3, d4] => { results := [.lit (.bool false)], args := [d1, d2, d3, d4] }
  | _ => none }
def WholeTalksWrongFalsely : Prop := wholeTalksRow.holds Tryz.pinned (OpenSpec.ofChange wholeTalksWrong)

/- THE SECOND FORM. 'bulk': how many values and letters a reading holds, each counted each time it is reached (what is shared counts as often as it is met; a slice's spare places count too). A statement '..UptoSaid' is the law's where the arguments, and the package variables that the reading takes, are together of bulk at most 1048576: NARROWER than '..Said'. Prove '..Said' where nothing that the law and all that it calls make is longer than what came in: it says more and counts as full. Else prove '..UptoSaid'. A law counts once. -/
mutual
def uptoBulk {H : Type} : DataW H → Nat
  | .lit (.string bytes) => bytes.length + 1
  | .lit _ => 1
  | .nil => 1
  | .ptr d => uptoBulk d + 1
  | .slice elems spare => uptoBulkAll elems + uptoBulkAll spare + 1
  | .agg parts => uptoBulkAll parts + 1
  | .iface _ d => uptoBulk d + 1
  | .map entries => uptoBulkEntries entries + 1
  | .held _ => 1
def uptoBulkAll {H : Type} : List (DataW H) → Nat
  | [] => 0
  | d :: r => uptoBulk d + uptoBulkAll r
def uptoBulkEntries {H : Type} : List (Lit × DataW H) → Nat
  | [] => 0
  | x :: r => uptoBulkEntry x + uptoBulkEntries r
def uptoBulkEntry {H : Type} : Lit × DataW H → Nat
  | (.string bytes, d) => bytes.length + uptoBulk d + 1
  | (_, d) => uptoBulk d + 1
 end
def uptoSmall : (H : Type) → List (DataW H) → Bool := fun _ ds => decide (uptoBulkAll ds ≤ 1048576)
def OpenSpec.upto (s : _root_.Go.ChangeSpec) : _root_.Go.OpenSpec := { _root_.Go.OpenSpec.ofChange s with cond := some uptoSmall }

/-- 'hatchwaylaw26.PeerApart', WHERE WHAT IT READS IS OF BULK AT MOST 1048576: true; the input reads as it did. -/
def peerApartUptoRow : OpenClaim := { program := "ytimoclkoflamkaagreatdoor", sum := "94bdb98c9542bbbb6e979f4615f77b6c77a491167301f6547045d5f306036b0b", func := "hatchway/hatchwaylaw26.PeerApart", spec := "peerApart", inPlace := ["internal/abi.NoEscape", "internal/bytealg.MakeNoZero", "internal/bytealg.IndexByteString", "internal/bytealg.IndexString"], unfollowed := true, recurses := true, named := ["hatchway/schema.uintSizes", "hatchway/compact.behind", "unicode/utf8.first", "unicode/utf8.acceptRanges", "internal/bytealg.MaxLen"], loops := true, plainKeys := false, apart := false, laid := [("unicode/utf8.acceptRanges", laid_unicode_utf8_acceptRanges), ("hatchway/compact.behind", laid_hatchway_compact_behind), ("hatchway/schema.uintSizes", laid_hatchway_schema_uintSizes), ("unicode/utf8.first", laid_unicode_utf8_first)], narrowed := true }
def PeerApartUptoSaid : Prop := peerApartUptoRow.holds Tryz.pinned (OpenSpec.upto peerApartSpec)

/-- 'hatchwaylaw26.PeerTalks', WHERE WHAT IT READS IS OF BULK AT MOST 1048576: true; the input reads as it did. -/
def peerTalksUptoRow : OpenClaim := { program := "ytimoclkoflamkaagreatdoor", sum := "94bdb98c9542bbbb6e979f4615f77b6c77a491167301f6547045d5f306036b0b", func := "hatchway/hatchwaylaw26.PeerTalks", spec := "peerTalks", inPlace := ["internal/abi.NoEscape", "internal/bytealg.MakeNoZero", "internal/bytealg.IndexByteString", "internal/bytealg.IndexString"], unfollowed := true, recurses := true, named := ["hatchway/schema.uintSizes", "hatchway/compact.behind", "unicode/utf8.first", "unicode/utf8.acceptRanges", "internal/bytealg.MaxLen"], loops := true, plainKeys := false, apart := false, laid := [("unicode/utf8.acceptRanges", laid_unicode_utf8_acceptRanges), ("hatchway/compact.behind", laid_hatchway_compact_behind), ("hatchway/schema.uintSizes", laid_hatchway_schema_uintSizes), ("unicode/utf8.first", laid_unicode_utf8_first)], narrowed := true }
def PeerTalksUptoSaid : Prop := peerTalksUptoRow.holds Tryz.pinned (OpenSpec.upto peerTalksSpec)

/-- 'hatchwaytop.WholeTalks', WHERE WHAT IT READS IS OF BULK AT MOST 1048576: true; the input reads as it did. -/
def wholeTalksUptoRow : OpenClaim := { program := "ytimoclkoflamkaagreatdoor", sum := "94bdb98c9542bbbb6e979f4615f77b6c77a491167301f6547045d5f306036b0b", func := "hatchway/hatchwaytop.WholeTalks", spec := "wholeTalks", inPlace := ["internal/abi.NoEscape", "internal/bytealg.MakeNoZero", "internal/bytealg.IndexByteString", "internal/bytealg.IndexString"], unfollowed := true, recurses := true, named := ["hatchway/schema.uintSizes", "hatchway/compact.behind", "unicode/utf8.first", "unicode/utf8.acceptRanges", "internal/bytealg.MaxLen"], loops := true, plainKeys := false, apart := false, laid := [("unicode/utf8.acceptRanges", laid_unicode_utf8_acceptRanges), ("hatchway/compact.behind", laid_hatchway_compact_behind), ("hatchway/schema.uintSizes", laid_hatchway_schema_uintSizes), ("unicode/utf8.first", laid_unicode_utf8_first)], narrowed := true }
def WholeTalksUptoSaid : Prop := wholeTalksUptoRow.holds Tryz.pinned (OpenSpec.upto wholeTalksSpec)

end Rows
end Go.Proofs.YtimoclkoflamkaaGreatDoor
