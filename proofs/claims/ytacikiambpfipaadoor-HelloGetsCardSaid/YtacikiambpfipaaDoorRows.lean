/-
  NARROWER THAN 'FOR EVERY INPUT', by the rows' own cells (each row's printed sentence says how): TreeOne: loops, laid · CoinPuts: laid · CoinReads: laid · CoinTurned: laid · TreePuts: loops, laid · TreeGets: loops, laid · HelloPuts: laid · HelloGets: laid.
  DERIVED. THE GIVEN ROWS OF THIS SEAT. 8 by the template 'for every input the law returns true; each argument reads behind the call as it read before'; 0 by the template 'total and deterministic' (their statements: YtacikiambpfipaaDoorTotals.lean).
  GIVEN WITH THE SEED: the statements are not yours to turn. If you find one false, say at which input.
  Laid BY PROGRAM, IN A SANDBOX (cutbox-rows.mjs): the forced cells as the released guide's own fill.sh prints them over the translation cbcc48f0f0f4631a… (all of the seat's roots in one cut). By AI agents, Wed Nov 11 2026. No macro, syntax, notation, axiom, sorry.
-/
import Derived.Test.YtacikiambpfipaaDoorChecked
import GoSem.PinnedTables
import GoSem.Claim
import GoSem.ClaimJoined
import GoSem.ClaimMapViews
import Derived.JoinedTies
import Derived.KernelRfl
namespace Go.Proofs.YtacikiambpfipaaDoor
/- THE CELL 'sum', in the pinned program and in every row, IS THE sha256 OF THE DUMP (.gsa) THAT YtacikiambpfipaaDoorProg.lean LOADS. Nothing in Lean hashes anything: it is a label: what it is worth is what the hold of that sum in a sandbox is worth. -/
noncomputable def Tryd.pinned : Pinned := { name := "ytacikiambpfipaadoor", sum := "cbcc48f0f0f4631aa38fc6c4087476bf14647918c7cfc61bce457597161d1b36", checked := Tryd.checked }
namespace Rows
def none {H : Type} : Left H := { results := [], args := [] }

/- WHAT THE LISTED PACKAGE-LEVEL VARIABLES READ AS WHEN THE CALL BEGINS. Each datum BY PROGRAM (the guide's laid-datum.mjs) off the statement by which the dump's own 'gosem.cut.vars' lays the variable. In a bare row this is a premise. The card (YtacikiambpfipaaDoorCards.lean) ties it to the program's text. -/
def laid_hatchway_schema_uintSizes {H : Type} : DataW H := .agg [.lit (.int .i64 1), .lit (.int .i64 2), .lit (.int .i64 4), .lit (.int .i64 8)]
def laid_unicode_utf8_acceptRanges {H : Type} : DataW H := .agg [.agg [.lit (.int .u8 128), .lit (.int .u8 191)], .agg [.lit (.int .u8 160), .lit (.int .u8 191)], .agg [.lit (.int .u8 128), .lit (.int .u8 159)], .agg [.lit (.int .u8 144), .lit (.int .u8 191)], .agg [.lit (.int .u8 128), .lit (.int .u8 143)], .agg [.lit (.int .u8 0), .lit (.int .u8 0)], .agg [.lit (.int .u8 0), .lit (.int .u8 0)], .agg [.lit (.int .u8 0), .lit (.int .u8 0)], .agg [.lit (.int .u8 0), .lit (.int .u8 0)], .agg [.lit (.int .u8 0), .lit (.int .u8 0)], .agg [.lit (.int .u8 0), .lit (.int .u8 0)], .agg [.lit (.int .u8 0), .lit (.int .u8 0)], .agg [.lit (.int .u8 0), .lit (.int .u8 0)], .agg [.lit (.int .u8 0), .lit (.int .u8 0)], .agg [.lit (.int .u8 0), .lit (.int .u8 0)], .agg [.lit (.int .u8 0), .lit (.int .u8 0)]]
/-- One of Go's own tables, pinned by name: the form's constant. -/
def laid_unicode_utf8_first : DataW Unit := Go.Pinned.utf8First

/-- 'hatchwaylaw22.TreeOne': WHATEVER THE INPUT: true; the input reads as it did. -/
def treeOneSpec : ChangeSpec := { name := "treeOne", fn := fun _ => fun
  | [d1, d2, d3] => { results := [.lit (.bool true)], args := [d1, d2, d3] }
  | _ => none }
def treeOneRow : OpenClaim := { program := "ytacikiambpfipaadoor", sum := "cbcc48f0f0f4631aa38fc6c4087476bf14647918c7cfc61bce457597161d1b36", func := "hatchway/hatchwaylaw22.TreeOne", spec := "treeOne", inPlace := ["internal/abi.NoEscape", "internal/bytealg.MakeNoZero"], unfollowed := true, recurses := true, named := ["hatchway/schema.uintSizes"], loops := true, apart := false, laid := [("hatchway/schema.uintSizes", laid_hatchway_schema_uintSizes)] }
def TreeOneSaid : Prop := treeOneRow.holds Tryd.pinned (OpenSpec.ofChange treeOneSpec)

/-- ITS FALSE NEIGHBOUR: 'it returns false'. Refute it at one input. -/
def treeOneWrong : ChangeSpec := { name := "treeOne", fn := fun _ => fun
  | [d1, d2, d3] => { results := [.lit (.bool false)], args := [d1, d2, d3] }
  | _ => none }
def TreeOneWrongFalsely : Prop := treeOneRow.holds Tryd.pinned (OpenSpec.ofChange treeOneWrong)

/-- 'hatchwaylaw14.CoinPuts': WHATEVER THE INPUT: true; the input reads as it did. -/
def coinPutsSpec : ChangeSpec := { name := "coinPuts", fn := fun _ => fun
  | [d1, d2, d3, d4] => { results := [.lit (.bool true)], args := [d1, d2, d3, d4] }
  | _ => none }
def coinPutsRow : OpenClaim := { program := "ytacikiambpfipaadoor", sum := "cbcc48f0f0f4631aa38fc6c4087476bf14647918c7cfc61bce457597161d1b36", func := "hatchway/hatchwaylaw14.CoinPuts", spec := "coinPuts", inPlace := ["internal/bytealg.IndexByteString", "internal/bytealg.IndexString"], unfollowed := true, recurses := true, named := ["unicode/utf8.first", "unicode/utf8.acceptRanges", "internal/bytealg.MaxLen"], apart := false, laid := [("unicode/utf8.acceptRanges", laid_unicode_utf8_acceptRanges), ("unicode/utf8.first", laid_unicode_utf8_first)] }
def CoinPutsSaid : Prop := coinPutsRow.holds Tryd.pinned (OpenSpec.ofChange coinPutsSpec)

/-- ITS FALSE NEIGHBOUR: 'it returns false'. Refute it at one input. -/
def coinPutsWrong : ChangeSpec := { name := "coinPuts", fn := fun _ => fun
  | [d1, d2, d3, d4] => { results := [.lit (.bool false)], args := [d1, d2, d3, d4] }
  | _ => none }
def CoinPutsWrongFalsely : Prop := coinPutsRow.holds Tryd.pinned (OpenSpec.ofChange coinPutsWrong)

/-- 'hatchwaylaw14.CoinReads': WHATEVER THE INPUT: true; the input reads as it did. -/
def coinReadsSpec : ChangeSpec := { name := "coinReads", fn := fun _ => fun
  | [d1, d2, d3, d4] => { results := [.lit (.bool true)], args := [d1, d2, d3, d4] }
  | _ => none }
def coinReadsRow : OpenClaim := { program := "ytacikiambpfipaadoor", sum := "cbcc48f0f0f4631aa38fc6c4087476bf14647918c7cfc61bce457597161d1b36", func := "hatchway/hatchwaylaw14.CoinReads", spec := "coinReads", inPlace := ["internal/bytealg.IndexByteString", "internal/bytealg.IndexString"], unfollowed := true, recurses := true, named := ["unicode/utf8.first", "unicode/utf8.acceptRanges", "internal/bytealg.MaxLen"], apart := false, laid := [("unicode/utf8.acceptRanges", laid_unicode_utf8_acceptRanges), ("unicode/utf8.first", laid_unicode_utf8_first)] }
def CoinReadsSaid : Prop := coinReadsRow.holds Tryd.pinned (OpenSpec.ofChange coinReadsSpec)

/-- ITS FALSE NEIGHBOUR: 'it returns false'. Refute it at one input. -/
def coinReadsWrong : ChangeSpec := { name := "coinReads", fn := fun _ => fun
  | [d1, d2, d3, d4] => { results := [.lit (.bool false)], args := [d1, d2, d3, d4] }
  | _ => none }
def CoinReadsWrongFalsely : Prop := coinReadsRow.holds Tryd.pinned (OpenSpec.ofChange coinReadsWrong)

/-- 'hatchwaylaw14.CoinTurned': WHATEVER THE INPUT: true; the input reads as it did. -/
def coinTurnedSpec : ChangeSpec := { name := "coinTurned", fn := fun _ => fun
  | [d1, d2, d3, d4, d5] => { results := [.lit (.bool true)], args := [d1, d2, d3, d4, d5] }
  | _ => none }
def coinTurnedRow : OpenClaim := { program := "ytacikiambpfipaadoor", sum := "cbcc48f0f0f4631aa38fc6c4087476bf14647918c7cfc61bce457597161d1b36", func := "hatchway/hatchwaylaw14.CoinTurned", spec := "coinTurned", inPlace := ["internal/bytealg.IndexByteString", "internal/bytealg.IndexString"], unfollowed := true, recurses := true, named := ["unicode/utf8.first", "unicode/utf8.acceptRanges", "internal/bytealg.MaxLen"], apart := false, laid := [("unicode/utf8.acceptRanges", laid_unicode_utf8_acceptRanges), ("unicode/utf8.first", laid_unicode_utf8_first)] }
def CoinTurnedSaid : Prop := coinTurnedRow.holds Tryd.pinned (OpenSpec.ofChange coinTurnedSpec)

/-- ITS FALSE NEIGHBOUR: 'it returns false'. Refute it at one input. -/
def coinTurnedWrong : ChangeSpec := { name := "coinTurned", fn := fun _ => fun
  | [d1, d2, d3, d4, d5] => { results := [.lit (.bool false)], args := [d1, d2, d3, d4, d5] }
  | _ => none }
def CoinTurnedWrongFalsely : Prop := coinTurnedRow.holds Tryd.pinned (OpenSpec.ofChange coinTurnedWrong)

/-- 'hatchwaylaw22.TreePuts': WHATEVER THE INPUT: true; the input reads as it did. -/
def treePutsSpec : ChangeSpec := { name := "treePuts", fn := fun _ => fun
  | [d1, d2, d3, d4] => { results := [.lit (.bool true)], args := [d1, d2, d3, d4] }
  | _ => none }
def treePutsRow : OpenClaim := { program := "ytacikiambpfipaadoor", sum := "cbcc48f0f0f4631aa38fc6c4087476bf14647918c7cfc61bce457597161d1b36", func := "hatchway/hatchwaylaw22.TreePuts", spec := "treePuts", inPlace := ["internal/abi.NoEscape", "internal/bytealg.MakeNoZero"], unfollowed := true, recurses := true, named := ["hatchway/schema.uintSizes"], loops := true, apart := false, laid := [("hatchway/schema.uintSizes", laid_hatchway_schema_uintSizes)] }
def TreePutsSaid : Prop := treePutsRow.holds Tryd.pinned (OpenSpec.ofChange treePutsSpec)

/-- ITS FALSE NEIGHBOUR: 'it returns false'. Refute it at one input. -/
def treePutsWrong : ChangeSpec := { name := "treePuts", fn := fun _ => fun
  | [d1, d2, d3, d4] => { results := [.lit (.bool false)], args := [d1, d2, d3, d4] }
  | _ => none }
def TreePutsWrongFalsely : Prop := treePutsRow.holds Tryd.pinned (OpenSpec.ofChange treePutsWrong)

/-- 'hatchwaylaw22.TreeGets': WHATEVER THE INPUT: true; the input reads as it did. -/
def treeGetsSpec : ChangeSpec := { name := "treeGets", fn := fun _ => fun
  | [d1, d2, d3, d4] => { results := [.lit (.bool true)], args := [d1, d2, d3, d4] }
  | _ => none }
def treeGetsRow : OpenClaim := { program := "ytacikiambpfipaadoor", sum := "cbcc48f0f0f4631aa38fc6c4087476bf14647918c7cfc61bce457597161d1b36", func := "hatchway/hatchwaylaw22.TreeGets", spec := "treeGets", inPlace := ["internal/abi.NoEscape", "internal/bytealg.MakeNoZero"], unfollowed := true, recurses := true, named := ["hatchway/schema.uintSizes"], loops := true, apart := false, laid := [("hatchway/schema.uintSizes", laid_hatchway_schema_uintSizes)] }
def TreeGetsSaid : Prop := treeGetsRow.holds Tryd.pinned (OpenSpec.ofChange treeGetsSpec)

/-- ITS FALSE NEIGHBOUR: 'it returns false'. Refute it at one input. -/
def treeGetsWrong : ChangeSpec := { name := "treeGets", fn := fun _ => fun
  | [d1, d2, d3, d4] => { results := [.lit (.bool false)], args := [d1, d2, d3, d4] }
  | _ => none }
def TreeGetsWrongFalsely : Prop := treeGetsRow.holds Tryd.pinned (OpenSpec.ofChange treeGetsWrong)

/-- 'hatchwaylaw32.HelloPuts': WHATEVER THE INPUT: true; the input reads as it did. -/
def helloPutsSpec : ChangeSpec := { name := "helloPuts", fn := fun _ => fun
  | [d] => { results := [.lit (.bool true)], args := [d] }
  | _ => none }
def helloPutsRow : OpenClaim := { program := "ytacikiambpfipaadoor", sum := "cbcc48f0f0f4631aa38fc6c4087476bf14647918c7cfc61bce457597161d1b36", func := "hatchway/hatchwaylaw32.HelloPuts", spec := "helloPuts", inPlace := ["internal/abi.NoEscape", "internal/bytealg.MakeNoZero"], unfollowed := true, recurses := true, named := ["hatchway/schema.uintSizes"], apart := false, laid := [("hatchway/schema.uintSizes", laid_hatchway_schema_uintSizes)] }
def HelloPutsSaid : Prop := helloPutsRow.holds Tryd.pinned (OpenSpec.ofChange helloPutsSpec)

/-- ITS FALSE NEIGHBOUR: 'it returns false'. Refute it at one input. -/
def helloPutsWrong : ChangeSpec := { name := "helloPuts", fn := fun _ => fun
  | [d] => { results := [.lit (.bool false)], args := [d] }
  | _ => none }
def HelloPutsWrongFalsely : Prop := helloPutsRow.holds Tryd.pinned (OpenSpec.ofChange helloPutsWrong)

/-- 'hatchwaylaw32.HelloGets': WHATEVER THE INPUT: true; the input reads as it did. -/
def helloGetsSpec : ChangeSpec := { name := "helloGets", fn := fun _ => fun
  | [d] => { results := [.lit (.bool true)], args := [d] }
  | _ => none }
def helloGetsRow : OpenClaim := { program := "ytacikiambpfipaadoor", sum := "cbcc48f0f0f4631aa38fc6c4087476bf14647918c7cfc61bce457597161d1b36", func := "hatchway/hatchwaylaw32.HelloGets", spec := "helloGets", inPlace := ["internal/abi.NoEscape", "internal/bytealg.MakeNoZero"], unfollowed := true, recurses := true, named := ["hatchway/schema.uintSizes"], apart := false, laid := [("hatchway/schema.uintSizes", laid_hatchway_schema_uintSizes)] }
def HelloGetsSaid : Prop := helloGetsRow.holds Tryd.pinned (OpenSpec.ofChange helloGetsSpec)

/-- ITS FALSE NEIGHBOUR: 'it returns false'. Refute it at one input. -/
def helloGetsWrong : ChangeSpec := { name := "helloGets", fn := fun _ => fun
  | [d] => { results := [.lit (.bool false)], args := [d] }
  | _ => none }
def HelloGetsWrongFalsely : Prop := helloGetsRow.holds Tryd.pinned (OpenSpec.ofChange helloGetsWrong)

/- THE SECOND FORM. 'bulk': how many values and letters a reading holds, each counted each time it is reached (what is shared counts as often as it is met; a slice's spare places count too). A statement '..UptoSaid' is the law's where the arguments, and the package variables that the reading takes, are together of bulk at most 1048576: NARROWER than '..Said'. Prove '..Said' where nothing that the law and all that it calls make is longer than what came in: it says more and counts as full. Else prove '..UptoSaid'. A law counts once. -/
mutual
def uptoBulk {H : Type} : DataW H → Nat
  | .lit (.string bytes) => bytes.length + 1
  | .lit _ => 1
  | .nil => 1
  | .ptr d => uptoBulk d + 1
  | .slice elems spare => uptoBulkAll elems + uptoBulkAll spare + 1
  | .agg parts => uptoBulkAll parts + 1
  | .iface _ d => uptoBulk d + 1
  | .map entries => uptoBulkEntries entries + 1
  | .held _ => 1
def uptoBulkAll {H : Type} : List (DataW H) → Nat
  | [] => 0
  | d :: r => uptoBulk d + uptoBulkAll r
def uptoBulkEntries {H : Type} : List (Lit × DataW H) → Nat
  | [] => 0
  | x :: r => uptoBulkEntry x + uptoBulkEntries r
def uptoBulkEntry {H : Type} : Lit × DataW H → Nat
  | (.string bytes, d) => bytes.length + uptoBulk d + 1
  | (_, d) => uptoBulk d + 1
 end
def uptoSmall : (H : Type) → List (DataW H) → Bool := fun _ ds => decide (uptoBulkAll ds ≤ 1048576)
def OpenSpec.upto (s : _root_.Go.ChangeSpec) : _root_.Go.OpenSpec := { _root_.Go.OpenSpec.ofChange s with cond := some uptoSmall }

/-- 'hatchwaylaw22.TreeOne', WHERE WHAT IT READS IS OF BULK AT MOST 1048576: true; the input reads as it did. -/
def treeOneUptoRow : OpenClaim := { program := "ytacikiambpfipaadoor", sum := "cbcc48f0f0f4631aa38fc6c4087476bf14647918c7cfc61bce457597161d1b36", func := "hatchway/hatchwaylaw22.TreeOne", spec := "treeOne", inPlace := ["internal/abi.NoEscape", "internal/bytealg.MakeNoZero"], unfollowed := true, recurses := true, named := ["hatchway/schema.uintSizes"], loops := true, apart := false, laid := [("hatchway/schema.uintSizes", laid_hatchway_schema_uintSizes)], narrowed := true }
def TreeOneUptoSaid : Prop := treeOneUptoRow.holds Tryd.pinned (OpenSpec.upto treeOneSpec)

/-- 'hatchwaylaw14.CoinPuts', WHERE WHAT IT READS IS OF BULK AT MOST 1048576: true; the input reads as it did. -/
def coinPutsUptoRow : OpenClaim := { program := "ytacikiambpfipaadoor", sum := "cbcc48f0f0f4631aa38fc6c4087476bf14647918c7cfc61bce457597161d1b36", func := "hatchway/hatchwaylaw14.CoinPuts", spec := "coinPuts", inPlace := ["internal/bytealg.IndexByteString", "internal/bytealg.IndexString"], unfollowed := true, recurses := true, named := ["unicode/utf8.first", "unicode/utf8.acceptRanges", "internal/bytealg.MaxLen"], apart := false, laid := [("unicode/utf8.acceptRanges", laid_unicode_utf8_acceptRanges), ("unicode/utf8.first", laid_unicode_utf8_first)], narrowed := true }
def CoinPutsUptoSaid : Prop := coinPutsUptoRow.holds Tryd.pinned (OpenSpec.upto coinPutsSpec)

/-- 'hatchwaylaw14.CoinReads', WHERE WHAT IT READS IS OF BULK AT MOST 1048576: true; the input reads as it did. -/
def coinReadsUptoRow : OpenClaim := { program := "ytacikiambpfipaadoor", sum := "cbcc48f0f0f4631aa38fc6c4087476bf14647918c7cfc61bce457597161d1b36", func := "hatchway/hatchwaylaw14.CoinReads", spec := "coinReads", inPlace := ["internal/bytealg.IndexByteString", "internal/bytealg.IndexString"], unfollowed := true, recurses := true, named := ["unicode/utf8.first", "unicode/utf8.acceptRanges", "internal/bytealg.MaxLen"], apart := false, laid := [("unicode/utf8.acceptRanges", laid_unicode_utf8_acceptRanges), ("unicode/utf8.first", laid_unicode_utf8_first)], narrowed := true }
def CoinReadsUptoSaid : Prop := coinReadsUptoRow.holds Tryd.pinned (OpenSpec.upto coinReadsSpec)

/-- 'hatchwaylaw14.CoinTurned', WHERE WHAT IT READS IS OF BULK AT MOST 1048576: true; the input reads as it did. -/
def coinTurnedUptoRow : OpenClaim := { program := "ytacikiambpfipaadoor", sum := "cbcc48f0f0f4631aa38fc6c4087476bf14647918c7cfc61bce457597161d1b36", func := "hatchway/hatchwaylaw14.CoinTurned", spec := "coinTurned", inPlace := ["internal/bytealg.IndexByteString", "internal/bytealg.IndexString"], unfollowed := true, recurses := true, named := ["unicode/utf8.first", "unicode/utf8.acceptRanges", "internal/bytealg.MaxLen"], apart := false, laid := [("unicode/utf8.acceptRanges", laid_unicode_utf8_acceptRanges), ("unicode/utf8.first", laid_unicode_utf8_first)], narrowed := true }
def CoinTurnedUptoSaid : Prop := coinTurnedUptoRow.holds Tryd.pinned (OpenSpec.upto coinTurnedSpec)

/-- 'hatchwaylaw22.TreePuts', WHERE WHAT IT READS IS OF BULK AT MOST 1048576: true; the input reads as it did. -/
def treePutsUptoRow : OpenClaim := { program := "ytacikiambpfipaadoor", sum := "cbcc48f0f0f4631aa38fc6c4087476bf14647918c7cfc61bce457597161d1b36", func := "hatchway/hatchwaylaw22.TreePuts", spec := "treePuts", inPlace := ["internal/abi.NoEscape", "internal/bytealg.MakeNoZero"], unfollowed := true, recurses := true, named := ["hatchway/schema.uintSizes"], loops := true, apart := false, laid := [("hatchway/schema.uintSizes", laid_hatchway_schema_uintSizes)], narrowed := true }
def TreePutsUptoSaid : Prop := treePutsUptoRow.holds Tryd.pinned (OpenSpec.upto treePutsSpec)

/-- 'hatchwaylaw22.TreeGets', WHERE WHAT IT READS IS OF BULK AT MOST 1048576: true; the input reads as it did. -/
def treeGetsUptoRow : OpenClaim := { program := "ytacikiambpfipaadoor", sum := "cbcc48f0f0f4631aa38fc6c4087476bf14647918c7cfc61bce457597161d1b36", func := "hatchway/hatchwaylaw22.TreeGets", spec := "treeGets", inPlace := ["internal/abi.NoEscape", "internal/bytealg.MakeNoZero"], unfollowed := true, recurses := true, named := ["hatchway/schema.uintSizes"], loops := true, apart := false, laid := [("hatchway/schema.uintSizes", laid_hatchway_schema_uintSizes)], narrowed := true }
def TreeGetsUptoSaid : Prop := treeGetsUptoRow.holds Tryd.pinned (OpenSpec.upto treeGetsSpec)

/-- 'hatchwaylaw32.HelloPuts', WHERE WHAT IT READS IS OF BULK AT MOST 1048576: true; the input reads as it did. -/
def helloPutsUptoRow : OpenClaim := { program := "ytacikiambpfipaadoor", sum := "cbcc48f0f0f4631aa38fc6c4087476bf14647918c7cfc61bce457597161d1b36", func := "hatchway/hatchwaylaw32.HelloPuts", spec := "helloPuts", inPlace := ["internal/abi.NoEscape", "internal/bytealg.MakeNoZero"], unfollowed := true, recurses := true, named := ["hatchway/schema.uintSizes"], apart := false, laid := [("hatchway/schema.uintSizes", laid_hatchway_schema_uintSizes)], narrowed := true }
def HelloPutsUptoSaid : Prop := helloPutsUptoRow.holds Tryd.pinned (OpenSpec.upto helloPutsSpec)

/-- 'hatchwaylaw32.HelloGets', WHERE WHAT IT READS IS OF BULK AT MOST 1048576: true; the input reads as it did. -/
def helloGetsUptoRow : OpenClaim := { program := "ytacikiambpfipaadoor", sum := "cbcc48f0f0f4631aa38fc6c4087476bf14647918c7cfc61bce457597161d1b36", func := "hatchway/hatchwaylaw32.HelloGets", spec := "helloGets", inPlace := ["internal/abi.NoEscape", "internal/bytealg.MakeNoZero"], unfollowed := true, recurses := true, named := ["hatchway/schema.uintSizes"], apart := false, laid := [("hatchway/schema.uintSizes", laid_hatchway_schema_uintSizes)], narrowed := true }
def HelloGetsUptoSaid : Prop := helloGetsUptoRow.holds Tryd.pinned (OpenSpec.upto helloGetsSpec)

end Rows
end Go.Proofs.YtacikiambpfipaaDoor
