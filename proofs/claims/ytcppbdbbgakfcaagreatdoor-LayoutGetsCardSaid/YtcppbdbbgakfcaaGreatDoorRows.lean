/-
  NARROWER THAN 'FOR EVERY INPUT', by the rows' own cells (each row's printed sentence says how): LayoutCuts: loops, laid · LayoutPuts: loops, laid · LayoutGets: loops, laid.
  DERIVED. THE GIVEN ROWS OF THIS SEAT. 3 by the template 'for every input the law returns true; each argument reads behind the call as it read before'; 0 by the template 'total and deterministic' (their statements: YtcppbdbbgakfcaaGreatDoorTotals.lean).
  GIVEN WITH THE SEED: the statements are not yours to turn. If you find one false, say at which input.
  Laid BY PROGRAM, IN A SANDBOX (cutbox-rows.mjs): the forced cells as the released guide's own fill.sh prints them over the translation c3af394ce3909aee… (all of the seat's roots in one cut). By AI agents, Wed Nov 11 2026. No macro, syntax, notation, axiom, sorry.
-/
import Derived.Test.YtcppbdbbgakfcaaGreatDoorChecked
import GoSem.Claim
import GoSem.ClaimJoined
import GoSem.ClaimMapViews
import Derived.JoinedTies
import Derived.KernelRfl
namespace Go.Proofs.YtcppbdbbgakfcaaGreatDoor
/- THE CELL 'sum', in the pinned program and in every row, IS THE sha256 OF THE DUMP (.gsa) THAT YtcppbdbbgakfcaaGreatDoorProg.lean LOADS. Nothing in Lean hashes anything: it is a label: what it is worth is what the hold of that sum in a sandbox is worth. -/
noncomputable def Tryz.pinned : Pinned := { name := "ytcppbdbbgakfcaagreatdoor", sum := "c3af394ce3909aee3b2b1dc7e04d9a17d589358de1b70feab5d0a2994706d186", checked := Tryz.checked }
namespace Rows
def none {H : Type} : Left H := { results := [], args := [] }

/- WHAT THE LISTED PACKAGE-LEVEL VARIABLES READ AS WHEN THE CALL BEGINS. Each datum BY PROGRAM (the guide's laid-datum.mjs) off the statement by which the dump's own 'gosem.cut.vars' lays the variable. In a bare row this is a premise. The card (YtcppbdbbgakfcaaGreatDoorCards.lean) ties it to the program's text. -/
def laid_hatchway_compact_behind {H : Type} : DataW H := .agg [.lit (.int .i64 2), .lit (.int .i64 4), .lit (.int .i64 8)]
def laid_hatchway_schema_uintSizes {H : Type} : DataW H := .agg [.lit (.int .i64 1), .lit (.int .i64 2), .lit (.int .i64 4), .lit (.int .i64 8)]

/-- 'hatchwaylaw23.LayoutCuts': WHATEVER THE INPUT: true; the input reads as it did. -/
def layoutCutsSpec : ChangeSpec := { name := "layoutCuts", fn := fun _ => fun
  | [d1, d2, d3] => { results := [.lit (.bool true)], args := [d1, d2, d3] }
  | _ => none }
def layoutCutsRow : OpenClaim := { program := "ytcppbdbbgakfcaagreatdoor", sum := "c3af394ce3909aee3b2b1dc7e04d9a17d589358de1b70feab5d0a2994706d186", func := "hatchway/hatchwaylaw23.LayoutCuts", spec := "layoutCuts", inPlace := ["internal/abi.NoEscape", "internal/bytealg.MakeNoZero"], unfollowed := true, recurses := true, named := ["hatchway/schema.uintSizes", "hatchway/compact.behind"], loops := true, apart := false, laid := [("hatchway/compact.behind", laid_hatchway_compact_behind), ("hatchway/schema.uintSizes", laid_hatchway_schema_uintSizes)] }
def LayoutCutsSaid : Prop := layoutCutsRow.holds Tryz.pinned (OpenSpec.ofChange layoutCutsSpec)

/-- ITS FALSE NEIGHBOUR: 'it returns false'. Refute it at one input. -/
def layoutCutsWrong : ChangeSpec := { name := "layoutCuts", fn := fun _ => fun
  | [d1, d2, d3] => { results := [.lit (.bool false)], args := [d1, d2, d3] }
  | _ => none }
def LayoutCutsWrongFalsely : Prop := layoutCutsRow.holds Tryz.pinned (OpenSpec.ofChange layoutCutsWrong)

/-- 'hatchwaylaw23.LayoutPuts': WHATEVER THE INPUT: true; the input reads as it did. -/
def layoutPutsSpec : ChangeSpec := { name := "layoutPuts", fn := fun _ => fun
  | [d1, d2, d3] => { results := [.lit (.bool true)], args := [d1, d2, d3] }
  | _ => none }
def layoutPutsRow : OpenClaim := { program := "ytcppbdbbgakfcaagreatdoor", sum := "c3af394ce3909aee3b2b1dc7e04d9a17d589358de1b70feab5d0a2994706d186", func := "hatchway/hatchwaylaw23.LayoutPuts", spec := "layoutPuts", inPlace := ["internal/abi.NoEscape", "internal/bytealg.MakeNoZero"], unfollowed := true, recurses := true, named := ["hatchway/schema.uintSizes", "hatchway/compact.behind"], loops := true, apart := false, laid := [("hatchway/compact.behind", laid_hatchway_compact_behind), ("hatchway/schema.uintSizes", laid_hatchway_schema_uintSizes)] }
def LayoutPutsSaid : Prop := layoutPutsRow.holds Tryz.pinned (OpenSpec.ofChange layoutPutsSpec)

/-- ITS FALSE NEIGHBOUR: 'it returns false'. Refute it at one input. -/
def layoutPutsWrong : ChangeSpec := { name := "layoutPuts", fn := fun _ => fun
  | [d1, d2, d3] => { results := [.lit (.bool false)], args := [d1, d2, d3] }
  | _ => none }
def LayoutPutsWrongFalsely : Prop := layoutPutsRow.holds Tryz.pinned (OpenSpec.ofChange layoutPutsWrong)

/-- 'hatchwaylaw23.LayoutGets': WHATEVER THE INPUT: true; the input reads as it did. -/
def layoutGetsSpec : ChangeSpec := { name := "layoutGets", fn := fun _ => fun
  | [d1, d2, d3] => { results := [.lit (.bool true)], args := [d1, d2, d3] }
  | _ => none }
def layoutGetsRow : OpenClaim := { program := "ytcppbdbbgakfcaagreatdoor", sum := "c3af394ce3909aee3b2b1dc7e04d9a17d589358de1b70feab5d0a2994706d186", func := "hatchway/hatchwaylaw23.LayoutGets", spec := "layoutGets", inPlace := ["internal/abi.NoEscape", "internal/bytealg.MakeNoZero"], unfollowed := true, recurses := true, named := ["hatchway/schema.uintSizes", "hatchway/compact.behind"], loops := true, apart := false, laid := [("hatchway/compact.behind", laid_hatchway_compact_behind), ("hatchway/schema.uintSizes", laid_hatchway_schema_uintSizes)] }
def LayoutGetsSaid : Prop := layoutGetsRow.holds Tryz.pinned (OpenSpec.ofChange layoutGetsSpec)

/-- ITS FALSE NEIGHBOUR: 'it returns false'. Refute it at one input. -/
def layoutGetsWrong : ChangeSpec := { name := "layoutGets", fn := fun _ => fun
  | [d1, d2, d3] => { results := [.lit (.bool false)], args := [d1, d2, d3] }
  | _ => none }
def LayoutGetsWrongFalsely : Prop := layoutGetsRow.holds Tryz.pinned (OpenSpec.ofChange layoutGetsWrong)

/- THE SECOND FORM. 'bulk': how many values and letters a reading holds, each counted each time it is reached (what is shared counts as often as it is met; a slice's spare places count too). A statement '..UptoSaid' is the law's where the arguments, and the package variables that the reading takes, are together of bulk at most 1048576: NARROWER than '..Said'. Prove '..Said' where nothing that the law and all that it calls make is longer than what came in: it says more and counts as full. Else prove '..UptoSaid'. A law counts once. -/
mutual
def uptoBulk {H : Type} : DataW H → Nat
  | .lit (.string bytes) => bytes.length + 1
  | .lit _ => 1
  | .nil => 1
  | .ptr d => uptoBulk d + 1
  | .slice elems spare => uptoBulkAll elems + uptoBulkAll spare + 1
  | .agg parts => uptoBulkAll parts + 1
  | .iface _ d => uptoBulk d + 1
  | .map entries => uptoBulkEntries entries + 1
  | .held _ => 1
def uptoBulkAll {H : Type} : List (DataW H) → Nat
  | [] => 0
  | d :: r => uptoBulk d + uptoBulkAll r
def uptoBulkEntries {H : Type} : List (Lit × DataW H) → Nat
  | [] => 0
  | x :: r => uptoBulkEntry x + uptoBulkEntries r
def uptoBulkEntry {H : Type} : Lit × DataW H → Nat
  | (.string bytes, d) => bytes.length + uptoBulk d + 1
  | (_, d) => uptoBulk d + 1
 end
def uptoSmall : (H : Type) → List (DataW H) → Bool := fun _ ds => decide (uptoBulkAll ds ≤ 1048576)
def OpenSpec.upto (s : _root_.Go.ChangeSpec) : _root_.Go.OpenSpec := { _root_.Go.OpenSpec.ofChange s with cond := some uptoSmall }

/-- 'hatchwaylaw23.LayoutCuts', WHERE WHAT IT READS IS OF BULK AT MOST 1048576: true; the input reads as it did. -/
def layoutCutsUptoRow : OpenClaim := { program := "ytcppbdbbgakfcaagreatdoor", sum := "c3af394ce3909aee3b2b1dc7e04d9a17d589358de1b70feab5d0a2994706d186", func := "hatchway/hatchwaylaw23.LayoutCuts", spec := "layoutCuts", inPlace := ["internal/abi.NoEscape", "internal/bytealg.MakeNoZero"], unfollowed := true, recurses := true, named := ["hatchway/schema.uintSizes", "hatchway/compact.behind"], loops := true, apart := false, laid := [("hatchway/compact.behind", laid_hatchway_compact_behind), ("hatchway/schema.uintSizes", laid_hatchway_schema_uintSizes)], narrowed := true }
def LayoutCutsUptoSaid : Prop := layoutCutsUptoRow.holds Tryz.pinned (OpenSpec.upto layoutCutsSpec)

/-- 'hatchwaylaw23.LayoutPuts', WHERE WHAT IT READS IS OF BULK AT MOST 1048576: true; the input reads as it did. -/
def layoutPutsUptoRow : OpenClaim := { program := "ytcppbdbbgakfcaagreatdoor", sum := "c3af394ce3909aee3b2b1dc7e04d9a17d589358de1b70feab5d0a2994706d186", func := "hatchway/hatchwaylaw23.LayoutPuts", spec := "layoutPuts", inPlace := ["internal/abi.NoEscape", "internal/bytealg.MakeNoZero"], unfollowed := true, recurses := true, named := ["hatchway/schema.uintSizes", "hatchway/compact.behind"], loops := true, apart := false, laid := [("hatchway/compact.behind", laid_hatchway_compact_behind), ("hatchway/schema.uintSizes", laid_hatchway_schema_uintSizes)], narrowed := true }
def LayoutPutsUptoSaid : Prop := layoutPutsUptoRow.holds Tryz.pinned (OpenSpec.upto layoutPutsSpec)

/-- 'hatchwaylaw23.LayoutGets', WHERE WHAT IT READS IS OF BULK AT MOST 1048576: true; the input reads as it did. -/
def layoutGetsUptoRow : OpenClaim := { program := "ytcppbdbbgakfcaagreatdoor", sum := "c3af394ce3909aee3b2b1dc7e04d9a17d589358de1b70feab5d0a2994706d186", func := "hatchway/hatchwaylaw23.LayoutGets", spec := "layoutGets", inPlace := ["internal/abi.NoEscape", "internal/bytealg.MakeNoZero"], unfollowed := true, recurses := true, named := ["hatchway/schema.uintSizes", "hatchway/compact.behind"], loops := true, apart := false, laid := [("hatchway/compact.behind", laid_hatchway_compact_behind), ("hatchway/schema.uintSizes", laid_hatchway_schema_uintSizes)], narrowed := true }
def LayoutGetsUptoSaid : Prop := layoutGetsUptoRow.holds Tryz.pinned (OpenSpec.upto layoutGetsSpec)

end Rows
end Go.Proofs.YtcppbdbbgakfcaaGreatDoor
