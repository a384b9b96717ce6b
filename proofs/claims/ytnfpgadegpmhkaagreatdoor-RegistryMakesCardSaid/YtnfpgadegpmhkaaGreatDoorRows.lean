/-
  NARROWER THAN 'FOR EVERY INPUT', by the rows' own cells (each row's printed sentence says how): RegistryEncodes: loops, laid · RegistryDecodes: laid · RegistryMakes: laid.
  DERIVED. THE GIVEN ROWS OF THIS SEAT. 3 by the template 'for every input the law returns true; each argument reads behind the call as it read before'; 0 by the template 'total and deterministic' (their statements: YtnfpgadegpmhkaaGreatDoorTotals.lean).
  GIVEN WITH THE SEED: the statements are not yours to turn. If you find one false, say at which input.
  Laid BY PROGRAM, IN A SANDBOX (cutbox-rows.mjs): the forced cells as the released guide's own fill.sh prints them over the translation 514dec9155794638… (all of the seat's roots in one cut). By AI agents, Wed Nov 11 2026. No macro, syntax, notation, axiom, sorry.
-/
import Derived.Test.YtnfpgadegpmhkaaGreatDoorChecked
import GoSem.Claim
import GoSem.ClaimJoined
import GoSem.ClaimMapViews
import Derived.JoinedTies
import Derived.KernelRfl
namespace Go.Proofs.YtnfpgadegpmhkaaGreatDoor
/- THE CELL 'sum', in the pinned program and in every row, IS THE sha256 OF THE DUMP (.gsa) THAT YtnfpgadegpmhkaaGreatDoorProg.lean LOADS. Nothing in Lean hashes anything: it is a label: what it is worth is what the hold of that sum in a sandbox is worth. -/
noncomputable def Tryz.pinned : Pinned := { name := "ytnfpgadegpmhkaagreatdoor", sum := "514dec9155794638766989aab139ba8942883bf066d7e610656ba29db6281d83", checked := Tryz.checked }
namespace Rows
def none {H : Type} : Left H := { results := [], args := [] }

/- WHAT THE LISTED PACKAGE-LEVEL VARIABLES READ AS WHEN THE CALL BEGINS. Each datum BY PROGRAM (the guide's laid-datum.mjs) off the statement by which the dump's own 'gosem.cut.vars' lays the variable. In a bare row this is a premise. The card (YtnfpgadegpmhkaaGreatDoorCards.lean) ties it to the program's text. -/
def laid_hatchway_compact_behind {H : Type} : DataW H := .agg [.lit (.int .i64 2), .lit (.int .i64 4), .lit (.int .i64 8)]
def laid_hatchway_schema_uintSizes {H : Type} : DataW H := .agg [.lit (.int .i64 1), .lit (.int .i64 2), .lit (.int .i64 4), .lit (.int .i64 8)]

/-- 'hatchwaylaw24.RegistryEncodes': WHATEVER THE INPUT: true; the input reads as it did. -/
def registryEncodesSpec : ChangeSpec := { name := "registryEncodes", fn := fun _ => fun
  | [d1, d2, d3] => { results := [.lit (.bool true)], args := [d1, d2, d3] }
  | _ => none }
def registryEncodesRow : OpenClaim := { program := "ytnfpgadegpmhkaagreatdoor", sum := "514dec9155794638766989aab139ba8942883bf066d7e610656ba29db6281d83", func := "hatchway/hatchwaylaw24.RegistryEncodes", spec := "registryEncodes", inPlace := ["internal/abi.NoEscape", "internal/bytealg.MakeNoZero"], unfollowed := true, recurses := true, named := ["hatchway/schema.uintSizes", "hatchway/compact.behind"], loops := true, apart := false, laid := [("hatchway/compact.behind", laid_hatchway_compact_behind), ("hatchway/schema.uintSizes", laid_hatchway_schema_uintSizes)] }
def RegistryEncodesSaid : Prop := registryEncodesRow.holds Tryz.pinned (OpenSpec.ofChange registryEncodesSpec)

/-- ITS FALSE NEIGHBOUR: 'it returns false'. Refute it at one input. -/
def registryEncodesWrong : ChangeSpec := { name := "registryEncodes", fn := fun _ => fun
  | [d1, d2, d3] => { results := [.lit (.bool false)], args := [d1, d2, d3] }
  | _ => none }
def RegistryEncodesWrongFalsely : Prop := registryEncodesRow.holds Tryz.pinned (OpenSpec.ofChange registryEncodesWrong)

/-- 'hatchwaylaw24.RegistryDecodes': WHATEVER THE INPUT: true; the input reads as it did. -/
def registryDecodesSpec : ChangeSpec := { name := "registryDecodes", fn := fun _ => fun
  | [d1, d2, d3] => { results := [.lit (.bool true)], args := [d1, d2, d3] }
  | _ => none }
def registryDecodesRow : OpenClaim := { program := "ytnfpgadegpmhkaagreatdoor", sum := "514dec9155794638766989aab139ba8942883bf066d7e610656ba29db6281d83", func := "hatchway/hatchwaylaw24.RegistryDecodes", spec := "registryDecodes", inPlace := ["internal/abi.NoEscape", "internal/bytealg.MakeNoZero"], unfollowed := true, recurses := true, named := ["hatchway/schema.uintSizes", "hatchway/compact.behind"], apart := false, laid := [("hatchway/compact.behind", laid_hatchway_compact_behind), ("hatchway/schema.uintSizes", laid_hatchway_schema_uintSizes)] }
def RegistryDecodesSaid : Prop := registryDecodesRow.holds Tryz.pinned (OpenSpec.ofChange registryDecodesSpec)

/-- ITS FALSE NEIGHBOUR: 'it returns false'. Refute it at one input. -/
def registryDecodesWrong : ChangeSpec := { name := "registryDecodes", fn := fun _ => fun
  | [d1, d2, d3] => { results := [.lit (.bool false)], args := [d1, d2, d3] }
  | _ => none }
def RegistryDecodesWrongFalsely : Prop := registryDecodesRow.holds Tryz.pinned (OpenSpec.ofChange registryDecodesWrong)

/-- 'hatchwaylaw24.RegistryMakes': WHATEVER THE INPUT: true; the input reads as it did. -/
def registryMakesSpec : ChangeSpec := { name := "registryMakes", fn := fun _ => fun
  | [d1, d2, d3, d4] => { results := [.lit (.bool true)], args := [d1, d2, d3, d4] }
  | _ => none }
def registryMakesRow : OpenClaim := { program := "ytnfpgadegpmhkaagreatdoor", sum := "514dec9155794638766989aab139ba8942883bf066d7e610656ba29db6281d83", func := "hatchway/hatchwaylaw24.RegistryMakes", spec := "registryMakes", inPlace := ["internal/abi.NoEscape", "internal/bytealg.MakeNoZero"], unfollowed := true, recurses := true, named := ["hatchway/schema.uintSizes", "hatchway/compact.behind"], apart := false, laid := [("hatchway/compact.behind", laid_hatchway_compact_behind), ("hatchway/schema.uintSizes", laid_hatchway_schema_uintSizes)] }
def RegistryMakesSaid : Prop := registryMakesRow.holds Tryz.pinned (OpenSpec.ofChange registryMakesSpec)

/-- ITS FALSE NEIGHBOUR: 'it returns false'. Refute it at one input. -/
def registryMakesWrong : ChangeSpec := { name := "registryMakes", fn := fun _ => fun
  | [d1, d2, d3, d4] => { results := [.lit (.bool false)], args := [d1, d2, d3, d4] }
  | _ => none }
def RegistryMakesWrongFalsely : Prop := registryMakesRow.holds Tryz.pinned (OpenSpec.ofChange registryMakesWrong)

/- THE SECOND FORM. 'bulk': how many values and letters a reading holds, each counted each time it is reached (what is shared counts as often as it is met; a slice's spare places count too). A statement '..UptoSaid' is the law's where the arguments, and the package variables that the reading takes, are together of bulk at most 1048576: NARROWER than '..Said'. Prove '..Said' where nothing that the law and all that it calls make is longer than what came in: it says more and counts as full. Else prove '..UptoSaid'. A law counts once. -/
mutual
def uptoBulk {H : Type} : DataW H → Nat
  | .lit (.string bytes) => bytes.length + 1
  | .lit _ => 1
  | .nil => 1
  | .ptr d => uptoBulk d + 1
  | .slice elems spare => uptoBulkAll elems + uptoBulkAll spare + 1
  | .agg parts => uptoBulkAll parts + 1
  | .iface _ d => uptoBulk d + 1
  | .map entries => uptoBulkEntries entries + 1
  | .held _ => 1
def uptoBulkAll {H : Type} : List (DataW H) → Nat
  | [] => 0
  | d :: r => uptoBulk d + uptoBulkAll r
def uptoBulkEntries {H : Type} : List (Lit × DataW H) → Nat
  | [] => 0
  | x :: r => uptoBulkEntry x + uptoBulkEntries r
def uptoBulkEntry {H : Type} : Lit × DataW H → Nat
  | (.string bytes, d) => bytes.length + uptoBulk d + 1
  | (_, d) => uptoBulk d + 1
 end
def uptoSmall : (H : Type) → List (DataW H) → Bool := fun _ ds => decide (uptoBulkAll ds ≤ 1048576)
def OpenSpec.upto (s : _root_.Go.ChangeSpec) : _root_.Go.OpenSpec := { _root_.Go.OpenSpec.ofChange s with cond := some uptoSmall }

/-- 'hatchwaylaw24.RegistryEncodes', WHERE WHAT IT READS IS OF BULK AT MOST 1048576: true; the input reads as it did. -/
def registryEncodesUptoRow : OpenClaim := { program := "ytnfpgadegpmhkaagreatdoor", sum := "514dec9155794638766989aab139ba8942883bf066d7e610656ba29db6281d83", func := "hatchway/hatchwaylaw24.RegistryEncodes", spec := "registryEncodes", inPlace := ["internal/abi.NoEscape", "internal/bytealg.MakeNoZero"], unfollowed := true, recurses := true, named := ["hatchway/schema.uintSizes", "hatchway/compact.behind"], loops := true, apart := false, laid := [("hatchway/compact.behind", laid_hatchway_compact_behind), ("hatchway/schema.uintSizes", laid_hatchway_schema_uintSizes)], narrowed := true }
def RegistryEncodesUptoSaid : Prop := registryEncodesUptoRow.holds Tryz.pinned (OpenSpec.upto registryEncodesSpec)

/-- 'hatchwaylaw24.RegistryDecodes', WHERE WHAT IT READS IS OF BULK AT MOST 1048576: true; the input reads as it did. -/
def registryDecodesUptoRow : OpenClaim := { program := "ytnfpgadegpmhkaagreatdoor", sum := "514dec9155794638766989aab139ba8942883bf066d7e610656ba29db6281d83", func := "hatchway/hatchwaylaw24.RegistryDecodes", spec := "registryDecodes", inPlace := ["internal/abi.NoEscape", "internal/bytealg.MakeNoZero"], unfollowed := true, recurses := true, named := ["hatchway/schema.uintSizes", "hatchway/compact.behind"], apart := false, laid := [("hatchway/compact.behind", laid_hatchway_compact_behind), ("hatchway/schema.uintSizes", laid_hatchway_schema_uintSizes)], narrowed := true }
def RegistryDecodesUptoSaid : Prop := registryDecodesUptoRow.holds Tryz.pinned (OpenSpec.upto registryDecodesSpec)

/-- 'hatchwaylaw24.RegistryMakes', WHERE WHAT IT READS IS OF BULK AT MOST 1048576: true; the input reads as it did. -/
def registryMakesUptoRow : OpenClaim := { program := "ytnfpgadegpmhkaagreatdoor", sum := "514dec9155794638766989aab139ba8942883bf066d7e610656ba29db6281d83", func := "hatchway/hatchwaylaw24.RegistryMakes", spec := "registryMakes", inPlace := ["internal/abi.NoEscape", "internal/bytealg.MakeNoZero"], unfollowed := true, recurses := true, named := ["hatchway/schema.uintSizes", "hatchway/compact.behind"], apart := false, laid := [("hatchway/compact.behind", laid_hatchway_compact_behind), ("hatchway/schema.uintSizes", laid_hatchway_schema_uintSizes)], narrowed := true }
def RegistryMakesUptoSaid : Prop := registryMakesUptoRow.holds Tryz.pinned (OpenSpec.upto registryMakesSpec)

end Rows
end Go.Proofs.YtnfpgadegpmhkaaGreatDoor
