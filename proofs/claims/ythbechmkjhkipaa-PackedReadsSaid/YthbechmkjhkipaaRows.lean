/-
  No cell of these rows narrows 'for every input' (looked for: loops, veiled, ifaces, maps, wideKeys, modest, calm, conditions, laid).
  DERIVED. THE GIVEN ROWS OF THIS SEAT. 6 by the template 'for every input the law returns true; each argument reads behind the call as it read before'; 0 by the template 'total and deterministic' (their statements: YthbechmkjhkipaaTotals.lean).
  GIVEN WITH THE SEED: the statements are not yours to turn. If you find one false, say at which input.
  Laid BY PROGRAM, IN A SANDBOX (cutbox-rows.mjs): the forced cells as the released guide's own fill.sh prints them over the translation 81ef6f9f919d3e9c… (all of the seat's roots in one cut). By AI agents, Wed Nov 11 2026. No macro, syntax, notation, axiom, sorry.
-/
import Derived.Test.YthbechmkjhkipaaChecked
import GoSem.Claim
import GoSem.ClaimJoined
import GoSem.ClaimMapViews
import Derived.JoinedTies
import Derived.KernelRfl
namespace Go.Proofs.Ythbechmkjhkipaa
/- THE CELL 'sum', in the pinned program and in every row, IS THE sha256 OF THE DUMP (.gsa) THAT YthbechmkjhkipaaProg.lean LOADS. Nothing in Lean hashes anything: it is a label: what it is worth is what the hold of that sum in a sandbox is worth. -/
noncomputable def Try.pinned : Pinned := { name := "ythbechmkjhkipaa", sum := "81ef6f9f919d3e9caad27087239f060b5e5528493cee46b22604c767426df7bc", checked := Try.checked }
namespace Rows
def none {H : Type} : Left H := { results := [], args := [] }

/-- 'hatchwaylaw12.SqueezeFar': WHATEVER THE INPUT: true; the input reads as it did. -/
def squeezeFarSpec : ChangeSpec := { name := "squeezeFar", fn := fun _ => fun
  | [d1, d2] => { results := [.lit (.bool true)], args := [d1, d2] }
  | _ => none }
def squeezeFarRow : OpenClaim := { program := "ythbechmkjhkipaa", sum := "81ef6f9f919d3e9caad27087239f060b5e5528493cee46b22604c767426df7bc", func := "hatchway/hatchwaylaw12.SqueezeFar", spec := "squeezeFar", unfollowed := true, recurses := true, plainKeys := false, apart := false }
def SqueezeFarSaid : Prop := squeezeFarRow.holds Try.pinned (OpenSpec.ofChange squeezeFarSpec)

/-- ITS FALSE NEIGHBOUR: 'it returns false'. Refute it at one input. -/
def squeezeFarWrong : ChangeSpec := { name := "squeezeFar", fn := fun _ => fun
  | [d1, d2] => { results := [.lit (.bool false)], args := [d1, d2] }
  | _ => none }
def SqueezeFarWrongFalsely : Prop := squeezeFarRow.holds Try.pinned (OpenSpec.ofChange squeezeFarWrong)

/-- 'hatchwaylaw12.SqueezePacks': WHATEVER THE INPUT: true; the input reads as it did. -/
def squeezePacksSpec : ChangeSpec := { name := "squeezePacks", fn := fun _ => fun
  | [d] => { results := [.lit (.bool true)], args := [d] }
  | _ => none }
def squeezePacksRow : OpenClaim := { program := "ythbechmkjhkipaa", sum := "81ef6f9f919d3e9caad27087239f060b5e5528493cee46b22604c767426df7bc", func := "hatchway/hatchwaylaw12.SqueezePacks", spec := "squeezePacks", unfollowed := true, recurses := true, plainKeys := false, apart := false }
def SqueezePacksSaid : Prop := squeezePacksRow.holds Try.pinned (OpenSpec.ofChange squeezePacksSpec)

/-- ITS FALSE NEIGHBOUR: 'it returns false'. Refute it at one input. -/
def squeezePacksWrong : ChangeSpec := { name := "squeezePacks", fn := fun _ => fun
  | [d] => { results := [.lit (.bool false)], args := [d] }
  | _ => none }
def SqueezePacksWrongFalsely : Prop := squeezePacksRow.holds Try.pinned (OpenSpec.ofChange squeezePacksWrong)

/-- 'hatchwaylaw12.SqueezeWide': WHATEVER THE INPUT: true; the input reads as it did. -/
def squeezeWideSpec : ChangeSpec := { name := "squeezeWide", fn := fun _ => fun
  | [d1, d2] => { results := [.lit (.bool true)], args := [d1, d2] }
  | _ => none }
def squeezeWideRow : OpenClaim := { program := "ythbechmkjhkipaa", sum := "81ef6f9f919d3e9caad27087239f060b5e5528493cee46b22604c767426df7bc", func := "hatchway/hatchwaylaw12.SqueezeWide", spec := "squeezeWide", unfollowed := true, recurses := true, plainKeys := false, apart := false }
def SqueezeWideSaid : Prop := squeezeWideRow.holds Try.pinned (OpenSpec.ofChange squeezeWideSpec)

/-- ITS FALSE NEIGHBOUR: 'it returns false'. Refute it at one input. -/
def squeezeWideWrong : ChangeSpec := { name := "squeezeWide", fn := fun _ => fun
  | [d1, d2] => { results := [.lit (.bool false)], args := [d1, d2] }
  | _ => none }
def SqueezeWideWrongFalsely : Prop := squeezeWideRow.holds Try.pinned (OpenSpec.ofChange squeezeWideWrong)

/-- 'hatchwaylaw16.PackedPuts': WHATEVER THE INPUT: true; the input reads as it did. -/
def packedPutsSpec : ChangeSpec := { name := "packedPuts", fn := fun _ => fun
  | [d1, d2, d3] => { results := [.lit (.bool true)], args := [d1, d2, d3] }
  | _ => none }
def packedPutsRow : OpenClaim := { program := "ythbechmkjhkipaa", sum := "81ef6f9f919d3e9caad27087239f060b5e5528493cee46b22604c767426df7bc", func := "hatchway/hatchwaylaw16.PackedPuts", spec := "packedPuts", unfollowed := true, recurses := true, plainKeys := false, apart := false }
def PackedPutsSaid : Prop := packedPutsRow.holds Try.pinned (OpenSpec.ofChange packedPutsSpec)

/-- ITS FALSE NEIGHBOUR: 'it returns false'. Refute it at one input. -/
def packedPutsWrong : ChangeSpec := { name := "packedPuts", fn := fun _ => fun
  | [d1, d2, d3] => { results := [.lit (.bool false)], args := [d1, d2, d3] }
  | _ => none }
def PackedPutsWrongFalsely : Prop := packedPutsRow.holds Try.pinned (OpenSpec.ofChange packedPutsWrong)

/-- 'hatchwaylaw16.PackedReads': WHATEVER THE INPUT: true; the input reads as it did. -/
def packedReadsSpec : ChangeSpec := { name := "packedReads", fn := fun _ => fun
  | [d1, d2, d3, d4] => { results := [.lit (.bool true)], args := [d1, d2, d3, d4] }
  | _ => none }
def packedReadsRow : OpenClaim := { program := "ythbechmkjhkipaa", sum := "81ef6f9f919d3e9caad27087239f060b5e5528493cee46b22604c767426df7bc", func := "hatchway/hatchwaylaw16.PackedReads", spec := "packedReads", unfollowed := true, recurses := true, plainKeys := false, apart := false }
def PackedReadsSaid : Prop := packedReadsRow.holds Try.pinned (OpenSpec.ofChange packedReadsSpec)

/-- ITS FALSE NEIGHBOUR: 'it returns false'. Refute it at one input. -/
def packedReadsWrong : ChangeSpec := { name := "packedReads", fn := fun _ => fun
  | [d1, d2, d3, d4] => { results := [.lit (.bool false)], args := [d1, d2, d3, d4] }
  | _ => none }
def PackedReadsWrongFalsely : Prop := packedReadsRow.holds Try.pinned (OpenSpec.ofChange packedReadsWrong)

/-- 'hatchwaylaw16.PackedOver': WHATEVER THE INPUT: true; the input reads as it did. -/
def packedOverSpec : ChangeSpec := { name := "packedOver", fn := fun _ => fun
  | [d1, d2, d3, d4] => { results := [.lit (.bool true)], args := [d1, d2, d3, d4] }
  | _ => none }
def packedOverRow : OpenClaim := { program := "ythbechmkjhkipaa", sum := "81ef6f9f919d3e9caad27087239f060b5e5528493cee46b22604c767426df7bc", func := "hatchway/hatchwaylaw16.PackedOver", spec := "packedOver", unfollowed := true, recurses := true, plainKeys := false, apart := false }
def PackedOverSaid : Prop := packedOverRow.holds Try.pinned (OpenSpec.ofChange packedOverSpec)

/-- ITS FALSE NEIGHBOUR: 'it returns false'. Refute it at one input. -/
def packedOverWrong : ChangeSpec := { name := "packedOver", fn := fun _ => fun
  | [d1, d2, d3, d4] => { results := [.lit (.bool false)], args := [d1, d2, d3, d4] }
  | _ => none }
def PackedOverWrongFalsely : Prop := packedOverRow.holds Try.pinned (OpenSpec.ofChange packedOverWrong)

/- THE SECOND FORM. 'bulk': how many values and letters a reading holds, each counted each time it is reached (what is shared counts as often as it is met; a slice's spare places count too). A statement '..UptoSaid' is the law's where the arguments, and the package variables that the reading takes, are together of bulk at most 1048576: NARROWER than '..Said'. Prove '..Said' where nothing that the law and all that it calls make is longer than what came in: it says more and counts as full. Else prove '..UptoSaid'. A law counts once. -/
mutual
def uptoBulk {H : Type} : DataW H → Nat
  | .lit (.string bytes) => bytes.length + 1
  | .lit _ => 1
  | .nil => 1
  | .ptr d => uptoBulk d + 1
  | .slice elems spare => uptoBulkAll elems + uptoBulkAll spare + 1
  | .agg parts => uptoBulkAll parts + 1
  | .iface _ d => uptoBulk d + 1
  | .map entries => uptoBulkEntries entries + 1
  | .held _ => 1
def uptoBulkAll {H : Type} : List (DataW H) → Nat
  | [] => 0
  | d :: r => uptoBulk d + uptoBulkAll r
def uptoBulkEntries {H : Type} : List (Lit × DataW H) → Nat
  | [] => 0
  | x :: r => uptoBulkEntry x + uptoBulkEntries r
def uptoBulkEntry {H : Type} : Lit × DataW H → Nat
  | (.string bytes, d) => bytes.length + uptoBulk d + 1
  | (_, d) => uptoBulk d + 1
 end
def uptoSmall : (H : Type) → List (DataW H) → Bool := fun _ ds => decide (uptoBulkAll ds ≤ 1048576)
def OpenSpec.upto (s : _root_.Go.ChangeSpec) : _root_.Go.OpenSpec := { _root_.Go.OpenSpec.ofChange s with cond := some uptoSmall }

/-- 'hatchwaylaw12.SqueezeFar', WHERE WHAT IT READS IS OF BULK AT MOST 1048576: true; the input reads as it did. -/
def squeezeFarUptoRow : OpenClaim := { program := "ythbechmkjhkipaa", sum := "81ef6f9f919d3e9caad27087239f060b5e5528493cee46b22604c767426df7bc", func := "hatchway/hatchwaylaw12.SqueezeFar", spec := "squeezeFar", unfollowed := true, recurses := true, plainKeys := false, apart := false, narrowed := true }
def SqueezeFarUptoSaid : Prop := squeezeFarUptoRow.holds Try.pinned (OpenSpec.upto squeezeFarSpec)

/-- 'hatchwaylaw12.SqueezePacks', WHERE WHAT IT READS IS OF BULK AT MOST 1048576: true; the input reads as it did. -/
def squeezePacksUptoRow : OpenClaim := { program := "ythbechmkjhkipaa", sum := "81ef6f9f919d3e9caad27087239f060b5e5528493cee46b22604c767426df7bc", func := "hatchway/hatchwaylaw12.SqueezePacks", spec := "squeezePacks", unfollowed := true, recurses := true, plainKeys := false, apart := false, narrowed := true }
def SqueezePacksUptoSaid : Prop := squeezePacksUptoRow.holds Try.pinned (OpenSpec.upto squeezePacksSpec)

/-- 'hatchwaylaw12.SqueezeWide', WHERE WHAT IT READS IS OF BULK AT MOST 1048576: true; the input reads as it did. -/
def squeezeWideUptoRow : OpenClaim := { program := "ythbechmkjhkipaa", sum := "81ef6f9f919d3e9caad27087239f060b5e5528493cee46b22604c767426df7bc", func := "hatchway/hatchwaylaw12.SqueezeWide", spec := "squeezeWide", unfollowed := true, recurses := true, plainKeys := false, apart := false, narrowed := true }
def SqueezeWideUptoSaid : Prop := squeezeWideUptoRow.holds Try.pinned (OpenSpec.upto squeezeWideSpec)

/-- 'hatchwaylaw16.PackedPuts', WHERE WHAT IT READS IS OF BULK AT MOST 1048576: true; the input reads as it did. -/
def packedPutsUptoRow : OpenClaim := { program := "ythbechmkjhkipaa", sum := "81ef6f9f919d3e9caad27087239f060b5e5528493cee46b22604c767426df7bc", func := "hatchway/hatchwaylaw16.PackedPuts", spec := "packedPuts", unfollowed := true, recurses := true, plainKeys := false, apart := false, narrowed := true }
def PackedPutsUptoSaid : Prop := packedPutsUptoRow.holds Try.pinned (OpenSpec.upto packedPutsSpec)

/-- 'hatchwaylaw16.PackedReads', WHERE WHAT IT READS IS OF BULK AT MOST 1048576: true; the input reads as it did. -/
def packedReadsUptoRow : OpenClaim := { program := "ythbechmkjhkipaa", sum := "81ef6f9f919d3e9caad27087239f060b5e5528493cee46b22604c767426df7bc", func := "hatchway/hatchwaylaw16.PackedReads", spec := "packedReads", unfollowed := true, recurses := true, plainKeys := false, apart := false, narrowed := true }
def PackedReadsUptoSaid : Prop := packedReadsUptoRow.holds Try.pinned (OpenSpec.upto packedReadsSpec)

/-- 'hatchwaylaw16.PackedOver', WHERE WHAT IT READS IS OF BULK AT MOST 1048576: true; the input reads as it did. -/
def packedOverUptoRow : OpenClaim := { program := "ythbechmkjhkipaa", sum := "81ef6f9f919d3e9caad27087239f060b5e5528493cee46b22604c767426df7bc", func := "hatchway/hatchwaylaw16.PackedOver", spec := "packedOver", unfollowed := true, recurses := true, plainKeys := false, apart := false, narrowed := true }
def PackedOverUptoSaid : Prop := packedOverUptoRow.holds Try.pinned (OpenSpec.upto packedOverSpec)

end Rows
end Go.Proofs.Ythbechmkjhkipaa
