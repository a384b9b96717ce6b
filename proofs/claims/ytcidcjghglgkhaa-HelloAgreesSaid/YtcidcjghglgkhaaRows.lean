/-
  NARROWER THAN 'FOR EVERY INPUT', by the rows' own cells (each row's printed sentence says how): ItemApart: loops · ItemSame: loops · ItemShows: loops · HexesMessages: loops.
  DERIVED. THE GIVEN ROWS OF THIS SEAT. 9 by the template 'for every input the law returns true; each argument reads behind the call as it read before'; 0 by the template 'total and deterministic' (their statements: YtcidcjghglgkhaaTotals.lean).
  GIVEN WITH THE SEED: the statements are not yours to turn. If you find one false, say at which input.
  Laid BY PROGRAM, IN A SANDBOX (cutbox-rows.mjs): the forced cells as the released guide's own fill.sh prints them over the translation b2184f567d947533… (all of the seat's roots in one cut). By AI agents, Wed Nov 11 2026. No macro, syntax, notation, axiom, sorry.
-/
import Derived.Test.YtcidcjghglgkhaaChecked
import GoSem.Claim
import GoSem.ClaimJoined
import GoSem.ClaimMapViews
import Derived.JoinedTies
import Derived.KernelRfl
namespace Go.Proofs.Ytcidcjghglgkhaa
/- THE CELL 'sum', in the pinned program and in every row, IS THE sha256 OF THE DUMP (.gsa) THAT YtcidcjghglgkhaaProg.lean LOADS. Nothing in Lean hashes anything: it is a label: what it is worth is what the hold of that sum in a sandbox is worth. -/
noncomputable def Try.pinned : Pinned := { name := "ytcidcjghglgkhaa", sum := "b2184f567d947533c28dd70674df91695c7591b54101c1e5cb6d3e8ee55d3a95", checked := Try.checked }
namespace Rows
def none {H : Type} : Left H := { results := [], args := [] }

/-- 'hatchwaylaw08.ItemApart': WHATEVER THE INPUT: true; the input reads as it did. -/
def itemApartSpec : ChangeSpec := { name := "itemApart", fn := fun _ => fun
  | [d] => { results := [.lit (.bool true)], args := [d] }
  | _ => none }
def itemApartRow : OpenClaim := { program := "ytcidcjghglgkhaa", sum := "b2184f567d947533c28dd70674df91695c7591b54101c1e5cb6d3e8ee55d3a95", func := "hatchway/hatchwaylaw08.ItemApart", spec := "itemApart", unfollowed := true, recurses := true, loops := true, apart := false }
def ItemApartSaid : Prop := itemApartRow.holds Try.pinned (OpenSpec.ofChange itemApartSpec)

/-- ITS FALSE NEIGHBOUR: 'it returns false'. Refute it at one input. -/
def itemApartWrong : ChangeSpec := { name := "itemApart", fn := fun _ => fun
  | [d] => { results := [.lit (.bool false)], args := [d] }
  | _ => none }
def ItemApartWrongFalsely : Prop := itemApartRow.holds Try.pinned (OpenSpec.ofChange itemApartWrong)

/-- 'hatchwaylaw08.ItemSame': WHATEVER THE INPUT: true; the input reads as it did. -/
def itemSameSpec : ChangeSpec := { name := "itemSame", fn := fun _ => fun
  | [d1, d2] => { results := [.lit (.bool true)], args := [d1, d2] }
  | _ => none }
def itemSameRow : OpenClaim := { program := "ytcidcjghglgkhaa", sum := "b2184f567d947533c28dd70674df91695c7591b54101c1e5cb6d3e8ee55d3a95", func := "hatchway/hatchwaylaw08.ItemSame", spec := "itemSame", unfollowed := true, recurses := true, loops := true, apart := false }
def ItemSameSaid : Prop := itemSameRow.holds Try.pinned (OpenSpec.ofChange itemSameSpec)

/-- ITS FALSE NEIGHBOUR: 'it returns false'. Refute it at one input. -/
def itemSameWrong : ChangeSpec := { name := "itemSame", fn := fun _ => fun
  | [d1, d2] => { results := [.lit (.bool false)], args := [d1, d2] }
  | _ => none }
def ItemSameWrongFalsely : Prop := itemSameRow.holds Try.pinned (OpenSpec.ofChange itemSameWrong)

/-- 'hatchwaylaw32.HelloAgrees': WHATEVER THE INPUT: true; the input reads as it did. -/
def helloAgreesSpec : ChangeSpec := { name := "helloAgrees", fn := fun _ => fun
  | [d1, d2, d3] => { results := [.lit (.bool true)], args := [d1, d2, d3] }
  | _ => none }
def helloAgreesRow : OpenClaim := { program := "ytcidcjghglgkhaa", sum := "b2184f567d947533c28dd70674df91695c7591b54101c1e5cb6d3e8ee55d3a95", func := "hatchway/hatchwaylaw32.HelloAgrees", spec := "helloAgrees", unfollowed := true, recurses := true, apart := false }
def HelloAgreesSaid : Prop := helloAgreesRow.holds Try.pinned (OpenSpec.ofChange helloAgreesSpec)

/-- ITS FALSE NEIGHBOUR: 'it returns false'. Refute it at one input. -/
def helloAgreesWrong : ChangeSpec := { name := "helloAgrees", fn := fun _ => fun
  | [d1, d2, d3] => { results := [.lit (.bool false)], args := [d1, d2, d3] }
  | _ => none }
def HelloAgreesWrongFalsely : Prop := helloAgreesRow.holds Try.pinned (OpenSpec.ofChange helloAgreesWrong)

/-- 'hatchwaylaw27.HexesBytes': WHATEVER THE INPUT: true; the input reads as it did. -/
def hexesBytesSpec : ChangeSpec := { name := "hexesBytes", fn := fun _ => fun
  | [d1, d2] => { results := [.lit (.bool true)], args := [d1, d2] }
  | _ => none }
def hexesBytesRow : OpenClaim := { program := "ytcidcjghglgkhaa", sum := "b2184f567d947533c28dd70674df91695c7591b54101c1e5cb6d3e8ee55d3a95", func := "hatchway/hatchwaylaw27.HexesBytes", spec := "hexesBytes", inPlace := ["internal/abi.NoEscape", "internal/bytealg.IndexByteString"], unfollowed := true, recurses := true, apart := false }
def HexesBytesSaid : Prop := hexesBytesRow.holds Try.pinned (OpenSpec.ofChange hexesBytesSpec)

/-- ITS FALSE NEIGHBOUR: 'it returns false'. Refute it at one input. -/
def hexesBytesWrong : ChangeSpec := { name := "hexesBytes", fn := fun _ => fun
  | [d1, d2] => { results := [.lit (.bool false)], args := [d1, d2] }
  | _ => none }
def HexesBytesWrongFalsely : Prop := hexesBytesRow.holds Try.pinned (OpenSpec.ofChange hexesBytesWrong)

/-- 'hatchwaylaw08.ItemShows': WHATEVER THE INPUT: true; the input reads as it did. -/
def itemShowsSpec : ChangeSpec := { name := "itemShows", fn := fun _ => fun
  | [d] => { results := [.lit (.bool true)], args := [d] }
  | _ => none }
def itemShowsRow : OpenClaim := { program := "ytcidcjghglgkhaa", sum := "b2184f567d947533c28dd70674df91695c7591b54101c1e5cb6d3e8ee55d3a95", func := "hatchway/hatchwaylaw08.ItemShows", spec := "itemShows", unfollowed := true, recurses := true, loops := true, apart := false }
def ItemShowsSaid : Prop := itemShowsRow.holds Try.pinned (OpenSpec.ofChange itemShowsSpec)

/-- ITS FALSE NEIGHBOUR: 'it returns false'. Refute it at one input. -/
def itemShowsWrong : ChangeSpec := { name := "itemShows", fn := fun _ => fun
  | [d] => { results := [.lit (.bool false)], args := [d] }
  | _ => none }
def ItemShowsWrongFalsely : Prop := itemShowsRow.holds Try.pinned (OpenSpec.ofChange itemShowsWrong)

/-- 'hatchwaylaw08.ItemReads': WHATEVER THE INPUT: true; the input reads as it did. -/
def itemReadsSpec : ChangeSpec := { name := "itemReads", fn := fun _ => fun
  | [d] => { results := [.lit (.bool true)], args := [d] }
  | _ => none }
def itemReadsRow : OpenClaim := { program := "ytcidcjghglgkhaa", sum := "b2184f567d947533c28dd70674df91695c7591b54101c1e5cb6d3e8ee55d3a95", func := "hatchway/hatchwaylaw08.ItemReads", spec := "itemReads", unfollowed := true, recurses := true, apart := false }
def ItemReadsSaid : Prop := itemReadsRow.holds Try.pinned (OpenSpec.ofChange itemReadsSpec)

/-- ITS FALSE NEIGHBOUR: 'it returns false'. Refute it at one input. -/
def itemReadsWrong : ChangeSpec := { name := "itemReads", fn := fun _ => fun
  | [d] => { results := [.lit (.bool false)], args := [d] }
  | _ => none }
def ItemReadsWrongFalsely : Prop := itemReadsRow.holds Try.pinned (OpenSpec.ofChange itemReadsWrong)

/-- 'hatchwaylaw27.HexesDumps': WHATEVER THE INPUT: true; the input reads as it did. -/
def hexesDumpsSpec : ChangeSpec := { name := "hexesDumps", fn := fun _ => fun
  | [d] => { results := [.lit (.bool true)], args := [d] }
  | _ => none }
def hexesDumpsRow : OpenClaim := { program := "ytcidcjghglgkhaa", sum := "b2184f567d947533c28dd70674df91695c7591b54101c1e5cb6d3e8ee55d3a95", func := "hatchway/hatchwaylaw27.HexesDumps", spec := "hexesDumps", inPlace := ["internal/abi.NoEscape", "internal/bytealg.IndexByteString"], unfollowed := true, recurses := true, apart := false }
def HexesDumpsSaid : Prop := hexesDumpsRow.holds Try.pinned (OpenSpec.ofChange hexesDumpsSpec)

/-- ITS FALSE NEIGHBOUR: 'it returns false'. Refute it at one input. -/
def hexesDumpsWrong : ChangeSpec := { name := "hexesDumps", fn := fun _ => fun
  | [d] => { results := [.lit (.bool false)], args := [d] }
  | _ => none }
def HexesDumpsWrongFalsely : Prop := hexesDumpsRow.holds Try.pinned (OpenSpec.ofChange hexesDumpsWrong)

/-- 'hatchwaylaw27.HexesReads': WHATEVER THE INPUT: true; the input reads as it did. -/
def hexesReadsSpec : ChangeSpec := { name := "hexesReads", fn := fun _ => fun
  | [d] => { results := [.lit (.bool true)], args := [d] }
  | _ => none }
def hexesReadsRow : OpenClaim := { program := "ytcidcjghglgkhaa", sum := "b2184f567d947533c28dd70674df91695c7591b54101c1e5cb6d3e8ee55d3a95", func := "hatchway/hatchwaylaw27.HexesReads", spec := "hexesReads", inPlace := ["internal/abi.NoEscape", "internal/bytealg.IndexByteString"], unfollowed := true, recurses := true, apart := false }
def HexesReadsSaid : Prop := hexesReadsRow.holds Try.pinned (OpenSpec.ofChange hexesReadsSpec)

/-- ITS FALSE NEIGHBOUR: 'it returns false'. Refute it at one input. -/
def hexesReadsWrong : ChangeSpec := { name := "hexesReads", fn := fun _ => fun
  | [d] => { results := [.lit (.bool false)], args := [d] }
  | _ => none }
def HexesReadsWrongFalsely : Prop := hexesReadsRow.holds Try.pinned (OpenSpec.ofChange hexesReadsWrong)

/-- 'hatchwaylaw27.HexesMessages': WHATEVER THE INPUT: true; the input reads as it did. -/
def hexesMessagesSpec : ChangeSpec := { name := "hexesMessages", fn := fun _ => fun
  | [d1, d2] => { results := [.lit (.bool true)], args := [d1, d2] }
  | _ => none }
def hexesMessagesRow : OpenClaim := { program := "ytcidcjghglgkhaa", sum := "b2184f567d947533c28dd70674df91695c7591b54101c1e5cb6d3e8ee55d3a95", func := "hatchway/hatchwaylaw27.HexesMessages", spec := "hexesMessages", inPlace := ["internal/abi.NoEscape", "internal/bytealg.IndexByteString", "internal/bytealg.IndexString"], unfollowed := true, recurses := true, named := ["internal/bytealg.MaxLen"], loops := true, apart := false }
def HexesMessagesSaid : Prop := hexesMessagesRow.holds Try.pinned (OpenSpec.ofChange hexesMessagesSpec)

/-- ITS FALSE NEIGHBOUR: 'it returns false'. Refute it at one input. -/
def hexesMessagesWrong : ChangeSpec := { name := "hexesMessages", fn := fun _ => fun
  | [d1, d2] => { results := [.lit (.bool false)], args := [d1, d2] }
  | _ => none }
def HexesMessagesWrongFalsely : Prop := hexesMessagesRow.holds Try.pinned (OpenSpec.ofChange hexesMessagesWrong)

/- THE SECOND FORM. 'bulk': how many values and letters a reading holds, each counted each time it is reached (what is shared counts as often as it is met; a slice's spare places count too). A statement '..UptoSaid' is the law's where the arguments, and the package variables that the reading takes, are together of bulk at most 1048576: NARROWER than '..Said'. Prove '..Said' where nothing that the law and all that it calls make is longer than what came in: it says more and counts as full. Else prove '..UptoSaid'. A law counts once. -/
mutual
def uptoBulk {H : Type} : DataW H → Nat
  | .lit (.string bytes) => bytes.length + 1
  | .lit _ => 1
  | .nil => 1
  | .ptr d => uptoBulk d + 1
  | .slice elems spare => uptoBulkAll elems + uptoBulkAll spare + 1
  | .agg parts => uptoBulkAll parts + 1
  | .iface _ d => uptoBulk d + 1
  | .map entries => uptoBulkEntries entries + 1
  | .held _ => 1
def uptoBulkAll {H : Type} : List (DataW H) → Nat
  | [] => 0
  | d :: r => uptoBulk d + uptoBulkAll r
def uptoBulkEntries {H : Type} : List (Lit × DataW H) → Nat
  | [] => 0
  | x :: r => uptoBulkEntry x + uptoBulkEntries r
def uptoBulkEntry {H : Type} : Lit × DataW H → Nat
  | (.string bytes, d) => bytes.length + uptoBulk d + 1
  | (_, d) => uptoBulk d + 1
 end
def uptoSmall : (H : Type) → List (DataW H) → Bool := fun _ ds => decide (uptoBulkAll ds ≤ 1048576)
def OpenSpec.upto (s : _root_.Go.ChangeSpec) : _root_.Go.OpenSpec := { _root_.Go.OpenSpec.ofChange s with cond := some uptoSmall }

/-- 'hatchwaylaw08.ItemApart', WHERE WHAT IT READS IS OF BULK AT MOST 1048576: true; the input reads as it did. -/
def itemApartUptoRow : OpenClaim := { program := "ytcidcjghglgkhaa", sum := "b2184f567d947533c28dd70674df91695c7591b54101c1e5cb6d3e8ee55d3a95", func := "hatchway/hatchwaylaw08.ItemApart", spec := "itemApart", unfollowed := true, recurses := true, loops := true, apart := false, narrowed := true }
def ItemApartUptoSaid : Prop := itemApartUptoRow.holds Try.pinned (OpenSpec.upto itemApartSpec)

/-- 'hatchwaylaw08.ItemSame', WHERE WHAT IT READS IS OF BULK AT MOST 1048576: true; the input reads as it did. -/
def itemSameUptoRow : OpenClaim := { program := "ytcidcjghglgkhaa", sum := "b2184f567d947533c28dd70674df91695c7591b54101c1e5cb6d3e8ee55d3a95", func := "hatchway/hatchwaylaw08.ItemSame", spec := "itemSame", unfollowed := true, recurses := true, loops := true, apart := false, narrowed := true }
def ItemSameUptoSaid : Prop := itemSameUptoRow.holds Try.pinned (OpenSpec.upto itemSameSpec)

/-- 'hatchwaylaw32.HelloAgrees', WHERE WHAT IT READS IS OF BULK AT MOST 1048576: true; the input reads as it did. -/
def helloAgreesUptoRow : OpenClaim := { program := "ytcidcjghglgkhaa", sum := "b2184f567d947533c28dd70674df91695c7591b54101c1e5cb6d3e8ee55d3a95", func := "hatchway/hatchwaylaw32.HelloAgrees", spec := "helloAgrees", unfollowed := true, recurses := true, apart := false, narrowed := true }
def HelloAgreesUptoSaid : Prop := helloAgreesUptoRow.holds Try.pinned (OpenSpec.upto helloAgreesSpec)

/-- 'hatchwaylaw27.HexesBytes', WHERE WHAT IT READS IS OF BULK AT MOST 1048576: true; the input reads as it did. -/
def hexesBytesUptoRow : OpenClaim := { program := "ytcidcjghglgkhaa", sum := "b2184f567d947533c28dd70674df91695c7591b54101c1e5cb6d3e8ee55d3a95", func := "hatchway/hatchwaylaw27.HexesBytes", spec := "hexesBytes", inPlace := ["internal/abi.NoEscape", "internal/bytealg.IndexByteString"], unfollowed := true, recurses := true, apart := false, narrowed := true }
def HexesBytesUptoSaid : Prop := hexesBytesUptoRow.holds Try.pinned (OpenSpec.upto hexesBytesSpec)

/-- 'hatchwaylaw08.ItemShows', WHERE WHAT IT READS IS OF BULK AT MOST 1048576: true; the input reads as it did. -/
def itemShowsUptoRow : OpenClaim := { program := "ytcidcjghglgkhaa", sum := "b2184f567d947533c28dd70674df91695c7591b54101c1e5cb6d3e8ee55d3a95", func := "hatchway/hatchwaylaw08.ItemShows", spec := "itemShows", unfollowed := true, recurses := true, loops := true, apart := false, narrowed := true }
def ItemShowsUptoSaid : Prop := itemShowsUptoRow.holds Try.pinned (OpenSpec.upto itemShowsSpec)

/-- 'hatchwaylaw08.ItemReads', WHERE WHAT IT READS IS OF BULK AT MOST 1048576: true; the input reads as it did. -/
def itemReadsUptoRow : OpenClaim := { program := "ytcidcjghglgkhaa", sum := "b2184f567d947533c28dd70674df91695c7591b54101c1e5cb6d3e8ee55d3a95", func := "hatchway/hatchwaylaw08.ItemReads", spec := "itemReads", unfollowed := true, recurses := true, apart := false, narrowed := true }
def ItemReadsUptoSaid : Prop := itemReadsUptoRow.holds Try.pinned (OpenSpec.upto itemReadsSpec)

/-- 'hatchwaylaw27.HexesDumps', WHERE WHAT IT READS IS OF BULK AT MOST 1048576: true; the input reads as it did. -/
def hexesDumpsUptoRow : OpenClaim := { program := "ytcidcjghglgkhaa", sum := "b2184f567d947533c28dd70674df91695c7591b54101c1e5cb6d3e8ee55d3a95", func := "hatchway/hatchwaylaw27.HexesDumps", spec := "hexesDumps", inPlace := ["internal/abi.NoEscape", "internal/bytealg.IndexByteString"], unfollowed := true, recurses := true, apart := false, narrowed := true }
def HexesDumpsUptoSaid : Prop := hexesDumpsUptoRow.holds Try.pinned (OpenSpec.upto hexesDumpsSpec)

/-- 'hatchwaylaw27.HexesReads', WHERE WHAT IT READS IS OF BULK AT MOST 1048576: true; the input reads as it did. -/
def hexesReadsUptoRow : OpenClaim := { program := "ytcidcjghglgkhaa", sum := "b2184f567d947533c28dd70674df91695c7591b54101c1e5cb6d3e8ee55d3a95", func := "hatchway/hatchwaylaw27.HexesReads", spec := "hexesReads", inPlace := ["internal/abi.NoEscape", "internal/bytealg.IndexByteString"], unfollowed := true, recurses := true, apart := false, narrowed := true }
def HexesReadsUptoSaid : Prop := hexesReadsUptoRow.holds Try.pinned (OpenSpec.upto hexesReadsSpec)

/-- 'hatchwaylaw27.HexesMessages', WHERE WHAT IT READS IS OF BULK AT MOST 1048576: true; the input reads as it did. -/
def hexesMessagesUptoRow : OpenClaim := { program := "ytcidcjghglgkhaa", sum := "b2184f567d947533c28dd70674df91695c7591b54101c1e5cb6d3e8ee55d3a95", func := "hatchway/hatchwaylaw27.HexesMessages", spec := "hexesMessages", inPlace := ["internal/abi.NoEscape", "internal/bytealg.IndexByteString", "internal/bytealg.IndexString"], unfollowed := true, recurses := true, named := ["internal/bytealg.MaxLen"], loops := true, apart := false, narrowed := true }
def HexesMessagesUptoSaid : Prop := hexesMessagesUptoRow.holds Try.pinned (OpenSpec.upto hexesMessagesSpec)

end Rows
end Go.Proofs.Ytcidcjghglgkhaa
