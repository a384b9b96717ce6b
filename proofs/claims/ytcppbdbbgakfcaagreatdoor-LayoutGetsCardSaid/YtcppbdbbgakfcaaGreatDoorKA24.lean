/- The document's parse, of types: words. -/
import Derived.Test.YtcppbdbbgakfcaaGreatDoorKA21
import Derived.Test.YtcppbdbbgakfcaaGreatDoorKA3
import Derived.Test.YtcppbdbbgakfcaaGreatDoorKA22
import Derived.Deep.QuietTactic
import Derived.BigQuiet
import Derived.Deep.DeepFit
import Derived.WalkSpells
set_option linter.unusedVariables false
set_option linter.unusedSimpArgs false
namespace Go.Proofs.YtcppbdbbgakfcaaGreatDoor
open Go.RowKit
def TyEnd (s : ByteArray) (w : World) (R : Option (Ty × List UInt8)) (e : Ending) (w' : World) : Prop :=
 Below w.heap.size w w' ∧ match R with
  | none => ∃ v0 v1 : Int, e = .returned (.tuple #[.agg #[.int .i64 v0, .int .i64 v1, .slice none 0 0, .int .i64 0], .int .i64 (-1)])
  | some (x, r) => ∃ c0 c1 c2 c3, e = .returned (.tuple #[.agg #[c0, c1, c2, c3], .int .i64 (s.size - r.length : Nat)]) ∧ TyS w' (w.heap.size ≤ ·) x c0 c1 c2 c3
theorem TyS.leaf {w : World} {S : Nat → Prop} {k z t : Int} (hk : okI k) (hz : okI z) (ht : okI t) : TyS w S (.mk k z [] t) (.int .i64 k) (.int .i64 z) (.slice none 0 0) (.int .i64 t) := ⟨rfl, rfl, rfl, hk, hz, ht, by simp, none, 0, rfl, by simp, by simp, trivial⟩
theorem okI_small {i : Int} (h1 : 0 ≤ i) (h2 : i ≤ 100000000) : okI i := by unfold okI; omega
theorem tItem_nil (f : Nat) : tItem f [] = none := by cases f <;> rfl
theorem new_at (X : World) (t : TypeId) (cs : Array Value) (n : Nat) (h : X.heap.size = n) : Blk (X.alloc (.cells cs t)) n t cs := by subst h; exact Blk.new X t cs
def badTy (v0 v1 : Int) : Value := .tuple #[.agg #[.int .i64 v0, .int .i64 v1, .slice none 0 0, .int .i64 0], .int .i64 (-1)]
end Go.Proofs.YtcppbdbbgakfcaaGreatDoor
