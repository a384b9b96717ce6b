/- slices.Clone at items, item.List, item.Text. -/
import Derived.Test.YtcppbdbbgakfcaaGreatDoorProg
import Derived.Test.YtcppbdbbgakfcaaGreatDoorKA5
import Derived.Test.YtcppbdbbgakfcaaGreatDoorKA10
import Derived.Deep.DeepFit
import Derived.WalkSpells
import Derived.Lib.BufferMore
set_option linter.unusedVariables false
set_option linter.unusedSimpArgs false
set_option maxHeartbeats 400000
namespace Go.Proofs.YtcppbdbbgakfcaaGreatDoor
open Go.RowKit
theorem info_item : (Tryz.prog.info? 27).map (fun i => (i.zero, i.size, i.bytes)) = some (some (.agg #[.string ⟨#[]⟩, .bool false, .slice none 0 0]), 3, 48) := by kernel_rfl
theorem text_c (s : ByteArray) (w : World) :
 Calls Tryz.prog 60 #[.string s] w fun e w' => e = .returned (.agg #[.string s, .bool false, .slice none 0 0]) ∧ Below w.heap.size w w' := by
 go_enter Tryz.func60, Tryz.ntmps60
 go_wp2
 refine bodyPost_ret (v := .agg #[.string s, .bool false, .slice none 0 0]) (by simp [results, Tryz.results60, go_sem]) rfl ⟨rfl, ?_⟩
 exact (by repeat (first | exact Below.refl _ _ | assumption | with_reducible refine Below.drewN' ?_ _ | with_reducible refine Below.drew ?_ | ((with_reducible refine Below.alloc' ?_ ?_ _); · (first | omega | (simp <;> omega)))))
theorem own_ge {w : World} {base cap n : Nat} {A : Option Addr} {cs : List Value} {e : TypeId} {k : Nat} (ho : w.ownsRow base e k (.slice A n cap) n cs) : ∀ g, (Value.slice A n cap).ownBlock = some g → base ≤ g := by
 intro g hg
 rcases ho.2 with ⟨h1, h2⟩ | ⟨g', cap', cur, hv, hb, _⟩
 ·rw [h1] at hg; cases hg
 ·rw [hv] at hg
  have : g' = g := by simpa [Value.ownBlock] using hg
  omega
end Go.Proofs.YtcppbdbbgakfcaaGreatDoor
