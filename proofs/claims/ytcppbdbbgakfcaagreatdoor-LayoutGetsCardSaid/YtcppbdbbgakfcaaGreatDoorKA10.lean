/- Appending to a Buf inside a region that draws its order; small words for literals. Own text; no program in sight. -/
import Derived.Test.YtcppbdbbgakfcaaGreatDoorKA4
import Derived.Deep.RegionLaw
set_option linter.unusedVariables false
set_option linter.unusedSimpArgs false
namespace Go.Proofs.YtcppbdbbgakfcaaGreatDoor
open Go.RowKit
theorem Blk.kept {E : TypeId} {base g : Nat} {w w' : World} {t : TypeId} {cs : Array Value} (h : Blk w g t cs) (hk : Kept E base w w') (hne : t ≠ E) : Blk w' g t cs := hk.other g _ h (by
 intro c f e; injection e with _ e2; exact hne e2)
theorem Blk.keep {w w' : World} {g B : Nat} {t : TypeId} {cs : Array Value} (h : Blk w g t cs) (hb : Below B w w') (hg : g < B) : Blk w' g t cs := (hb.block g hg).trans h
theorem blk3 {w : World} {g : Nat} {t : TypeId} {a b c : Value} (h : Blk w g t #[a, b, c]) : w.cell? ⟨g, 0, none⟩ = some a ∧ w.cell? ⟨g, 1, none⟩ = some b ∧ w.cell? ⟨g, 2, none⟩ = some c ∧ w.frozen? ⟨g, 0, none⟩ = false ∧ w.frozen? ⟨g, 1, none⟩ = false ∧ w.frozen? ⟨g, 2, none⟩ = false :=
 ⟨h.cell 0, h.cell 1, h.cell 2, h.frozen 0, h.frozen 1, h.frozen 2⟩
end Go.Proofs.YtcppbdbbgakfcaaGreatDoor
