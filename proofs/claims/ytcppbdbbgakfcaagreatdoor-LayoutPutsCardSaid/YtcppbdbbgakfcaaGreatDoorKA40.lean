/- What stands behind the two boxes of the layouts' laws. -/
import Derived.Test.YtcppbdbbgakfcaaGreatDoorKA21
import Derived.Test.YtcppbdbbgakfcaaGreatDoorKA14
import Derived.Test.YtcppbdbbgakfcaaGreatDoorKA9
set_option linter.unusedVariables false
set_option linter.unusedSimpArgs false
namespace Go.Proofs.YtcppbdbbgakfcaaGreatDoor
open Go.RowKit
structure LyU (w W0 V : World) (ty : Ty) (x : It) (t0 t1 t2 t3 c0 c1 c2 : Value) : Prop where
 ty : TyIn V w.heap.size ty t0 t1 t2 t3
 it : ItIn V w.heap.size x c0 c1 c2
 laid : Laid V
 laidC : LaidC V
 siz : w.heap.size + 2 ≤ V.heap.size
 bel : Below w.heap.size w V
 b4 : Blk V w.heap.size 24 #[t0, t1, t2, t3]
 b5 : Blk V (w.heap.size + 1) 27 #[c0, c1, c2]
theorem LyU.mk' {w W0 V : World} {ty : Ty} {x : It} {t0 t1 t2 t3 c0 c1 c2 : Value} (hW : (w.alloc (.cells #[t0, t1, t2, t3] 24)).alloc (.cells #[c0, c1, c2] 27) = W0) (hT : TyIn w w.heap.size ty t0 t1 t2 t3) (hI : ItIn w w.heap.size x c0 c1 c2) (hL : Laid w) (hLC : LaidC w) (hV : Below (w.heap.size + 2) W0 V) : LyU w W0 V ty x t0 t1 t2 t3 c0 c1 c2 := by
 obtain ⟨hz, hb, h4, h5⟩ := box2 hW
 have hp := hL.pos
 have hpc := hLC.pos
 exact ⟨(hT.below hb).below (hV.mono (by omega)), (hI.below hb).below (hV.mono (by omega)), (hL.below hb hp).below hV (by omega), (hLC.below hb hpc).below hV (by omega), by have := hV.size; omega, hb.trans (hV.mono (by omega)), h4.keep hV (by omega), h5.keep hV (by omega)⟩
end Go.Proofs.YtcppbdbbgakfcaaGreatDoor
