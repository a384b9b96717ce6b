/- The document's read of a value: what it holds, how it ends; too many; a Uint; a Fixed. -/
import Derived.Test.YtcppbdbbgakfcaaGreatDoorKA42
import Derived.Test.YtcppbdbbgakfcaaGreatDoorKA35
import Derived.Test.YtcppbdbbgakfcaaGreatDoorKA6
set_option linter.unusedVariables false
set_option linter.unusedSimpArgs false
namespace Go.Proofs.YtcppbdbbgakfcaaGreatDoor
open Go.RowKit
def RedEnd (w : World) (g : Nat) (s : ByteArray) (R : RdL) (e : Ending) (w' : World) : Prop :=
 ∃ (X : It) (c0 c1 c2 : Value) (k' : Nat) (m' : Int), e = .returned (.tuple #[.agg #[c0, c1, c2], .int .i64 m']) ∧ ItS w' (w.heap.size ≤ ·) X c0 c1 c2 ∧ Rd1 w' g s k' R.e ∧ Only [g] w w' ∧ k' ≤ s.size ∧ (R.e = 0 → X = R.x ∧ R.q = s.data.toList.drop k' ∧ m' = R.n)
structure ReW (w : World) (g : Nat) (s : ByteArray) (k : Nat) (f : Int) (tc : Array Value) (V : World) : Prop where
 ty : Blk V w.heap.size 24 tc
 res : Blk V (w.heap.size + 1) 27 #[.string ⟨#[]⟩, .bool false, .slice none 0 0]
 rd : Rd1 V g s k f
 only : Only [g] w V
 siz : w.heap.size + 2 ≤ V.heap.size
theorem ReW.start {w : World} {g : Nat} {s : ByteArray} {k : Nat} {f : Int} {tc : Array Value} (h : Rd1 w g s k f) : ReW w g s k f tc ((w.alloc (.cells tc 24)).alloc (.cells #[.string ⟨#[]⟩, .bool false, .slice none 0 0] 27)) where
 ty := (Blk.new w _ _).alloc _
 res := Blk.at_ (by simp)
 rd := (Blk.alloc (show Blk w g _ _ from h) _).alloc _
 only := ((Only.refl _ w).alloc _).alloc _
 siz := by simp
theorem ReW.turn {w V V' : World} {g : Nat} {s : ByteArray} {k k' : Nat} {f f' : Int} {tc : Array Value} (h : ReW w g s k f tc V) (ho : Only [g] V V') (hr : Rd1 V' g s k' f') : ReW w g s k' f' tc V' where
 ty := h.ty.only ho (by simp [h.ty.neL h.rd (by decide)])
 res := h.res.only ho (by simp [h.res.neL h.rd (by decide)])
 rd := hr
 only := h.only.trans ho
 siz := Nat.le_trans h.siz ho.size
theorem ReW.below {w V V' : World} {g : Nat} {s : ByteArray} {k : Nat} {f : Int} {tc : Array Value} (h : ReW w g s k f tc V) (hb : Below V.heap.size V V') : ReW w g s k f tc V' where
 ty := (hb.block _ h.ty.lt).trans h.ty
 res := (hb.block _ h.res.lt).trans h.res
 rd := (hb.block _ (Blk.lt (show Blk V g _ _ from h.rd))).trans h.rd
 only := h.only.trans ((Only.of_below hb (Nat.le_refl _)).mono (by simp))
 siz := Nat.le_trans h.siz hb.size
theorem ReW.ends {w V : World} {g : Nat} {s : ByteArray} {k : Nat} {f : Int} {tc : Array Value} (h : ReW w g s k f tc V) (u0 u1 u2 : Value) :
 Rd1 (((V.setCell ⟨w.heap.size + 1, 0, none⟩ u0).setCell ⟨w.heap.size + 1, 1, none⟩ u1).setCell ⟨w.heap.size + 1, 2, none⟩ u2) g s k f ∧ Only [g] w (((V.setCell ⟨w.heap.size + 1, 0, none⟩ u0).setCell ⟨w.heap.size + 1, 1, none⟩ u1).setCell ⟨w.heap.size + 1, 2, none⟩ u2) ∧
 (V.setCell ⟨w.heap.size + 1, 0, none⟩ u0).cell? ⟨w.heap.size + 1, 0, none⟩ = some u0 ∧ ((V.setCell ⟨w.heap.size + 1, 0, none⟩ u0).setCell ⟨w.heap.size + 1, 1, none⟩ u1).cell? ⟨w.heap.size + 1, 1, none⟩ = some u1 ∧ (((V.setCell ⟨w.heap.size + 1, 0, none⟩ u0).setCell ⟨w.heap.size + 1, 1, none⟩ u1).setCell ⟨w.heap.size + 1, 2, none⟩ u2).cell? ⟨w.heap.size + 1, 2, none⟩ = some u2 :=
 have n1 : g ≠ w.heap.size + 1 := (h.res.neL h.rd (by decide)).symm
 ⟨((Blk.far (show Blk V g _ _ from h.rd) (p := ⟨w.heap.size + 1, 0, none⟩) n1 _).far (p := ⟨w.heap.size + 1, 1, none⟩) n1 _).far (p := ⟨w.heap.size + 1, 2, none⟩) n1 _, ((h.only.setCell (by simp) _).setCell (by simp) _).setCell (by simp) _, by have := (h.res.set 0 u0).cell 0; simpa using this, by have := ((h.res.set 0 u0).set 1 u1).cell 1; simpa using this, by have := (((h.res.set 0 u0).set 1 u1).set 2 u2).cell 2; simpa using this⟩
end Go.Proofs.YtcppbdbbgakfcaaGreatDoor
