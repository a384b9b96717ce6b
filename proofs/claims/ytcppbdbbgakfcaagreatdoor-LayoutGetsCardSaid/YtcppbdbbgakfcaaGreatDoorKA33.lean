/- layout: a value is read: the heads. -/
import Derived.Test.YtcppbdbbgakfcaaGreatDoorKLyRd
import Derived.Test.YtcppbdbbgakfcaaGreatDoorKA5
import Derived.Test.YtcppbdbbgakfcaaGreatDoorKA32
import Derived.Test.YtcppbdbbgakfcaaGreatDoorKA20
import Derived.Test.YtcppbdbbgakfcaaGreatDoorKA7
set_option linter.unusedVariables false
set_option linter.unusedSimpArgs false
namespace Go.Proofs.YtcppbdbbgakfcaaGreatDoor
open Go.RowKit
def ValEnd (w : World) (g gl fb : Nat) (s : ByteArray) (M : Int) (R : RdL) (e : Ending) (w' : World) : Prop :=
 ∃ (X : It) (c0 c1 c2 : Value) (k' : Nat) (m' : Int), e = .returned (.agg #[c0, c1, c2]) ∧ ItS w' (w.heap.size ≤ ·) X c0 c1 c2 ∧ LyR w' g gl fb s k' R.e m' ∧ Only [g, gl] w w' ∧ k' ≤ s.size ∧ (R.e = 0 → X = R.x ∧ R.q = s.data.toList.drop k' ∧ m' = M - R.n)
theorem LyR.set3 {w : World} {g gl fb c : Nat} {s : ByteArray} {k : Nat} {f m : Int} {cs : Array Value} (h : LyR w g gl fb s k f m) (hc : Blk w c 27 cs) (u0 u1 u2 : Value) : LyR (((w.setCell ⟨c, 0, none⟩ u0).setCell ⟨c, 1, none⟩ u1).setCell ⟨c, 2, none⟩ u2) g gl fb s k f m :=
 have n1 := h.rdr.neL hc (by decide)
 have n2 := h.left.neL hc (by decide)
 have n3 := h.box.neL hc (by decide)
 ⟨((Blk.far (show Blk w g _ _ from h.rdr) (p := ⟨c, 0, none⟩) n1 _).far (p := ⟨c, 1, none⟩) n1 _).far (p := ⟨c, 2, none⟩) n1 _, ((h.left.far (p := ⟨c, 0, none⟩) n2 _).far (p := ⟨c, 1, none⟩) n2 _).far (p := ⟨c, 2, none⟩) n2 _, ((h.box.far (p := ⟨c, 0, none⟩) n3 _).far (p := ⟨c, 1, none⟩) n3 _).far (p := ⟨c, 2, none⟩) n3 _⟩
theorem LyR.less {w : World} {g gl fb : Nat} {s : ByteArray} {k : Nat} {f m : Int} (h : LyR w g gl fb s k f m) (u : Int) : LyR (w.setCell ⟨gl, 0, none⟩ (.int .i64 u)) g gl fb s k f u :=
 ⟨Blk.far (show Blk w g _ _ from h.rdr) (p := ⟨gl, 0, none⟩) h.apart.1.symm _, one_setCell h.left, h.box.far (p := ⟨gl, 0, none⟩) h.apart.2.2 _⟩
structure VaW (w : World) (g gl fb : Nat) (s : ByteArray) (k : Nat) (f m : Int) (tc : Array Value) (V : World) : Prop where
 rdg : Blk V w.heap.size 61 (rdgC g gl fb)
 ty : Blk V (w.heap.size + 1) 24 tc
 res : Blk V (w.heap.size + 1 + 1) 27 #[.string ⟨#[]⟩, .bool false, .slice none 0 0]
 st : LyR V g gl fb s k f m
 only : Only [g, gl] w V
 siz : w.heap.size + 3 ≤ V.heap.size
theorem VaW.start {w : World} {g gl fb : Nat} {s : ByteArray} {k : Nat} {f m : Int} {tc : Array Value} (h : LyR w g gl fb s k f m) : VaW w g gl fb s k f m tc (((w.alloc (.cells (rdgC g gl fb) 61)).alloc (.cells tc 24)).alloc (.cells #[.string ⟨#[]⟩, .bool false, .slice none 0 0] 27)) where
 rdg := ((Blk.new w _ _).alloc _).alloc _
 ty := Blk.alloc (Blk.at_ (by simp)) _
 res := Blk.at_ (by simp)
 st := h.below ((((Below.refl _ w).alloc (Nat.le_refl _) _).alloc (by simp) _).alloc (by simp; omega) _)
 only := (((Only.refl _ w).alloc _).alloc _).alloc _
 siz := by simp
theorem VaW.less {w V : World} {g gl fb : Nat} {s : ByteArray} {k : Nat} {f m : Int} {tc : Array Value} (h : VaW w g gl fb s k f m tc V) (u : Int) : VaW w g gl fb s k f u tc (V.setCell ⟨gl, 0, none⟩ (.int .i64 u)) where
 rdg := h.rdg.far (p := ⟨gl, 0, none⟩) (h.rdg.neL h.st.left (by decide)) _
 ty := h.ty.far (p := ⟨gl, 0, none⟩) (h.ty.neL h.st.left (by decide)) _
 res := h.res.far (p := ⟨gl, 0, none⟩) (h.res.neL h.st.left (by decide)) _
 st := h.st.less u
 only := h.only.setCell (by simp) _
 siz := by have := h.siz; simpa [World.setCell] using this
theorem VaW.turn {w V V' : World} {g gl fb : Nat} {s : ByteArray} {k k' : Nat} {f f' m : Int} {tc : Array Value} (h : VaW w g gl fb s k f m tc V) (ho : Only [g] V V') (hr : Rdr V' g s k' f') : VaW w g gl fb s k' f' m tc V' where
 rdg := h.rdg.only ho (by simp [h.rdg.neL h.st.rdr (by decide)])
 ty := h.ty.only ho (by simp [h.ty.neL h.st.rdr (by decide)])
 res := h.res.only ho (by simp [h.res.neL h.st.rdr (by decide)])
 st := h.st.turn ho hr
 only := h.only.trans (ho.mono (by simp))
 siz := Nat.le_trans h.siz ho.size
theorem VaW.below {w V V' : World} {g gl fb : Nat} {s : ByteArray} {k : Nat} {f m : Int} {tc : Array Value} (h : VaW w g gl fb s k f m tc V) (hb : Below V.heap.size V V') : VaW w g gl fb s k f m tc V' where
 rdg := (hb.block _ h.rdg.lt).trans h.rdg
 ty := (hb.block _ h.ty.lt).trans h.ty
 res := (hb.block _ h.res.lt).trans h.res
 st := h.st.below hb
 only := h.only.trans ((Only.of_below hb (Nat.le_refl _)).mono (by simp))
 siz := Nat.le_trans h.siz hb.size
theorem VaW.ends {w V : World} {g gl fb : Nat} {s : ByteArray} {k : Nat} {f m : Int} {tc : Array Value} (h : VaW w g gl fb s k f m tc V) (u0 u1 u2 : Value) :
 LyR (((V.setCell ⟨w.heap.size + 1 + 1, 0, none⟩ u0).setCell ⟨w.heap.size + 1 + 1, 1, none⟩ u1).setCell ⟨w.heap.size + 1 + 1, 2, none⟩ u2) g gl fb s k f m ∧ Only [g, gl] w (((V.setCell ⟨w.heap.size + 1 + 1, 0, none⟩ u0).setCell ⟨w.heap.size + 1 + 1, 1, none⟩ u1).setCell ⟨w.heap.size + 1 + 1, 2, none⟩ u2) ∧
 (V.setCell ⟨w.heap.size + 1 + 1, 0, none⟩ u0).cell? ⟨w.heap.size + 1 + 1, 0, none⟩ = some u0 ∧ ((V.setCell ⟨w.heap.size + 1 + 1, 0, none⟩ u0).setCell ⟨w.heap.size + 1 + 1, 1, none⟩ u1).cell? ⟨w.heap.size + 1 + 1, 1, none⟩ = some u1 ∧ (((V.setCell ⟨w.heap.size + 1 + 1, 0, none⟩ u0).setCell ⟨w.heap.size + 1 + 1, 1, none⟩ u1).setCell ⟨w.heap.size + 1 + 1, 2, none⟩ u2).cell? ⟨w.heap.size + 1 + 1, 2, none⟩ = some u2 :=
 ⟨h.st.set3 h.res u0 u1 u2, ((h.only.setCell (by simp; omega) _).setCell (by simp; omega) _).setCell (by simp; omega) _, by have := (h.res.set 0 u0).cell 0; simpa using this, by have := ((h.res.set 0 u0).set 1 u1).cell 1; simpa using this, by have := (((h.res.set 0 u0).set 1 u1).set 2 u2).cell 2; simpa using this⟩
end Go.Proofs.YtcppbdbbgakfcaaGreatDoor
