/- The document's read of a value: what it holds while it reads a list. -/
import Derived.Test.YtcppbdbbgakfcaaGreatDoorKA45
import Derived.Test.YtcppbdbbgakfcaaGreatDoorKA34
set_option linter.unusedVariables false
set_option linter.unusedSimpArgs false
namespace Go.Proofs.YtcppbdbbgakfcaaGreatDoor
open Go.RowKit
theorem RedEnd.same {w : World} {g : Nat} {s : ByteArray} {R R' : RdL} {e : Ending} {w' : World} (h : RedEnd w g s R e w') (he : R'.e = R.e) (hx : R.e = 0 → R = R') : RedEnd w g s R' e w' := by
 obtain ⟨X, c0, c1, c2, k', m', h1, h2, h3, h4, h5, h6⟩ := h
 refine ⟨X, c0, c1, c2, k', m', h1, h2, by rw [he]; exact h3, h4, h5, fun h0 => ?_⟩
 rw [he] at h0
 have := hx h0
 subst this
 exact h6 h0
structure ReL (w : World) (g : Nat) (s : ByteArray) (k : Nat) (f : Int) (tc : Array Value) (acc : List It) (v : Value) (V : World) : Prop where
 ty : Blk V w.heap.size 24 tc
 res : Blk V (w.heap.size + 1) 27 #[.string ⟨#[]⟩, .bool false, .slice none 0 0]
 xb : Blk V (w.heap.size + 1 + 1) 27 #[.string ⟨#[]⟩, .bool true, v]
 its : Acc V (w.heap.size + 3) acc v
 rd : Rd1 V g s k f
 only : Only [g] w V
 siz : w.heap.size + 3 ≤ V.heap.size
 glt : g < w.heap.size
theorem ReL.start {w : World} {g : Nat} {s : ByteArray} {k : Nat} {f : Int} {tc : Array Value} {W : World} (h : ReW w g s k f tc W) (hz : W.heap.size = w.heap.size + 1 + 1) (hg : g < w.heap.size) : ReL w g s k f tc [] (.slice none 0 0) (W.alloc (.cells #[.string ⟨#[]⟩, .bool true, .slice none 0 0] 27)) where
 ty := h.ty.alloc _
 res := h.res.alloc _
 xb := Blk.at_ hz
 its := Acc.nil _ _
 rd := Blk.alloc (show Blk W g _ _ from h.rd) _
 only := h.only.alloc _
 siz := by simp; omega
 glt := hg
theorem ReL.below {w V V' : World} {g : Nat} {s : ByteArray} {k : Nat} {f : Int} {tc : Array Value} {acc : List It} {v : Value} (h : ReL w g s k f tc acc v V) (hb : Below V.heap.size V V') : ReL w g s k f tc acc v V' where
 ty := (hb.block _ h.ty.lt).trans h.ty
 res := (hb.block _ h.res.lt).trans h.res
 xb := (hb.block _ h.xb.lt).trans h.xb
 its := h.its.below hb
 rd := (hb.block _ (Blk.lt (show Blk V g _ _ from h.rd))).trans h.rd
 only := h.only.trans ((Only.of_below hb (Nat.le_refl _)).mono (by simp))
 siz := Nat.le_trans h.siz hb.size
 glt := h.glt
theorem ReL.turn {w V V' : World} {g : Nat} {s : ByteArray} {k k' : Nat} {f f' : Int} {tc : Array Value} {acc : List It} {v : Value} (h : ReL w g s k f tc acc v V) (ho : Only [g] V V') (hr : Rd1 V' g s k' f') : ReL w g s k' f' tc acc v V' where
 ty := h.ty.only ho (by have := h.glt; simp; omega)
 res := h.res.only ho (by have := h.glt; simp; omega)
 xb := h.xb.only ho (by have := h.glt; simp; omega)
 its := h.its.only ho (by have := h.glt; simp; omega)
 rd := hr
 only := h.only.trans ho
 siz := Nat.le_trans h.siz ho.size
 glt := h.glt
theorem ReL.more {w V V' : World} {g : Nat} {s : ByteArray} {k : Nat} {f : Int} {tc : Array Value} {acc acc' : List It} {v v' : Value} (h : ReL w g s k f tc acc v V) (hg : V.grownBy V' v.ownBlock) (ha : Acc V' (w.heap.size + 3) acc' v') : ReL w g s k f tc acc' v' (V'.setCell ⟨w.heap.size + 1 + 1, 2, none⟩ v') where
 ty := (h.ty.grown hg (fun e => by have := (h.its.ge _ e).1; omega)).far (p := ⟨w.heap.size + 1 + 1, 2, none⟩) (by simp; omega) _
 res := (h.res.grown hg (fun e => by have := (h.its.ge _ e).1; omega)).far (p := ⟨w.heap.size + 1 + 1, 2, none⟩) (by simp) _
 xb := (h.xb.grown hg (fun e => by have := (h.its.ge _ e).1; omega)).set 2 v'
 its := ha.only (L := [w.heap.size + 1 + 1]) ((Only.refl _ _).setCell (by simp) _) (by simp)
 rd := Blk.far (show Blk V' g _ _ from Blk.grown h.rd hg (fun e => by have := (h.its.ge _ e).1; have := h.glt; omega)) (p := ⟨w.heap.size + 1 + 1, 2, none⟩) (by have := h.glt; simp; omega) _
 only := (h.only.grown hg (fun j hj => .inr (by have := (h.its.ge _ hj).1; omega))).setCell (by simp; omega) _
 siz := by have := h.siz; have := hg.size; simp [World.setCell]; omega
 glt := h.glt
theorem ReL.cells {w V V' : World} {g : Nat} {s : ByteArray} {k : Nat} {f : Int} {tc : Array Value} {acc : List It} {v : Value} (h : ReL w g s k f tc acc v V) (hg : V.grownBy V' v.ownBlock) : V'.cell? ⟨w.heap.size + 1 + 1, 2, none⟩ = some v ∧ V'.frozen? ⟨w.heap.size + 1 + 1, 2, none⟩ = false :=
 have hx := h.xb.grown hg (fun e => by have := (h.its.ge _ e).1; omega)
 ⟨hx.cell 2, hx.frozen 2⟩
theorem ReL.ends {w V : World} {g : Nat} {s : ByteArray} {k : Nat} {f : Int} {tc : Array Value} {acc : List It} {v : Value} (h : ReL w g s k f tc acc v V) (u0 u1 : Value) :
 Rd1 (((V.setCell ⟨w.heap.size + 1, 0, none⟩ u0).setCell ⟨w.heap.size + 1, 1, none⟩ u1).setCell ⟨w.heap.size + 1, 2, none⟩ v) g s k f ∧ Only [g] w (((V.setCell ⟨w.heap.size + 1, 0, none⟩ u0).setCell ⟨w.heap.size + 1, 1, none⟩ u1).setCell ⟨w.heap.size + 1, 2, none⟩ v) ∧
 (V.setCell ⟨w.heap.size + 1, 0, none⟩ u0).cell? ⟨w.heap.size + 1, 0, none⟩ = some u0 ∧ ((V.setCell ⟨w.heap.size + 1, 0, none⟩ u0).setCell ⟨w.heap.size + 1, 1, none⟩ u1).cell? ⟨w.heap.size + 1, 1, none⟩ = some u1 ∧ (((V.setCell ⟨w.heap.size + 1, 0, none⟩ u0).setCell ⟨w.heap.size + 1, 1, none⟩ u1).setCell ⟨w.heap.size + 1, 2, none⟩ v).cell? ⟨w.heap.size + 1, 2, none⟩ = some v ∧
 Acc (((V.setCell ⟨w.heap.size + 1, 0, none⟩ u0).setCell ⟨w.heap.size + 1, 1, none⟩ u1).setCell ⟨w.heap.size + 1, 2, none⟩ v) (w.heap.size + 3) acc v :=
 have n1 : g ≠ w.heap.size + 1 := by have := h.glt; omega
 ⟨((Blk.far (show Blk V g _ _ from h.rd) (p := ⟨w.heap.size + 1, 0, none⟩) n1 _).far (p := ⟨w.heap.size + 1, 1, none⟩) n1 _).far (p := ⟨w.heap.size + 1, 2, none⟩) n1 _, ((h.only.setCell (by simp) _).setCell (by simp) _).setCell (by simp) _, by have := (h.res.set 0 u0).cell 0; simpa using this, by have := ((h.res.set 0 u0).set 1 u1).cell 1; simpa using this, by have := (((h.res.set 0 u0).set 1 u1).set 2 v).cell 2; simpa using this,
  h.its.only (L := [w.heap.size + 1]) ((((Only.refl _ V).setCell (by simp) _).setCell (by simp) _).setCell (by simp) _) (by simp)⟩
end Go.Proofs.YtcppbdbbgakfcaaGreatDoor
