/- layout.lay: a value's layout is written. -/
import Derived.Test.YtcppbdbbgakfcaaGreatDoorKA9
import Derived.Test.YtcppbdbbgakfcaaGreatDoorKA11
import Derived.Test.YtcppbdbbgakfcaaGreatDoorKA17
import Derived.Test.YtcppbdbbgakfcaaGreatDoorKA15
import Derived.Test.YtcppbdbbgakfcaaGreatDoorKA5
set_option linter.unusedVariables false
set_option linter.unusedSimpArgs false
namespace Go.Proofs.YtcppbdbbgakfcaaGreatDoor
open Go.RowKit
theorem Bld.keepL {w w' : World} {base b : Nat} {l : List UInt8} (h : Bld w base b l) (hb : Below w.heap.size w w') : Bld w' base b l := by
 obtain ⟨h1, p, v, h2, h3, h4, h5⟩ := h
 exact ⟨h1, p, v, (hb.block b h2.lt).trans h2, h3, h4.below hb, h5⟩
theorem KeptB.moreL {E : TypeId} {base b : Nat} {w0 w w' : World} (h : KeptB E base b w0 w) (hb : Below w.heap.size w w') (hB : base ≤ w.heap.size) : KeptB E base b w0 w' :=
 h.trans ⟨hb.os, hb.tape, hb.output, hb.size, fun k hk _ => hb.block k (by omega), fun k o hk _ _ => (hb.block k (Array.getElem?_eq_some_iff.1 hk).1).trans hk⟩
structure LyW (w : World) (base b : Nat) (lb : List UInt8) (k1 k2 : Array Value) (g : Nat) (wr : World) (l : List UInt8) : Prop where
 ty : Blk wr g 24 k1
 it : Blk wr (g + 1) 27 k2
 bld : Bld wr base b (lb ++ l)
 kept : KeptB 5 base b w wr
 siz : g + 1 < wr.heap.size
theorem LyW.start {w : World} {base b : Nat} {lb : List UInt8} {k1 k2 : Array Value} (h : Bld w base b lb) (hbs : base ≤ w.heap.size) : LyW w base b lb k1 k2 w.heap.size ((w.alloc (.cells k1 24)).alloc (.cells k2 27)) [] where
 ty := (Blk.new w _ _).alloc _
 it := by have := Blk.new (w.alloc (.cells k1 24)) 27 k2; simpa using this
 bld := by
  have hb : Below w.heap.size w ((w.alloc (.cells k1 24)).alloc (.cells k2 27)) := ((Below.refl _ w).alloc (Nat.le_refl _) _).alloc (by simp) _
  rw [List.append_nil]; exact h.keepL hb
 kept := by
  have hb : Below w.heap.size w ((w.alloc (.cells k1 24)).alloc (.cells k2 27)) := ((Below.refl _ w).alloc (Nat.le_refl _) _).alloc (by simp) _
  exact (KeptB.refl _ _ _ _).moreL hb hbs
 siz := by simp
theorem LyW.more {w wr w' : World} {base b g : Nat} {lb l : List UInt8} {k1 k2 : Array Value} (h : LyW w base b lb k1 k2 g wr l) (hb : Below wr.heap.size wr w') (hbs : base ≤ w.heap.size) : LyW w base b lb k1 k2 g w' l where
 ty := (hb.block _ h.ty.lt).trans h.ty
 it := (hb.block _ h.it.lt).trans h.it
 bld := h.bld.keepL hb
 kept := h.kept.moreL hb (by have := h.kept.size; omega)
 siz := by have := hb.size; have := h.siz; omega
theorem LyW.put {w wr w' : World} {base b g : Nat} {lb l m : List UInt8} {k1 k2 : Array Value} (h : LyW w base b lb k1 k2 g wr l) (hb : Bld w' base b ((lb ++ l) ++ m)) (hk : KeptB 5 base b wr w') (hg : b < g) : LyW w base b lb k1 k2 g w' (l ++ m) where
 ty := hk.blk h.ty (by omega) (by decide)
 it := hk.blk h.it (by omega) (by decide)
 bld := by rw [← List.append_assoc]; exact hb
 kept := h.kept.trans hk
 siz := by have := hk.size; have := h.siz; omega
theorem LaidC.keptB {w w' : World} {E : TypeId} {base b : Nat} (h : LaidC w) (hk : KeptB E base b w w') (h1 : 0 < base) (h2 : 0 < b) : LaidC w' := h.same (hk.block _ h1 (by omega))
end Go.Proofs.YtcppbdbbgakfcaaGreatDoor
