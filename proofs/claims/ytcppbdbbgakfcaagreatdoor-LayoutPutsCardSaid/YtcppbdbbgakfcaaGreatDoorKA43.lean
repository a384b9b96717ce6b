/- A drawn region whose operations only read, whose calls may make memory of their own: one walk, the class of worlds being 'what lies below stands'. No program in sight. -/
import Derived.Deep.Quiet
import Derived.Below
import Derived.Test.YtcppbdbbgakfcaaGreatDoorKA28
set_option linter.unusedVariables false
set_option linter.unusedSimpArgs false
namespace Go.Proofs.YtcppbdbbgakfcaaGreatDoor
open Go Go.RowKit
section
variable {P : Program} {ops : Array Oper} {C : World → Prop} {Q : Act → Prop} {o : Oper} {rest : List Oper} {a : Act}
theorem wpQuiet_val (v : Value) (hg : Region.wanted o (yielded ops a.tmps) = true) (h : ∀ w, C w → o.quietAt P a C w v) (hn : wpQuiet P ops C Q rest (a.put o.dst v)) : wpQuiet P ops C Q (o :: rest) a := by
 unfold wpQuiet; rw [if_pos hg]; exact ⟨v, h, hn⟩
theorem wpQuiet_run (v : Value) (hg : Region.wanted o (yielded ops a.tmps) = true) (h : ∀ w, C w → (execOp a.eval o).run P w = .ok (.value v) w) (hn : wpQuiet P ops C Q rest (a.put o.dst v)) : wpQuiet P ops C Q (o :: rest) a :=
 wpQuiet_val v hg (fun w hw => by unfold Oper.quietAt; rw [h w hw]; exact ⟨rfl, rfl⟩) hn
theorem wpQuiet_callB {W : World} (f : FuncId) (args : Array Value) (v : Value) (hg : Region.wanted o (yielded ops a.tmps) = true) (ho : ∀ w, (execOp a.eval o).run P w = .ok (.enter f args) w)
 (hc : ∀ w, Below W.heap.size W w → Calls P f args w fun e w' => e = .returned v ∧ Below w.heap.size w w') (hn : wpQuiet P ops (fun w' => Below W.heap.size W w') Q rest (a.put o.dst v)) : wpQuiet P ops (fun w' => Below W.heap.size W w') Q (o :: rest) a :=
 wpQuiet_val v hg (fun w hw => by
  unfold Oper.quietAt; rw [ho w]
  exact ⟨rfl, (hc w hw).mono fun e w' ⟨he, hb⟩ => ⟨he, hw.trans (hb.mono hw.size)⟩⟩) hn
theorem wp_region_below {id : Nat} {Q : Exit → Act → World → Prop} {a : Act} {w : World} {l : List Oper} (hm : P.follows .mixedOrders = true) (hB : Region.lexB .any l.toArray = true)
 (h : wpQuiet P l.toArray (fun w' => Below w.heap.size w w') (fun a' => ∀ w', Below w.heap.size w w' → Q .normal a' w') l a) : (Code.region id l.toArray true).wp P Q a w :=
 wp_region_quiet (C := fun w' => Below w.heap.size w w') hm hB (Below.refl _ _).drew (by simpa using h)
end
end Go.Proofs.YtcppbdbbgakfcaaGreatDoor
