/- A message that came in as an argument lies in memory as one. -/
import Derived.Test.YtcidcjghglgkhaaItemOpen
namespace Go.Proofs.Ytcidcjghglgkhaa
set_option linter.unusedVariables false
set_option linter.unusedSimpArgs false
open Go.ChangeShapes Go.WideShapes Go.ChangeAt Go.RowKit

theorem cellsOf_msg : Try.prog.cellsOf 65 = 4 := by kernel_rfl
set_option maxRecDepth 100000 in
theorem open_msg {H : Type} {enc : TypeId × Value → H} {w : World} {base : Nat} {spare : Nat → Bool} {held : Bool} (fuel : Nat) (cs : List Value) (x : DataW H × List MemPlace) (h : DataW.trod enc Try.prog w base spare held fuel 65 cs = some x) :
    ∃ (n : ByteArray) (y : It) (c0 c1 c2 : Value), cs = [.string n, c0, c1, c2] ∧ n.size ≤ maxLen ∧ ItIn w w.heap.size y c0 c1 c2 := by
  obtain ⟨xs, n, rfl, _, hl, hxl, hf⟩ := DataW.trod_struct Try.underlying65 h
  rw [cellsOf_msg] at hl
  match cs, hl with
  | [c, c0, c1, c2], _ =>
    have h0 : DataW.trod enc Try.prog w base spare held n 9 ((([c, c0, c1, c2] : List Value).drop 0).take (Try.prog.cellsOf 9)) = xs[0]? := hf 0 _ rfl
    have h1 : DataW.trod enc Try.prog w base spare held n 24 ((([c, c0, c1, c2] : List Value).drop 1).take (Try.prog.cellsOf 24)) = xs[1]? := hf 1 _ rfl
    have hx2 : xs.length = 2 := hxl
    rw [List.getElem?_eq_getElem (by omega)] at h0 h1
    rw [cellsOf_str] at h0
    rw [cellsOf_item] at h1
    simp only [List.drop_zero, List.take_succ_cons, List.take_zero, List.drop_succ_cons] at h0 h1
    obtain ⟨t, e0, _, ht⟩ := DataW.trod_string Try.underlying9 h0
    simp at e0
    subst e0
    obtain ⟨y, d0, d1, d2, e, hin⟩ := open_item _ _ _ h1
    simp at e
    obtain ⟨rfl, rfl, rfl⟩ := e
    exact ⟨t, y, _, _, _, rfl, ht, hin⟩
set_option maxRecDepth 100000 in
theorem open_msg' {H : Type} {enc : TypeId × Value → H} {w : World} {base b0 : Nat} {r : Reach} {spare : Nat → Bool} {held : Bool} {v : Value} {d : DataW H} {ps : List MemPlace} (hval : Value.okWide Try.prog w r b0 65 v) (hd : DataW.Trod enc Try.prog w base spare held 65 v d ps) :
    ∃ (n : ByteArray) (y : It) (c0 c1 c2 : Value), v = .agg #[.string n, c0, c1, c2] ∧ n.size ≤ maxLen ∧ ItIn w w.heap.size y c0 c1 c2 := by
  obtain ⟨cs, rfl, _⟩ := okWide_struct Try.underlying65 hval
  obtain ⟨fuel, hf⟩ := hd
  obtain ⟨n, y, c0, c1, c2, hc, hn, hin⟩ := open_msg fuel _ _ hf
  refine ⟨n, y, c0, c1, c2, ?_, hn, hin⟩
  have hc : cs.toList = [.string n, c0, c1, c2] := hc
  have : cs = #[.string n, c0, c1, c2] := by cases cs; simp at hc; simp [hc]
  rw [this]
end Go.Proofs.Ytcidcjghglgkhaa
