/- An item that came in as an argument lies in memory as an item. -/
import Derived.Test.YtcppbdbbgakfcaaGreatDoorProg
import Derived.Test.YtcppbdbbgakfcaaGreatDoorKA5
import Derived.ProofKit
import Derived.OpenShut
import Derived.ShutString
set_option linter.unusedVariables false
set_option linter.unusedSimpArgs false
set_option maxRecDepth 100000
namespace Go.Proofs.YtcppbdbbgakfcaaGreatDoor
open Go.ChangeShapes Go.WideShapes Go.ChangeAt Go.RowKit
theorem exists_list {α : Type} (Q : Nat → α → Prop) : ∀ n, (∀ i, i < n → ∃ y, Q i y) → ∃ l : List α, l.length = n ∧ ∀ i (h : i < l.length), Q i l[i]
 | 0, _ => ⟨[], rfl, by simp⟩
 | n + 1, h => by
  obtain ⟨l, h1, h2⟩ := exists_list Q n fun i hi => h i (by omega)
  obtain ⟨y, hy⟩ := h n (by omega)
  refine ⟨l ++ [y], by simp [h1], fun i hi => ?_⟩
  by_cases hc : i < l.length
  ·rw [List.getElem_append_left hc]; exact h2 i hc
  ·have : i = n := by simp at hi; omega
   subst this
   rw [List.getElem_append_right (by omega)]
   simpa [h1] using hy
theorem cells3 {w : World} {base : Nat} {a : Addr} {cs : List Value} (h : w.cells? base a 3 = some cs) : ∃ c0 c1 c2, cs = [c0, c1, c2] ∧ w.cell? a = some c0 ∧ w.cell? (a.add 1) = some c1 ∧ w.cell? (a.add 2) = some c2 := by
 unfold World.cells? at h
 split at h
 ·have e : List.range 3 = [0, 1, 2] := rfl
  rw [e] at h
  simp only [List.mapM_cons, List.mapM_nil, Option.bind_eq_bind, Option.pure_def, Option.bind_eq_some_iff] at h
  obtain ⟨c0, h0, r, ⟨c1, h1, r2, ⟨c2, h2, r3, h3, h4⟩, h5⟩, h6⟩ := h
  simp at h3 h4 h5 h6
  subst h3; subst h4; subst h5; subst h6
  exact ⟨c0, c1, c2, rfl, by simpa [Addr.add] using h0, h1, h2⟩
 ·cases h
theorem spot_none {w : World} {a : Addr} {v : Value} (h : w.cell? a = some v) : a.spot = none := by
 unfold World.cell? at h
 split at h
 ·split at h
  ·cases h
  ·rename_i hs; simpa using hs
 ·cases h
theorem cellsOf_item : Tryz.prog.cellsOf 27 = 3 := by kernel_rfl
theorem cellsOf_str : Tryz.prog.cellsOf 9 = 1 := by kernel_rfl
theorem cellsOf_bool : Tryz.prog.cellsOf 4 = 1 := by kernel_rfl
theorem cellsOf_items : Tryz.prog.cellsOf 25 = 1 := by kernel_rfl
theorem open_item {H : Type} {enc : TypeId × Value → H} {w : World} {base : Nat} {spare : Nat → Bool} {held : Bool} : ∀ (fuel : Nat) (cs : List Value) (x : DataW H × List MemPlace), DataW.trod enc Tryz.prog w base spare held fuel 27 cs = some x →
 ∃ (y : It) (c0 c1 c2 : Value), cs = [c0, c1, c2] ∧ ItIn w w.heap.size y c0 c1 c2 := by
 intro fuel
 induction fuel using Nat.strongRecOn with
 | ind fuel ih =>
  intro cs x h
  obtain ⟨xs, n, rfl, _, hl, hxl, hf⟩ := DataW.trod_struct Tryz.underlying27 h
  rw [cellsOf_item] at hl
  match cs, hl with
  | [c0, c1, c2], _ =>
   have h0 : DataW.trod enc Tryz.prog w base spare held n 9 ((([c0, c1, c2] : List Value).drop 0).take (Tryz.prog.cellsOf 9)) = xs[0]? := hf 0 _ rfl
   have h1 : DataW.trod enc Tryz.prog w base spare held n 4 ((([c0, c1, c2] : List Value).drop 1).take (Tryz.prog.cellsOf 4)) = xs[1]? := hf 1 _ rfl
   have h2 : DataW.trod enc Tryz.prog w base spare held n 25 ((([c0, c1, c2] : List Value).drop 2).take (Tryz.prog.cellsOf 25)) = xs[2]? := hf 2 _ rfl
   have hx3 : xs.length = 3 := hxl
   rw [List.getElem?_eq_getElem (by omega)] at h0 h1 h2
   rw [cellsOf_str] at h0
   rw [cellsOf_bool] at h1
   rw [cellsOf_items] at h2
   simp only [List.drop_zero, List.take_succ_cons, List.take_zero, List.drop_succ_cons] at h0 h1 h2
   obtain ⟨t, e0, _, ht⟩ := DataW.trod_string Tryz.underlying9 h0
   obtain ⟨l, e1, _⟩ := DataW.trod_bool Tryz.underlying4 h1
   simp at e0 e1
   subst e0; subst e1
   rcases DataW.trod_slice Tryz.underlying25 h2 with ⟨e2, _⟩ | ⟨a, len, cap, elems, rest, m, rfl, e2, _, hb, hlc, hcm, hel, hat, _, _⟩
   ·simp at e2
    subst e2
    exact ⟨.mk t l [], _, _, _, rfl, rfl, rfl, by simpa [maxLen] using ht, by simp, none, 0, rfl, by simp, by simp, trivial⟩
   ·simp at e2
    subst e2
    have key : ∀ i, i < len → ∃ y : It, ∃ d0 d1 d2, a.spot = none ∧ w.cell? ⟨a.block, a.off + i * 3, none⟩ = some d0 ∧ w.cell? ⟨a.block, a.off + i * 3 + 1, none⟩ = some d1 ∧ w.cell? ⟨a.block, a.off + i * 3 + 2, none⟩ = some d2 ∧ ItIn w w.heap.size y d0 d1 d2 := by
     have first : ∀ i, i < len → ∃ cs', w.cells? base (a.add (i * 3)) 3 = some cs' ∧ ∃ z, DataW.trod enc Tryz.prog w base spare held m 27 cs' = some z := by
      intro i hi
      have h3 := hat i hi
      rw [cellsOf_item, List.getElem?_eq_getElem (by omega)] at h3
      rw [Option.bind_eq_some_iff] at h3
      obtain ⟨cs', h4, h5⟩ := h3
      exact ⟨cs', h4, _, h5⟩
     have hsp : 0 < len → a.spot = none := by
      intro h0
      obtain ⟨cs', h4, _⟩ := first 0 h0
      obtain ⟨d0, _, _, _, h5, _⟩ := cells3 h4
      have h5 : w.cell? a = some d0 := by simpa [Addr.add] using h5
      exact spot_none h5
     intro i hi
     obtain ⟨cs', h4, z, h5⟩ := first i hi
     obtain ⟨d0, d1, d2, rfl, g0, g1, g2⟩ := cells3 h4
     obtain ⟨y, k0, k1, k2, hk, hin⟩ := ih m (by omega) _ _ h5
     simp at hk
     obtain ⟨rfl, rfl, rfl⟩ := hk
     have hs := hsp (by omega)
     have e1 : ∀ j, (a.add (i * 3)).add j = ⟨a.block, a.off + i * 3 + j, none⟩ := by
      intro j
      obtain ⟨ab, ao, asp⟩ := a
      simp only at hs
      subst hs
      unfold Addr.add
      split <;> split <;> simp_all
     have e0 := e1 0
     rw [show (a.add (i * 3)).add 0 = a.add (i * 3) from by simp [Addr.add]] at e0
     rw [e0] at g0
     rw [e1] at g1 g2
     exact ⟨y, d0, d1, d2, hs, g0, g1, g2, hin⟩
    obtain ⟨s, hs1, hs2⟩ := exists_list _ len key
    subst hs1
    refine ⟨.mk t l s, _, _, _, rfl, rfl, rfl, by simpa [maxLen] using ht, ?_, some a, cap, rfl, hlc, by simpa [maxLen] using hcm, ItsIn.mk_ fun j hj => ?_⟩
    ·have : cap ≤ 9223372036854775807 := by simpa [maxLen] using hcm
     omega
    ·obtain ⟨d0, d1, d2, hsp, g0, g1, g2, hin⟩ := hs2 j hj
     refine ⟨a.block, a.off, d0, d1, d2, ?_, lt_of_cell g0, by simpa using g0, by simpa using g1, by simpa using g2, hin⟩
     obtain ⟨ab, ao, asp⟩ := a
     simp only at hsp
     subst hsp
     rfl
theorem open_item' {H : Type} {enc : TypeId × Value → H} {w : World} {base b0 : Nat} {r : Reach} {spare : Nat → Bool} {held : Bool} {v : Value} {d : DataW H} {ps : List MemPlace} (hval : Value.okWide Tryz.prog w r b0 27 v) (hd : DataW.Trod enc Tryz.prog w base spare held 27 v d ps) :
 ∃ (y : It) (c0 c1 c2 : Value), v = .agg #[c0, c1, c2] ∧ ItIn w w.heap.size y c0 c1 c2 := by
 obtain ⟨cs, rfl, _⟩ := okWide_struct Tryz.underlying27 hval
 obtain ⟨fuel, hf⟩ := hd
 obtain ⟨y, c0, c1, c2, hc, hin⟩ := open_item fuel _ _ hf
 refine ⟨y, c0, c1, c2, ?_, hin⟩
 have hc : cs.toList = [c0, c1, c2] := hc
 have : cs = #[c0, c1, c2] := by cases cs; simp at hc; simp [hc]
 rw [this]
theorem cells4 {w : World} {base : Nat} {a : Addr} {cs : List Value} (h : w.cells? base a 4 = some cs) : ∃ c0 c1 c2 c3, cs = [c0, c1, c2, c3] ∧ w.cell? a = some c0 ∧ w.cell? (a.add 1) = some c1 ∧ w.cell? (a.add 2) = some c2 ∧ w.cell? (a.add 3) = some c3 := by
 unfold World.cells? at h
 split at h
 ·have e : List.range 4 = [0, 1, 2, 3] := rfl
  rw [e] at h
  simp only [List.mapM_cons, List.mapM_nil, Option.bind_eq_bind, Option.pure_def, Option.bind_eq_some_iff] at h
  obtain ⟨c0, h0, r, ⟨c1, h1, r2, ⟨c2, h2, r3, ⟨c3, h3, r4, h4, h5⟩, h6⟩, h7⟩, h8⟩ := h
  simp at h4 h5 h6 h7 h8
  subst h4; subst h5; subst h6; subst h7; subst h8
  exact ⟨c0, c1, c2, c3, rfl, by simpa [Addr.add] using h0, h1, h2, h3⟩
 ·cases h
theorem cellsOf_type : Tryz.prog.cellsOf 24 = 4 := by kernel_rfl
theorem cellsOf_int : Tryz.prog.cellsOf 3 = 1 := by kernel_rfl
theorem cellsOf_types : Tryz.prog.cellsOf 22 = 1 := by kernel_rfl
theorem okI_of {i : Int} (h : (Lit.int .i64 i).wf = true) : okI i := by
 unfold okI
 simp [Lit.wf, IntKind.min, IntKind.max, IntKind.signed, IntKind.bits] at h
 omega
theorem open_type {H : Type} {enc : TypeId × Value → H} {w : World} {base : Nat} {spare : Nat → Bool} {held : Bool} : ∀ (fuel : Nat) (cs : List Value) (x : DataW H × List MemPlace), DataW.trod enc Tryz.prog w base spare held fuel 24 cs = some x →
 ∃ (y : Ty) (c0 c1 c2 c3 : Value), cs = [c0, c1, c2, c3] ∧ TyIn w w.heap.size y c0 c1 c2 c3 := by
 intro fuel
 induction fuel using Nat.strongRecOn with
 | ind fuel ih =>
  intro cs x h
  obtain ⟨xs, n, rfl, _, hl, hxl, hf⟩ := DataW.trod_struct Tryz.underlying24 h
  rw [cellsOf_type] at hl
  match cs, hl with
  | [c0, c1, c2, c3], _ =>
   have h0 : DataW.trod enc Tryz.prog w base spare held n 3 ((([c0, c1, c2, c3] : List Value).drop 0).take (Tryz.prog.cellsOf 3)) = xs[0]? := hf 0 _ rfl
   have h1 : DataW.trod enc Tryz.prog w base spare held n 3 ((([c0, c1, c2, c3] : List Value).drop 1).take (Tryz.prog.cellsOf 3)) = xs[1]? := hf 1 _ rfl
   have h2 : DataW.trod enc Tryz.prog w base spare held n 22 ((([c0, c1, c2, c3] : List Value).drop 2).take (Tryz.prog.cellsOf 22)) = xs[2]? := hf 2 _ rfl
   have h3 : DataW.trod enc Tryz.prog w base spare held n 3 ((([c0, c1, c2, c3] : List Value).drop 3).take (Tryz.prog.cellsOf 3)) = xs[3]? := hf 3 _ rfl
   have hx4 : xs.length = 4 := hxl
   rw [List.getElem?_eq_getElem (by omega)] at h0 h1 h2 h3
   rw [cellsOf_int] at h0 h1 h3
   rw [cellsOf_types] at h2
   simp only [List.drop_zero, List.take_succ_cons, List.take_zero, List.drop_succ_cons] at h0 h1 h2 h3
   obtain ⟨k, e0, _, hk⟩ := DataW.trod_int Tryz.underlying3 h0
   obtain ⟨s, e1, _, hs⟩ := DataW.trod_int Tryz.underlying3 h1
   obtain ⟨t, e3, _, ht⟩ := DataW.trod_int Tryz.underlying3 h3
   simp at e0 e1 e3
   subst e0; subst e1; subst e3
   rcases DataW.trod_slice Tryz.underlying22 h2 with ⟨e2, _⟩ | ⟨a, len, cap, elems, rest, m, rfl, e2, _, hb, hlc, hcm, hel, hat, _, _⟩
   ·simp at e2
    subst e2
    exact ⟨.mk k s [] t, _, _, _, _, rfl, rfl, rfl, rfl, okI_of hk, okI_of hs, okI_of ht, by simp, none, 0, rfl, by simp, by simp, trivial⟩
   ·simp at e2
    subst e2
    have key : ∀ i, i < len → ∃ y : Ty, ∃ d0 d1 d2 d3, a.spot = none ∧ w.cell? ⟨a.block, a.off + i * 4, none⟩ = some d0 ∧ w.cell? ⟨a.block, a.off + i * 4 + 1, none⟩ = some d1 ∧ w.cell? ⟨a.block, a.off + i * 4 + 2, none⟩ = some d2 ∧ w.cell? ⟨a.block, a.off + i * 4 + 3, none⟩ = some d3 ∧ TyIn w w.heap.size y d0 d1 d2 d3 := by
     have first : ∀ i, i < len → ∃ cs', w.cells? base (a.add (i * 4)) 4 = some cs' ∧ ∃ z, DataW.trod enc Tryz.prog w base spare held m 24 cs' = some z := by
      intro i hi
      have h3 := hat i hi
      rw [cellsOf_type, List.getElem?_eq_getElem (by omega)] at h3
      rw [Option.bind_eq_some_iff] at h3
      obtain ⟨cs', h4, h5⟩ := h3
      exact ⟨cs', h4, _, h5⟩
     have hsp : 0 < len → a.spot = none := by
      intro h0
      obtain ⟨cs', h4, _⟩ := first 0 h0
      obtain ⟨d0, _, _, _, _, h5, _⟩ := cells4 h4
      have h5 : w.cell? a = some d0 := by simpa [Addr.add] using h5
      exact spot_none h5
     intro i hi
     obtain ⟨cs', h4, z, h5⟩ := first i hi
     obtain ⟨d0, d1, d2, d3, rfl, g0, g1, g2, g3⟩ := cells4 h4
     obtain ⟨y, k0, k1, k2, k3, hk, hin⟩ := ih m (by omega) _ _ h5
     simp at hk
     obtain ⟨rfl, rfl, rfl, rfl⟩ := hk
     have hs := hsp (by omega)
     have e1 : ∀ j, (a.add (i * 4)).add j = ⟨a.block, a.off + i * 4 + j, none⟩ := by
      intro j
      obtain ⟨ab, ao, asp⟩ := a
      simp only at hs
      subst hs
      unfold Addr.add
      split <;> split <;> simp_all
     have e0 := e1 0
     rw [show (a.add (i * 4)).add 0 = a.add (i * 4) from by simp [Addr.add]] at e0
     rw [e0] at g0
     rw [e1] at g1 g2 g3
     exact ⟨y, d0, d1, d2, d3, hs, g0, g1, g2, g3, hin⟩
    obtain ⟨l, hs1, hs2⟩ := exists_list _ len key
    subst hs1
    refine ⟨.mk k s l t, _, _, _, _, rfl, rfl, rfl, rfl, okI_of hk, okI_of hs, okI_of ht, ?_, some a, cap, rfl, hlc, by simpa [maxLen] using hcm, TysIn.mk_ fun j hj => ?_⟩
    ·have : cap ≤ 9223372036854775807 := by simpa [maxLen] using hcm
     omega
    ·obtain ⟨d0, d1, d2, d3, hsp, g0, g1, g2, g3, hin⟩ := hs2 j hj
     refine ⟨a.block, a.off, d0, d1, d2, d3, ?_, lt_of_cell g0, by simpa using g0, by simpa using g1, by simpa using g2, by simpa using g3, hin⟩
     obtain ⟨ab, ao, asp⟩ := a
     simp only at hsp
     subst hsp
     rfl
theorem open_type' {H : Type} {enc : TypeId × Value → H} {w : World} {base b0 : Nat} {r : Reach} {spare : Nat → Bool} {held : Bool} {v : Value} {d : DataW H} {ps : List MemPlace} (hval : Value.okWide Tryz.prog w r b0 24 v) (hd : DataW.Trod enc Tryz.prog w base spare held 24 v d ps) :
 ∃ (y : Ty) (c0 c1 c2 c3 : Value), v = .agg #[c0, c1, c2, c3] ∧ TyIn w w.heap.size y c0 c1 c2 c3 := by
 obtain ⟨cs, rfl, _⟩ := okWide_struct Tryz.underlying24 hval
 obtain ⟨fuel, hf⟩ := hd
 obtain ⟨y, c0, c1, c2, c3, hc, hin⟩ := open_type fuel _ _ hf
 refine ⟨y, c0, c1, c2, c3, ?_, hin⟩
 have hc : cs.toList = [c0, c1, c2, c3] := hc
 have : cs = #[c0, c1, c2, c3] := by cases cs; simp at hc; simp [hc]
 rw [this]
end Go.Proofs.YtcppbdbbgakfcaaGreatDoor
