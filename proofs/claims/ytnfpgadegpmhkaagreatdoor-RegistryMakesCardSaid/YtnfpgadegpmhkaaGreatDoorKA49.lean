/- A slice of entries that came in as an argument. -/
import Derived.Test.YtnfpgadegpmhkaaGreatDoorKA8
import Derived.Test.YtnfpgadegpmhkaaGreatDoorKA44
import Derived.Test.YtnfpgadegpmhkaaGreatDoorKA4
import Derived.Test.YtnfpgadegpmhkaaGreatDoorKA43
import Derived.Test.YtnfpgadegpmhkaaGreatDoorRows
import Derived.Test.YtnfpgadegpmhkaaGreatDoorKA22
import Derived.Test.YtnfpgadegpmhkaaGreatDoorKA13
import Derived.Lib.LaidTab
import Derived.Stop.LaidErr
import Derived.MakeChecks
set_option linter.unusedVariables false
set_option linter.unusedSimpArgs false
set_option maxRecDepth 100000
namespace Go.Proofs.YtnfpgadegpmhkaaGreatDoor
open Go.ChangeShapes Go.WideShapes Go.ChangeAt Go.RowKit
structure EntArg (e : Ent) : Prop where
 id : e.id < 18446744073709551616
 name : e.name.size ≤ 9223372036854775807
 ty : e.ty.size ≤ 9223372036854775807
theorem cellsOf_entry : Tryz.prog.cellsOf 52 = 3 := by kernel_rfl
theorem open_ent {H : Type} {enc : TypeId × Value → H} {w : World} {base : Nat} {spare : Nat → Bool} {held : Bool} (fuel : Nat) (cs : List Value) (x : DataW H × List MemPlace) (h : DataW.trod enc Tryz.prog w base spare held fuel 52 cs = some x) :
 ∃ f : Ent, cs = [.int .u64 f.id, .string f.name, .string f.ty] ∧ EntArg f := by
 obtain ⟨xs, n, rfl, _, hl, hxl, hf⟩ := DataW.trod_struct Tryz.underlying52 h
 rw [cellsOf_entry] at hl
 match cs, hl with
 | [c0, c1, c2], _ =>
  have h0 : DataW.trod enc Tryz.prog w base spare held n 38 ((([c0, c1, c2] : List Value).drop 0).take (Tryz.prog.cellsOf 38)) = xs[0]? := hf 0 _ rfl
  have h1 : DataW.trod enc Tryz.prog w base spare held n 9 ((([c0, c1, c2] : List Value).drop 1).take (Tryz.prog.cellsOf 9)) = xs[1]? := hf 1 _ rfl
  have h2 : DataW.trod enc Tryz.prog w base spare held n 9 ((([c0, c1, c2] : List Value).drop 2).take (Tryz.prog.cellsOf 9)) = xs[2]? := hf 2 _ rfl
  have hx2 : xs.length = 3 := hxl
  rw [List.getElem?_eq_getElem (by omega)] at h0 h1 h2
  rw [cellsOf_cu64] at h0
  rw [cellsOf_cstr] at h1 h2
  simp only [List.drop_zero, List.take_succ_cons, List.take_zero, List.drop_succ_cons] at h0 h1 h2
  obtain ⟨i0, e0, _, g0⟩ := DataW.trod_int Tryz.underlying38 h0
  obtain ⟨t1, e1, _, g1⟩ := DataW.trod_string Tryz.underlying9 h1
  obtain ⟨t2, e2, _, g2⟩ := DataW.trod_string Tryz.underlying9 h2
  simp at e0 e1 e2
  subst e0; subst e1; subst e2
  obtain ⟨k, rfl, hk⟩ := wf_u64 g0
  exact ⟨⟨k, t1, t2⟩, rfl, hk, by simpa [maxLen] using g1, by simpa [maxLen] using g2⟩
theorem open_ents {H : Type} {enc : TypeId × Value → H} {w : World} {base : Nat} {spare : Nat → Bool} {held : Bool} (fuel : Nat) (cs : List Value) (x : DataW H × List MemPlace) (h : DataW.trod enc Tryz.prog w base spare held fuel 25 cs = some x) :
 ∃ (l : List Ent) (v : Value), cs = [v] ∧ EnR w w.heap.size v l ∧ ∀ f ∈ l, EntArg f := by
 rcases DataW.trod_slice Tryz.underlying25 h with ⟨e2, _⟩ | ⟨a, len, cap, elems, rest, m, rfl, e2, _, hb, hlc, hcm, hel, hat, _, _⟩
 ·exact ⟨[], _, e2, EnR.nil _ _, by simp⟩
 ·have key : ∀ i, i < len → ∃ y : Ent, a.spot = none ∧ w.cell? ⟨a.block, a.off + i * 3, none⟩ = some (.int .u64 y.id) ∧ w.cell? ⟨a.block, a.off + i * 3 + 1, none⟩ = some (.string y.name) ∧ w.cell? ⟨a.block, a.off + i * 3 + 2, none⟩ = some (.string y.ty) ∧ EntArg y := by
   have first : ∀ i, i < len → ∃ cs', w.cells? base (a.add (i * 3)) 3 = some cs' ∧ ∃ z, DataW.trod enc Tryz.prog w base spare held m 52 cs' = some z := by
    intro i hi
    have h3 := hat i hi
    rw [cellsOf_entry, List.getElem?_eq_getElem (by omega)] at h3
    rw [Option.bind_eq_some_iff] at h3
    obtain ⟨cs', h4, h5⟩ := h3
    exact ⟨cs', h4, _, h5⟩
   have hsp : 0 < len → a.spot = none := by
    intro h0
    obtain ⟨cs', h4, _⟩ := first 0 h0
    obtain ⟨d0, _, _, _, h5, _⟩ := three_cells h4
    have h5 : w.cell? a = some d0 := by simpa [Addr.add] using h5
    exact no_spot h5
   intro i hi
   obtain ⟨cs', h4, z, h5⟩ := first i hi
   obtain ⟨d0, d1, d2, rfl, g0, g1, g2⟩ := three_cells h4
   obtain ⟨y, hk, hok⟩ := open_ent m _ _ h5
   simp at hk
   obtain ⟨rfl, rfl, rfl⟩ := hk
   have hs := hsp (by omega)
   have e1 : ∀ j, (a.add (i * 3)).add j = ⟨a.block, a.off + i * 3 + j, none⟩ := by
    intro j
    obtain ⟨ab, ao, asp⟩ := a
    simp only at hs
    subst hs
    unfold Addr.add
    split <;> split <;> simp_all
   have e0 := e1 0
   rw [show (a.add (i * 3)).add 0 = a.add (i * 3) from by simp [Addr.add]] at e0
   rw [e0] at g0
   rw [e1] at g1 g2
   exact ⟨y, hs, g0, g1, g2, hok⟩
  obtain ⟨s, hs1, hs2⟩ := list_of_all _ len key
  subst hs1
  refine ⟨s, _, e2, ⟨some a, cap, rfl, hlc, by simpa [maxLen] using hcm, fun j hj => ?_⟩, fun f hf => ?_⟩
  ·obtain ⟨hsp, g0, g1, g2, _⟩ := hs2 j hj
   refine ⟨a.block, a.off, ?_, (by have := cell_lt g0; simpa using this), by simpa using g0, by simpa using g1, by simpa using g2⟩
   obtain ⟨ab, ao, asp⟩ := a
   simp only at hsp
   subst hsp
   rfl
  ·obtain ⟨j, hj, rfl⟩ := List.mem_iff_getElem.1 hf
   exact (hs2 j hj).2.2.2.2
theorem open_ents' {H : Type} {enc : TypeId × Value → H} {w : World} {base b0 : Nat} {r : Reach} {spare : Nat → Bool} {held : Bool} {v : Value} {d : DataW H} {ps : List MemPlace} (hval : Value.okWide Tryz.prog w r b0 25 v) (hd : DataW.Trod enc Tryz.prog w base spare held 25 v d ps) :
 ∃ (l : List Ent) (u : Value), v = u ∧ EnR w w.heap.size u l ∧ ∀ f ∈ l, EntArg f := by
 obtain ⟨A, n, cap, rfl⟩ := okWide_slice Tryz.underlying25 hval
 obtain ⟨fuel, hf⟩ := hd
 obtain ⟨l, u, hc, hin, hok⟩ := open_ents fuel _ _ hf
 simp [Value.cells] at hc
 subst hc
 exact ⟨l, _, rfl, hin, hok⟩
open Go.RowKit
theorem registryMakes_r (c : Cfg) (l : List Ent) (u : Value) (n : ByteArray) (f : Fr) (W : World) (_h0 : c.ok) (h1 : EnR W W.heap.size u l ∧ ∀ e ∈ l, EntArg e) (h2 : n.size ≤ maxLen) (h3 : f.ok) (hL : Laid W ∧ LaidC W) :
 Calls Tryz.prog 5 #[c.val, u, .string n, f.val] W fun e w' => e = .returned (.bool true) ∧ Below W.heap.size W w' :=
 registryMakes_w c l u n f W h1.1 (fun e he => (h1.2 e he).id) (by simpa [maxLen] using h2) h3.nm h3.body hL.1 hL.2
theorem laid_in {W : World} (h : laidMetH Tryz.prog [("hatchway/compact.behind", Rows.laid_hatchway_compact_behind), ("hatchway/schema.uintSizes", Rows.laid_hatchway_schema_uintSizes)] W) : Laid W ∧ LaidC W := by
 rw [MakeChecks.laidMetH_plain _ _ _ (by kernel_rfl)] at h
 have hg : Tryz.prog.globalNamed "hatchway/compact.behind" = some 0 := by kernel_rfl
 have hg2 : Tryz.prog.globalNamed "hatchway/schema.uintSizes" = some 1 := by kernel_rfl
 have hT : Lib.TabIs Tryz.prog W "hatchway/compact.behind" .i64 [2, 4, 8] := Lib.tabIs_of_head (k := .i64) (zs := [2, 4, 8]) (n := 3) hg (by kernel_rfl) Tryz.underlying195 Tryz.underlying3 (by kernel_rfl) (by kernel_rfl) h
 have hT2 : Lib.TabIs Tryz.prog W "hatchway/schema.uintSizes" .i64 [1, 2, 4, 8] := Lib.tabIs_of_head (k := .i64) (zs := [1, 2, 4, 8]) (n := 4) hg2 (by kernel_rfl) Tryz.underlying214 Tryz.underlying3 (by kernel_rfl) (by kernel_rfl) h.tail
 exact ⟨⟨hT2.cell hg2 0 (by simp), hT2.cell hg2 1 (by simp), hT2.cell hg2 2 (by simp), hT2.cell hg2 3 (by simp)⟩, ⟨hT.cell hg 0 (by simp), hT.cell hg 1 (by simp), hT.cell hg 2 (by simp)⟩⟩
end Go.Proofs.YtnfpgadegpmhkaaGreatDoor
