/- A slice of entries that came in as an argument. -/
import Derived.Test.YtnfpgadegpmhkaaGreatDoorKA8
import Derived.Test.YtnfpgadegpmhkaaGreatDoorKA42
import Derived.Test.YtnfpgadegpmhkaaGreatDoorKA4
import Derived.Test.YtnfpgadegpmhkaaGreatDoorKA41
import Derived.Test.YtnfpgadegpmhkaaGreatDoorProg
import Derived.Test.YtnfpgadegpmhkaaGreatDoorKA3
import Derived.ProofKit
import Derived.OpenShut
import Derived.ShutString
import Derived.Test.YtnfpgadegpmhkaaGreatDoorRows
import Derived.Test.YtnfpgadegpmhkaaGreatDoorKA24
import Derived.Test.YtnfpgadegpmhkaaGreatDoorKA16
import Derived.Lib.LaidTab
import Derived.Stop.LaidErr
import Derived.MakeChecks
set_option linter.unusedVariables false
set_option linter.unusedSimpArgs false
set_option maxRecDepth 100000
namespace Go.Proofs.YtnfpgadegpmhkaaGreatDoor
open Go.ChangeShapes Go.WideShapes Go.ChangeAt Go.RowKit
structure EntArg (e : Ent) : Prop where
 id : e.id < 18446744073709551616
 name : e.name.size ≤ 9223372036854775807
 ty : e.ty.size ≤ 9223372036854775807
theorem cellsOf_entry : Tryz.prog.cellsOf 52 = 3 := by kernel_rfl
theorem open_ent {H : Type} {enc : TypeId × Value → H} {w : World} {base : Nat} {spare : Nat → Bool} {held : Bool} (fuel : Nat) (cs : List Value) (x : DataW H × List MemPlace) (h : DataW.trod enc Tryz.prog w base spare held fuel 52 cs = some x) :
 ∃ f : Ent, cs = [.int .u64 f.id, .string f.name, .string f.ty] ∧ EntArg f := by
 obtain ⟨xs, n, rfl, _, hl, hxl, hf⟩ := DataW.trod_struct Tryz.underlying52 h
 rw [cellsOf_entry] at hl
 match cs, hl with
 | [c0, c1, c2], _ =>
  have h0 : DataW.trod enc Tryz.prog w base spare held n 38 ((([c0, c1, c2] : List Value).drop 0).take (Tryz.prog.cellsOf 38)) = xs[0]? := hf 0 _ rfl
  have h1 : DataW.trod enc Tryz.prog w base spare held n 9 ((([c0, c1, c2] : List Value).drop 1).take (Tryz.prog.cellsOf 9)) = xs[1]? := hf 1 _ rfl
  have h2 : DataW.trod enc Tryz.prog w base spare held n 9 ((([c0, c1, c2] : List Value).drop 2).take (Tryz.prog.cellsOf 9)) = xs[2]? := hf 2 _ rfl
  have hx2 : xs.length = 3 := hxl
  rw [List.getElem?_eq_getElem (by omega)] at h0 h1 h2
  rw [cellsOf_cu64] at h0
  rw [cellsOf_cstr] at h1 h2
  simp only [List.drop_zero, List.take_succ_cons, List.take_zero, List.drop_succ_cons] at h0 h1 h2
  obtain ⟨i0, e0, _, g0⟩ := DataW.trod_int Tryz.underlying38 h0
  obtain ⟨t1, e1, _, g1⟩ := DataW.trod_string Tryz.underlying9 h1
  obtain ⟨t2, e2, _, g2⟩ := DataW.trod_string Tryz.underlying9 h2
  simp at e0 e1 e2
  subst e0; subst e1; subst e2
  obtain ⟨k, rfl, hk⟩ := wf_u64 g0
  exact ⟨⟨k, t1, t2⟩, rfl, hk, by simpa [maxLen] using g1, by simpa [maxLen] using g2⟩
theorem open_ents {H : Type} {enc : TypeId × Value → H} {w : World} {base : Nat} {spare : Nat → Bool} {held : Bool} (fuel : Nat) (cs : List Value) (x : DataW H × List MemPlace) (h : DataW.trod enc Tryz.prog w base spare held fuel 25 cs = some x) :
 ∃ (l : List Ent) (v : Value), cs = [v] ∧ EnR w w.heap.size v l ∧ ∀ f ∈ l, EntArg f := by
 rcases DataW.trod_slice Tryz.underlying25 h with ⟨e2, _⟩ | ⟨a, len, cap, elems, rest, m, rfl, e2, _, hb, hlc, hcm, hel, hat, _, _⟩
 ·exact ⟨[], _, e2, EnR.nil _ _, by simp⟩
 ·have key : ∀ i, i < len → ∃ y : Ent, a.spot = none ∧ w.cell? ⟨a.block, a.off + i * 3, none⟩ = some (.int .u64 y.id) ∧ w.cell? ⟨a.block, a.off + i * 3 + 1, none⟩ = some (.string y.name) ∧ w.cell? ⟨a.block, a.off + i * 3 + 2, none⟩ = some (.string y.ty) ∧ EntArg y := by
   have first : ∀ i, i < len → ∃ cs', w.cells? base (a.add (i * 3)) 3 = some cs' ∧ ∃ z, DataW.trod enc Tryz.prog w base spare held m 52 cs' = some z := by
    intro i hi
    have h3 := hat i hi
    rw [cellsOf_entry, List.getElem?_eq_getElem (by omega)] at h3
    rw [Option.bind_eq_some_iff] at h3
    obtain ⟨cs', h4, h5⟩ := h3
    exact ⟨cs', h4, _, h5⟩
   have hsp : 0 < len → a.spot = none := by
    intro h0
    obtain ⟨cs', h4, _⟩ := first 0 h0
    obtain ⟨d0, _, _, _, h5, _⟩ := three_cells h4
    have h5 : w.cell? a = some d0 := by simpa [Addr.add] using h5
    exact no_spot h5
   intro i hi
   obtain ⟨cs', h4, z, h5⟩ := first i hi
   obtain ⟨d0, d1, d2, rfl, g0, g1, g2⟩ := three_cells h4
   obtain ⟨y, hk, hok⟩ := open_ent m _ _ h5
   simp at hk
   obtain ⟨rfl, rfl, rfl⟩ := hk
   have hs := hsp (by omega)
   have e1 : ∀ j, (a.add (i * 3)).add j = ⟨a.block, a.off + i * 3 + j, none⟩ := by
    intro j
    obtain ⟨ab, ao, asp⟩ := a
    simp only at hs
    subst hs
    unfold Addr.add
    split <;> split <;> simp_all
   have e0 := e1 0
   rw [show (a.add (i * 3)).add 0 = a.add (i * 3) from by simp [Addr.add]] at e0
   rw [e0] at g0
   rw [e1] at g1 g2
   exact ⟨y, hs, g0, g1, g2, hok⟩
  obtain ⟨s, hs1, hs2⟩ := list_of_all _ len key
  subst hs1
  refine ⟨s, _, e2, ⟨some a, cap, rfl, hlc, by simpa [maxLen] using hcm, fun j hj => ?_⟩, fun f hf => ?_⟩
  ·obtain ⟨hsp, g0, g1, g2, _⟩ := hs2 j hj
   refine ⟨a.block, a.off, ?_, (by have := cell_lt g0; simpa using this), by simpa using g0, by simpa using g1, by simpa using g2⟩
   obtain ⟨ab, ao, asp⟩ := a
   simp only at hsp
   subst hsp
   rfl
  ·obtain ⟨j, hj, rfl⟩ := List.mem_iff_getElem.1 hf
   exact (hs2 j hj).2.2.2.2
theorem open_ents' {H : Type} {enc : TypeId × Value → H} {w : World} {base b0 : Nat} {r : Reach} {spare : Nat → Bool} {held : Bool} {v : Value} {d : DataW H} {ps : List MemPlace} (hval : Value.okWide Tryz.prog w r b0 25 v) (hd : DataW.Trod enc Tryz.prog w base spare held 25 v d ps) :
 ∃ (l : List Ent) (u : Value), v = u ∧ EnR w w.heap.size u l ∧ ∀ f ∈ l, EntArg f := by
 obtain ⟨A, n, cap, rfl⟩ := okWide_slice Tryz.underlying25 hval
 obtain ⟨fuel, hf⟩ := hd
 obtain ⟨l, u, hc, hin, hok⟩ := open_ents fuel _ _ hf
 simp [Value.cells] at hc
 subst hc
 exact ⟨l, _, rfl, hin, hok⟩
open Go.RowKit
theorem registryEncodes_r (c : Cfg) (l : List Ent) (u : Value) (n : ByteArray) (x : It) (c0 c1 c2 : Value) (W : World) (_h0 : c.ok) (h1 : EnR W W.heap.size u l ∧ ∀ e ∈ l, EntArg e) (h2 : n.size ≤ maxLen ∧ ItIn W W.heap.size x c0 c1 c2) (hL : Laid W ∧ LaidC W) :
 Calls Tryz.prog 3 #[c.val, u, .agg #[.string n, c0, c1, c2]] W fun e w' => e = .returned (.bool true) ∧ Below W.heap.size W w' :=
 registryEncodes_w c l u n x W c0 c1 c2 h1.1 (fun e he => (h1.2 e he).id) (by simpa [maxLen] using h2.1) h2.2 hL.1 hL.2
theorem exists_list {α : Type} (Q : Nat → α → Prop) : ∀ n, (∀ i, i < n → ∃ y, Q i y) → ∃ l : List α, l.length = n ∧ ∀ i (h : i < l.length), Q i l[i]
 | 0, _ => ⟨[], rfl, by simp⟩
 | n + 1, h => by
  obtain ⟨l, h1, h2⟩ := exists_list Q n fun i hi => h i (by omega)
  obtain ⟨y, hy⟩ := h n (by omega)
  refine ⟨l ++ [y], by simp [h1], fun i hi => ?_⟩
  by_cases hc : i < l.length
  ·rw [List.getElem_append_left hc]; exact h2 i hc
  ·have : i = n := by simp at hi; omega
   subst this
   rw [List.getElem_append_right (by omega)]
   simpa [h1] using hy
theorem cells3 {w : World} {base : Nat} {a : Addr} {cs : List Value} (h : w.cells? base a 3 = some cs) : ∃ c0 c1 c2, cs = [c0, c1, c2] ∧ w.cell? a = some c0 ∧ w.cell? (a.add 1) = some c1 ∧ w.cell? (a.add 2) = some c2 := by
 unfold World.cells? at h
 split at h
 ·have e : List.range 3 = [0, 1, 2] := rfl
  rw [e] at h
  simp only [List.mapM_cons, List.mapM_nil, Option.bind_eq_bind, Option.pure_def, Option.bind_eq_some_iff] at h
  obtain ⟨c0, h0, r, ⟨c1, h1, r2, ⟨c2, h2, r3, h3, h4⟩, h5⟩, h6⟩ := h
  simp at h3 h4 h5 h6
  subst h3; subst h4; subst h5; subst h6
  exact ⟨c0, c1, c2, rfl, by simpa [Addr.add] using h0, h1, h2⟩
 ·cases h
theorem spot_none {w : World} {a : Addr} {v : Value} (h : w.cell? a = some v) : a.spot = none := by
 unfold World.cell? at h
 split at h
 ·split at h
  ·cases h
  ·rename_i hs; simpa using hs
 ·cases h
theorem cellsOf_item : Tryz.prog.cellsOf 28 = 3 := by kernel_rfl
theorem cellsOf_str : Tryz.prog.cellsOf 9 = 1 := by kernel_rfl
theorem cellsOf_bool : Tryz.prog.cellsOf 4 = 1 := by kernel_rfl
theorem cellsOf_items : Tryz.prog.cellsOf 26 = 1 := by kernel_rfl
theorem open_item {H : Type} {enc : TypeId × Value → H} {w : World} {base : Nat} {spare : Nat → Bool} {held : Bool} : ∀ (fuel : Nat) (cs : List Value) (x : DataW H × List MemPlace), DataW.trod enc Tryz.prog w base spare held fuel 28 cs = some x →
 ∃ (y : It) (c0 c1 c2 : Value), cs = [c0, c1, c2] ∧ ItIn w w.heap.size y c0 c1 c2 := by
 intro fuel
 induction fuel using Nat.strongRecOn with
 | ind fuel ih =>
  intro cs x h
  obtain ⟨xs, n, rfl, _, hl, hxl, hf⟩ := DataW.trod_struct Tryz.underlying28 h
  rw [cellsOf_item] at hl
  match cs, hl with
  | [c0, c1, c2], _ =>
   have h0 : DataW.trod enc Tryz.prog w base spare held n 9 ((([c0, c1, c2] : List Value).drop 0).take (Tryz.prog.cellsOf 9)) = xs[0]? := hf 0 _ rfl
   have h1 : DataW.trod enc Tryz.prog w base spare held n 4 ((([c0, c1, c2] : List Value).drop 1).take (Tryz.prog.cellsOf 4)) = xs[1]? := hf 1 _ rfl
   have h2 : DataW.trod enc Tryz.prog w base spare held n 26 ((([c0, c1, c2] : List Value).drop 2).take (Tryz.prog.cellsOf 26)) = xs[2]? := hf 2 _ rfl
   have hx3 : xs.length = 3 := hxl
   rw [List.getElem?_eq_getElem (by omega)] at h0 h1 h2
   rw [cellsOf_str] at h0
   rw [cellsOf_bool] at h1
   rw [cellsOf_items] at h2
   simp only [List.drop_zero, List.take_succ_cons, List.take_zero, List.drop_succ_cons] at h0 h1 h2
   obtain ⟨t, e0, _, ht⟩ := DataW.trod_string Tryz.underlying9 h0
   obtain ⟨l, e1, _⟩ := DataW.trod_bool Tryz.underlying4 h1
   simp at e0 e1
   subst e0; subst e1
   rcases DataW.trod_slice Tryz.underlying26 h2 with ⟨e2, _⟩ | ⟨a, len, cap, elems, rest, m, rfl, e2, _, hb, hlc, hcm, hel, hat, _, _⟩
   ·simp at e2
    subst e2
    exact ⟨.mk t l [], _, _, _, rfl, rfl, rfl, by simpa [maxLen] using ht, by simp, none, 0, rfl, by simp, by simp, trivial⟩
   ·simp at e2
    subst e2
    have key : ∀ i, i < len → ∃ y : It, ∃ d0 d1 d2, a.spot = none ∧ w.cell? ⟨a.block, a.off + i * 3, none⟩ = some d0 ∧ w.cell? ⟨a.block, a.off + i * 3 + 1, none⟩ = some d1 ∧ w.cell? ⟨a.block, a.off + i * 3 + 2, none⟩ = some d2 ∧ ItIn w w.heap.size y d0 d1 d2 := by
     have first : ∀ i, i < len → ∃ cs', w.cells? base (a.add (i * 3)) 3 = some cs' ∧ ∃ z, DataW.trod enc Tryz.prog w base spare held m 28 cs' = some z := by
      intro i hi
      have h3 := hat i hi
      rw [cellsOf_item, List.getElem?_eq_getElem (by omega)] at h3
      rw [Option.bind_eq_some_iff] at h3
      obtain ⟨cs', h4, h5⟩ := h3
      exact ⟨cs', h4, _, h5⟩
     have hsp : 0 < len → a.spot = none := by
      intro h0
      obtain ⟨cs', h4, _⟩ := first 0 h0
      obtain ⟨d0, _, _, _, h5, _⟩ := cells3 h4
      have h5 : w.cell? a = some d0 := by simpa [Addr.add] using h5
      exact spot_none h5
     intro i hi
     obtain ⟨cs', h4, z, h5⟩ := first i hi
     obtain ⟨d0, d1, d2, rfl, g0, g1, g2⟩ := cells3 h4
     obtain ⟨y, k0, k1, k2, hk, hin⟩ := ih m (by omega) _ _ h5
     simp at hk
     obtain ⟨rfl, rfl, rfl⟩ := hk
     have hs := hsp (by omega)
     have e1 : ∀ j, (a.add (i * 3)).add j = ⟨a.block, a.off + i * 3 + j, none⟩ := by
      intro j
      obtain ⟨ab, ao, asp⟩ := a
      simp only at hs
      subst hs
      unfold Addr.add
      split <;> split <;> simp_all
     have e0 := e1 0
     rw [show (a.add (i * 3)).add 0 = a.add (i * 3) from by simp [Addr.add]] at e0
     rw [e0] at g0
     rw [e1] at g1 g2
     exact ⟨y, d0, d1, d2, hs, g0, g1, g2, hin⟩
    obtain ⟨s, hs1, hs2⟩ := exists_list _ len key
    subst hs1
    refine ⟨.mk t l s, _, _, _, rfl, rfl, rfl, by simpa [maxLen] using ht, ?_, some a, cap, rfl, hlc, by simpa [maxLen] using hcm, ItsIn.mk_ fun j hj => ?_⟩
    ·have : cap ≤ 9223372036854775807 := by simpa [maxLen] using hcm
     omega
    ·obtain ⟨d0, d1, d2, hsp, g0, g1, g2, hin⟩ := hs2 j hj
     refine ⟨a.block, a.off, d0, d1, d2, ?_, lt_of_cell g0, by simpa using g0, by simpa using g1, by simpa using g2, hin⟩
     obtain ⟨ab, ao, asp⟩ := a
     simp only at hsp
     subst hsp
     rfl
theorem cellsOf_msg : Tryz.prog.cellsOf 30 = 4 := by kernel_rfl
theorem open_msg {H : Type} {enc : TypeId × Value → H} {w : World} {base : Nat} {spare : Nat → Bool} {held : Bool} (fuel : Nat) (cs : List Value) (x : DataW H × List MemPlace) (h : DataW.trod enc Tryz.prog w base spare held fuel 30 cs = some x) :
 ∃ (n : ByteArray) (y : It) (c0 c1 c2 : Value), cs = [.string n, c0, c1, c2] ∧ n.size ≤ maxLen ∧ ItIn w w.heap.size y c0 c1 c2 := by
 obtain ⟨xs, n, rfl, _, hl, hxl, hf⟩ := DataW.trod_struct Tryz.underlying30 h
 rw [cellsOf_msg] at hl
 match cs, hl with
 | [c, c0, c1, c2], _ =>
  have h0 : DataW.trod enc Tryz.prog w base spare held n 9 ((([c, c0, c1, c2] : List Value).drop 0).take (Tryz.prog.cellsOf 9)) = xs[0]? := hf 0 _ rfl
  have h1 : DataW.trod enc Tryz.prog w base spare held n 28 ((([c, c0, c1, c2] : List Value).drop 1).take (Tryz.prog.cellsOf 28)) = xs[1]? := hf 1 _ rfl
  have hx2 : xs.length = 2 := hxl
  rw [List.getElem?_eq_getElem (by omega)] at h0 h1
  rw [cellsOf_str] at h0
  rw [cellsOf_item] at h1
  simp only [List.drop_zero, List.take_succ_cons, List.take_zero, List.drop_succ_cons] at h0 h1
  obtain ⟨t, e0, _, ht⟩ := DataW.trod_string Tryz.underlying9 h0
  simp at e0
  subst e0
  obtain ⟨y, d0, d1, d2, e, hin⟩ := open_item _ _ _ h1
  simp at e
  obtain ⟨rfl, rfl, rfl⟩ := e
  exact ⟨t, y, _, _, _, rfl, ht, hin⟩
theorem open_msg' {H : Type} {enc : TypeId × Value → H} {w : World} {base b0 : Nat} {r : Reach} {spare : Nat → Bool} {held : Bool} {v : Value} {d : DataW H} {ps : List MemPlace} (hval : Value.okWide Tryz.prog w r b0 30 v) (hd : DataW.Trod enc Tryz.prog w base spare held 30 v d ps) :
 ∃ (n : ByteArray) (y : It) (c0 c1 c2 : Value), v = .agg #[.string n, c0, c1, c2] ∧ n.size ≤ maxLen ∧ ItIn w w.heap.size y c0 c1 c2 := by
 obtain ⟨cs, rfl, _⟩ := okWide_struct Tryz.underlying30 hval
 obtain ⟨fuel, hf⟩ := hd
 obtain ⟨n, y, c0, c1, c2, hc, hn, hin⟩ := open_msg fuel _ _ hf
 refine ⟨n, y, c0, c1, c2, ?_, hn, hin⟩
 have hc : cs.toList = [.string n, c0, c1, c2] := hc
 have : cs = #[.string n, c0, c1, c2] := by cases cs; simp at hc; simp [hc]
 rw [this]
theorem laid_in {W : World} (h : laidMetH Tryz.prog [("hatchway/compact.behind", Rows.laid_hatchway_compact_behind), ("hatchway/schema.uintSizes", Rows.laid_hatchway_schema_uintSizes)] W) : Laid W ∧ LaidC W := by
 rw [MakeChecks.laidMetH_plain _ _ _ (by kernel_rfl)] at h
 have hg : Tryz.prog.globalNamed "hatchway/compact.behind" = some 0 := by kernel_rfl
 have hg2 : Tryz.prog.globalNamed "hatchway/schema.uintSizes" = some 1 := by kernel_rfl
 have hT : Lib.TabIs Tryz.prog W "hatchway/compact.behind" .i64 [2, 4, 8] := Lib.tabIs_of_head (k := .i64) (zs := [2, 4, 8]) (n := 3) hg (by kernel_rfl) Tryz.underlying195 Tryz.underlying3 (by kernel_rfl) (by kernel_rfl) h
 have hT2 : Lib.TabIs Tryz.prog W "hatchway/schema.uintSizes" .i64 [1, 2, 4, 8] := Lib.tabIs_of_head (k := .i64) (zs := [1, 2, 4, 8]) (n := 4) hg2 (by kernel_rfl) Tryz.underlying214 Tryz.underlying3 (by kernel_rfl) (by kernel_rfl) h.tail
 exact ⟨⟨hT2.cell hg2 0 (by simp), hT2.cell hg2 1 (by simp), hT2.cell hg2 2 (by simp), hT2.cell hg2 3 (by simp)⟩, ⟨hT.cell hg 0 (by simp), hT.cell hg 1 (by simp), hT.cell hg 2 (by simp)⟩⟩
end Go.Proofs.YtnfpgadegpmhkaaGreatDoor
