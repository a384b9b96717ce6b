/- A config, or a frame, that came in as an argument. -/
import Derived.Test.YtnfpgadegpmhkaaGreatDoorProg
import Derived.Test.YtnfpgadegpmhkaaGreatDoorKA2
import Derived.ProofKit
import Derived.OpenShut
import Derived.ShutString
set_option linter.unusedVariables false
set_option linter.unusedSimpArgs false
set_option maxRecDepth 100000
namespace Go.Proofs.YtnfpgadegpmhkaaGreatDoor
open Go.ChangeShapes Go.WideShapes Go.ChangeAt Go.RowKit
def Cfg.val (c : Cfg) : Value := .agg #[.int .i64 c.fm, .int .u32 c.mg, .int .i64 c.fr, .int .i64 c.un, .int .i64 c.de, .int .i64 c.it]
def Fr.val (f : Fr) : Value := .agg #[.int .u64 f.id, .string f.nm, .string f.body]
structure Cfg.ok (c : Cfg) : Prop where
 fm : -9223372036854775808 ≤ c.fm ∧ c.fm ≤ 9223372036854775807
 mg : c.mg < 4294967296
 fr : -9223372036854775808 ≤ c.fr ∧ c.fr ≤ 9223372036854775807
 un : -9223372036854775808 ≤ c.un ∧ c.un ≤ 9223372036854775807
 de : -9223372036854775808 ≤ c.de ∧ c.de ≤ 9223372036854775807
 it : -9223372036854775808 ≤ c.it ∧ c.it ≤ 9223372036854775807
structure Fr.ok (f : Fr) : Prop where
 id : f.id < 18446744073709551616
 nm : f.nm.size ≤ 9223372036854775807
 body : f.body.size ≤ 9223372036854775807
theorem wf_i64 {n : Int} (h : (Lit.int .i64 n).wf = true) : -9223372036854775808 ≤ n ∧ n ≤ 9223372036854775807 := by simpa [Lit.wf, IntKind.min, IntKind.max, IntKind.signed, IntKind.bits] using h
theorem wf_u32 {n : Int} (h : (Lit.int .u32 n).wf = true) : ∃ k : Nat, n = (k : Int) ∧ k < 4294967296 := by
 have h0 : 0 ≤ n ∧ n ≤ 4294967295 := by simpa [Lit.wf, IntKind.min, IntKind.max, IntKind.signed, IntKind.bits] using h
 exact ⟨n.toNat, by omega, by omega⟩
theorem wf_u64 {n : Int} (h : (Lit.int .u64 n).wf = true) : ∃ k : Nat, n = (k : Int) ∧ k < 18446744073709551616 := by
 have h0 : 0 ≤ n ∧ n ≤ 18446744073709551615 := by simpa [Lit.wf, IntKind.min, IntKind.max, IntKind.signed, IntKind.bits] using h
 exact ⟨n.toNat, by omega, by omega⟩
theorem cellsOf_cfg : Tryz.prog.cellsOf 24 = 6 := by kernel_rfl
theorem cellsOf_cint : Tryz.prog.cellsOf 3 = 1 := by kernel_rfl
theorem cellsOf_cu32 : Tryz.prog.cellsOf 22 = 1 := by kernel_rfl
theorem cellsOf_cu64 : Tryz.prog.cellsOf 38 = 1 := by kernel_rfl
theorem cellsOf_cstr : Tryz.prog.cellsOf 9 = 1 := by kernel_rfl
theorem cellsOf_frame : Tryz.prog.cellsOf 40 = 3 := by kernel_rfl
theorem open_cfg {H : Type} {enc : TypeId × Value → H} {w : World} {base : Nat} {spare : Nat → Bool} {held : Bool} (fuel : Nat) (cs : List Value) (x : DataW H × List MemPlace) (h : DataW.trod enc Tryz.prog w base spare held fuel 24 cs = some x) :
 ∃ c : Cfg, cs = [.int .i64 c.fm, .int .u32 c.mg, .int .i64 c.fr, .int .i64 c.un, .int .i64 c.de, .int .i64 c.it] ∧ c.ok := by
 obtain ⟨xs, n, rfl, _, hl, hxl, hf⟩ := DataW.trod_struct Tryz.underlying24 h
 rw [cellsOf_cfg] at hl
 match cs, hl with
 | [c0, c1, c2, c3, c4, c5], _ =>
  have h0 : DataW.trod enc Tryz.prog w base spare held n 3 ((([c0, c1, c2, c3, c4, c5] : List Value).drop 0).take (Tryz.prog.cellsOf 3)) = xs[0]? := hf 0 _ rfl
  have h1 : DataW.trod enc Tryz.prog w base spare held n 22 ((([c0, c1, c2, c3, c4, c5] : List Value).drop 1).take (Tryz.prog.cellsOf 22)) = xs[1]? := hf 1 _ rfl
  have h2 : DataW.trod enc Tryz.prog w base spare held n 3 ((([c0, c1, c2, c3, c4, c5] : List Value).drop 2).take (Tryz.prog.cellsOf 3)) = xs[2]? := hf 2 _ rfl
  have h3 : DataW.trod enc Tryz.prog w base spare held n 3 ((([c0, c1, c2, c3, c4, c5] : List Value).drop 3).take (Tryz.prog.cellsOf 3)) = xs[3]? := hf 3 _ rfl
  have h4 : DataW.trod enc Tryz.prog w base spare held n 3 ((([c0, c1, c2, c3, c4, c5] : List Value).drop 4).take (Tryz.prog.cellsOf 3)) = xs[4]? := hf 4 _ rfl
  have h5 : DataW.trod enc Tryz.prog w base spare held n 3 ((([c0, c1, c2, c3, c4, c5] : List Value).drop 5).take (Tryz.prog.cellsOf 3)) = xs[5]? := hf 5 _ rfl
  have hx2 : xs.length = 6 := hxl
  rw [List.getElem?_eq_getElem (by omega)] at h0 h1 h2 h3 h4 h5
  rw [cellsOf_cint] at h0 h2 h3 h4 h5
  rw [cellsOf_cu32] at h1
  simp only [List.drop_zero, List.take_succ_cons, List.take_zero, List.drop_succ_cons] at h0 h1 h2 h3 h4 h5
  obtain ⟨i0, e0, _, g0⟩ := DataW.trod_int Tryz.underlying3 h0
  obtain ⟨i1, e1, _, g1⟩ := DataW.trod_int Tryz.underlying22 h1
  obtain ⟨i2, e2, _, g2⟩ := DataW.trod_int Tryz.underlying3 h2
  obtain ⟨i3, e3, _, g3⟩ := DataW.trod_int Tryz.underlying3 h3
  obtain ⟨i4, e4, _, g4⟩ := DataW.trod_int Tryz.underlying3 h4
  obtain ⟨i5, e5, _, g5⟩ := DataW.trod_int Tryz.underlying3 h5
  simp at e0 e1 e2 e3 e4 e5
  subst e0; subst e1; subst e2; subst e3; subst e4; subst e5
  obtain ⟨k, rfl, hk⟩ := wf_u32 g1
  exact ⟨⟨i0, k, i2, i3, i4, i5⟩, rfl, wf_i64 g0, hk, wf_i64 g2, wf_i64 g3, wf_i64 g4, wf_i64 g5⟩
theorem open_cfg' {H : Type} {enc : TypeId × Value → H} {w : World} {base b0 : Nat} {r : Reach} {spare : Nat → Bool} {held : Bool} {v : Value} {d : DataW H} {ps : List MemPlace} (hval : Value.okWide Tryz.prog w r b0 24 v) (hd : DataW.Trod enc Tryz.prog w base spare held 24 v d ps) :
 ∃ c : Cfg, v = c.val ∧ c.ok := by
 obtain ⟨cs, rfl, _⟩ := okWide_struct Tryz.underlying24 hval
 obtain ⟨fuel, hf⟩ := hd
 obtain ⟨c, hc, hok⟩ := open_cfg fuel _ _ hf
 refine ⟨c, ?_, hok⟩
 have hc : cs.toList = [.int .i64 c.fm, .int .u32 c.mg, .int .i64 c.fr, .int .i64 c.un, .int .i64 c.de, .int .i64 c.it] := hc
 have : cs = #[.int .i64 c.fm, .int .u32 c.mg, .int .i64 c.fr, .int .i64 c.un, .int .i64 c.de, .int .i64 c.it] := by cases cs; simp at hc; simp [hc]
 rw [this]; rfl
theorem open_fr {H : Type} {enc : TypeId × Value → H} {w : World} {base : Nat} {spare : Nat → Bool} {held : Bool} (fuel : Nat) (cs : List Value) (x : DataW H × List MemPlace) (h : DataW.trod enc Tryz.prog w base spare held fuel 40 cs = some x) :
 ∃ f : Fr, cs = [.int .u64 f.id, .string f.nm, .string f.body] ∧ f.ok := by
 obtain ⟨xs, n, rfl, _, hl, hxl, hf⟩ := DataW.trod_struct Tryz.underlying40 h
 rw [cellsOf_frame] at hl
 match cs, hl with
 | [c0, c1, c2], _ =>
  have h0 : DataW.trod enc Tryz.prog w base spare held n 38 ((([c0, c1, c2] : List Value).drop 0).take (Tryz.prog.cellsOf 38)) = xs[0]? := hf 0 _ rfl
  have h1 : DataW.trod enc Tryz.prog w base spare held n 9 ((([c0, c1, c2] : List Value).drop 1).take (Tryz.prog.cellsOf 9)) = xs[1]? := hf 1 _ rfl
  have h2 : DataW.trod enc Tryz.prog w base spare held n 9 ((([c0, c1, c2] : List Value).drop 2).take (Tryz.prog.cellsOf 9)) = xs[2]? := hf 2 _ rfl
  have hx2 : xs.length = 3 := hxl
  rw [List.getElem?_eq_getElem (by omega)] at h0 h1 h2
  rw [cellsOf_cu64] at h0
  rw [cellsOf_cstr] at h1 h2
  simp only [List.drop_zero, List.take_succ_cons, List.take_zero, List.drop_succ_cons] at h0 h1 h2
  obtain ⟨i0, e0, _, g0⟩ := DataW.trod_int Tryz.underlying38 h0
  obtain ⟨t1, e1, _, g1⟩ := DataW.trod_string Tryz.underlying9 h1
  obtain ⟨t2, e2, _, g2⟩ := DataW.trod_string Tryz.underlying9 h2
  simp at e0 e1 e2
  subst e0; subst e1; subst e2
  obtain ⟨k, rfl, hk⟩ := wf_u64 g0
  exact ⟨⟨k, t1, t2⟩, rfl, hk, by simpa [maxLen] using g1, by simpa [maxLen] using g2⟩
theorem open_fr' {H : Type} {enc : TypeId × Value → H} {w : World} {base b0 : Nat} {r : Reach} {spare : Nat → Bool} {held : Bool} {v : Value} {d : DataW H} {ps : List MemPlace} (hval : Value.okWide Tryz.prog w r b0 40 v) (hd : DataW.Trod enc Tryz.prog w base spare held 40 v d ps) :
 ∃ f : Fr, v = f.val ∧ f.ok := by
 obtain ⟨cs, rfl, _⟩ := okWide_struct Tryz.underlying40 hval
 obtain ⟨fuel, hf⟩ := hd
 obtain ⟨f, hc, hok⟩ := open_fr fuel _ _ hf
 refine ⟨f, ?_, hok⟩
 have hc : cs.toList = [.int .u64 f.id, .string f.nm, .string f.body] := hc
 have : cs = #[.int .u64 f.id, .string f.nm, .string f.body] := by cases cs; simp at hc; simp [hc]
 rw [this]; rfl
end Go.Proofs.YtnfpgadegpmhkaaGreatDoor
