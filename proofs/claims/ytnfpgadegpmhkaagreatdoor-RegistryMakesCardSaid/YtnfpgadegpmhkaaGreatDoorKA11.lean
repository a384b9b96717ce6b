/- package registry: the row of a frame (of); Len, Config. -/
import Derived.Test.YtnfpgadegpmhkaaGreatDoorKA7
import Derived.Test.YtnfpgadegpmhkaaGreatDoorKA9
import Derived.Test.YtnfpgadegpmhkaaGreatDoorKA10
import Derived.Test.YtnfpgadegpmhkaaGreatDoorKA1
set_option linter.unusedVariables false
set_option linter.unusedSimpArgs false
set_option maxRecDepth 100000
set_option maxHeartbeats 3200000
namespace Go.Proofs.YtnfpgadegpmhkaaGreatDoor
open Go.RowKit
theorem RwS.open_ {w : World} {S : Nat → Prop} {r : RgRow} (h : RwS w S r) : ∃ A cap, r.2 = .agg #[.int .u64 r.1.id, .string r.1.name, .string r.1.ty, .int .i64 r.1.shape.kind, .int .i64 r.1.shape.size, .slice A r.1.shape.sub.length cap, .int .i64 r.1.shape.tail] ∧ TyS w S r.1.shape (.int .i64 r.1.shape.kind) (.int .i64 r.1.shape.size) (.slice A r.1.shape.sub.length cap) (.int .i64 r.1.shape.tail) := by
 obtain ⟨c0, c1, c2, c3, e, h⟩ := h
 obtain ⟨A, cap, rfl, rfl, rfl, rfl, _⟩ := h.open_
 exact ⟨A, cap, e, h⟩
def Row7 (l : List RgRow) (o : Option Ent) (a0 : Nat) (a1 a2 : ByteArray) (a3 a4 : Int) (A : Option Addr) (n cap : Nat) (a6 : Int) (b : Bool) : Prop :=
 (o = none ∧ b = false ∧ Value.agg #[.int .u64 a0, .string a1, .string a2, .int .i64 a3, .int .i64 a4, .slice A n cap, .int .i64 a6] = noRw) ∨ ∃ r ∈ l, o = some r.1 ∧ b = true ∧ Value.agg #[.int .u64 a0, .string a1, .string a2, .int .i64 a3, .int .i64 a4, .slice A n cap, .int .i64 a6] = r.2
theorem row7_nm {w : World} {lo hi g gn gi : Nat} {c : Cfg} {l : List RgRow} (h : RgM w lo hi g gn gi c l) (nm : ByteArray) :
 ∃ a0 a1 a2 a3 a4 A n cap a6 b, Row7 l (byName (entsOf l) nm) a0 a1 a2 a3 a4 A n cap a6 b ∧ ∀ V, MpB V gn (nmL l) → (Instr.lookup 73 (.map (some gn)) (.string nm) true).run Tryz.prog V = .ok (.tuple #[.agg #[.int .u64 (a0 : Nat), .string a1, .string a2, .int .i64 a3, .int .i64 a4, .slice A n cap, .int .i64 a6], .bool b]) V := by
 rcases look_nm h.nm h.ok nm with ⟨h1, h2⟩ | ⟨r, hr, h1, h2, h3⟩
 ·exact ⟨0, ⟨#[]⟩, ⟨#[]⟩, 0, 0, none, 0, 0, 0, false, .inl ⟨h1, rfl, rfl⟩, h2⟩
 ·obtain ⟨A, cap, e, _⟩ := (h.rows r hr).open_
  rw [e] at h3
  exact ⟨_, _, _, _, _, _, _, _, _, true, .inr ⟨r, hr, h2, rfl, e.symm⟩, h3⟩
theorem row7_ix {w : World} {lo hi g gn gi : Nat} {c : Cfg} {l : List RgRow} (h : RgM w lo hi g gn gi c l) (id : Nat) :
 ∃ a0 a1 a2 a3 a4 A n cap a6 b, Row7 l ((entsOf l).find? (fun e => decide (e.id = id))) a0 a1 a2 a3 a4 A n cap a6 b ∧ ∀ V, MpB V gi (idL l) → (Instr.lookup 74 (.map (some gi)) (.int .u64 id) true).run Tryz.prog V = .ok (.tuple #[.agg #[.int .u64 (a0 : Nat), .string a1, .string a2, .int .i64 a3, .int .i64 a4, .slice A n cap, .int .i64 a6], .bool b]) V := by
 rcases look_ix h.ix h.ok id with ⟨h1, h2⟩ | ⟨r, hr, h1, h2, h3⟩
 ·exact ⟨0, ⟨#[]⟩, ⟨#[]⟩, 0, 0, none, 0, 0, 0, false, .inl ⟨h1, rfl, rfl⟩, h2⟩
 ·obtain ⟨A, cap, e, _⟩ := (h.rows r hr).open_
  rw [e] at h3
  exact ⟨_, _, _, _, _, _, _, _, _, true, .inr ⟨r, hr, h2, rfl, e.symm⟩, h3⟩
abbrev put7 (w : World) (g : Nat) (v0 v1 v2 v3 v4 v5 v6 : Value) : World := ((((((w.setCell ⟨g, 0, none⟩ v0).setCell ⟨g, 1, none⟩ v1).setCell ⟨g, 2, none⟩ v2).setCell ⟨g, 3, none⟩ v3).setCell ⟨g, 4, none⟩ v4).setCell ⟨g, 5, none⟩ v5).setCell ⟨g, 6, none⟩ v6
theorem put7_blk {w : World} {g : Nat} {t : TypeId} {z0 z1 z2 z3 z4 z5 z6 : Value} (h : Blk w g t #[z0, z1, z2, z3, z4, z5, z6]) (v0 v1 v2 v3 v4 v5 v6 : Value) : Blk (put7 w g v0 v1 v2 v3 v4 v5 v6) g t #[v0, v1, v2, v3, v4, v5, v6] := by
 have h0 : Blk _ g t #[v0, z1, z2, z3, z4, z5, z6] := h.store (i := 0) (u := v0) rfl
 have h1 : Blk _ g t #[v0, v1, z2, z3, z4, z5, z6] := h0.store (i := 1) (u := v1) rfl
 have h2 : Blk _ g t #[v0, v1, v2, z3, z4, z5, z6] := h1.store (i := 2) (u := v2) rfl
 have h3 : Blk _ g t #[v0, v1, v2, v3, z4, z5, z6] := h2.store (i := 3) (u := v3) rfl
 have h4 : Blk _ g t #[v0, v1, v2, v3, v4, z5, z6] := h3.store (i := 4) (u := v4) rfl
 have h5 : Blk _ g t #[v0, v1, v2, v3, v4, v5, z6] := h4.store (i := 5) (u := v5) rfl
 exact h5.store (i := 6) (u := v6) rfl
theorem put7_only (w : World) (g : Nat) (v0 v1 v2 v3 v4 v5 v6 : Value) : Only [g] w (put7 w g v0 v1 v2 v3 v4 v5 v6) := (((((((Only.refl _ w).setCell (by simp) _).setCell (by simp) _).setCell (by simp) _).setCell (by simp) _).setCell (by simp) _).setCell (by simp) _).setCell (by simp) _
theorem put7_part {w : World} {g : Nat} {t : TypeId} {z0 z1 z2 z3 z4 z5 z6 : Value} (h : Blk w g t #[z0, z1, z2, z3, z4, z5, z6]) (v0 v1 v2 v3 v4 v5 v6 : Value) :
 (w.setCell ⟨g, 0, none⟩ v0).cell? ⟨g, 0, none⟩ = some v0 ∧ ((w.setCell ⟨g, 0, none⟩ v0).setCell ⟨g, 1, none⟩ v1).cell? ⟨g, 1, none⟩ = some v1 ∧ (((w.setCell ⟨g, 0, none⟩ v0).setCell ⟨g, 1, none⟩ v1).setCell ⟨g, 2, none⟩ v2).cell? ⟨g, 2, none⟩ = some v2 ∧ ((((w.setCell ⟨g, 0, none⟩ v0).setCell ⟨g, 1, none⟩ v1).setCell ⟨g, 2, none⟩ v2).setCell ⟨g, 3, none⟩ v3).cell? ⟨g, 3, none⟩ = some v3 ∧
 (((((w.setCell ⟨g, 0, none⟩ v0).setCell ⟨g, 1, none⟩ v1).setCell ⟨g, 2, none⟩ v2).setCell ⟨g, 3, none⟩ v3).setCell ⟨g, 4, none⟩ v4).cell? ⟨g, 4, none⟩ = some v4 ∧ ((((((w.setCell ⟨g, 0, none⟩ v0).setCell ⟨g, 1, none⟩ v1).setCell ⟨g, 2, none⟩ v2).setCell ⟨g, 3, none⟩ v3).setCell ⟨g, 4, none⟩ v4).setCell ⟨g, 5, none⟩ v5).cell? ⟨g, 5, none⟩ = some v5 ∧ (((((((w.setCell ⟨g, 0, none⟩ v0).setCell ⟨g, 1, none⟩ v1).setCell ⟨g, 2, none⟩ v2).setCell ⟨g, 3, none⟩ v3).setCell ⟨g, 4, none⟩ v4).setCell ⟨g, 5, none⟩ v5).setCell ⟨g, 6, none⟩ v6).cell? ⟨g, 6, none⟩ = some v6 := by
 have h0 : Blk _ g t #[v0, z1, z2, z3, z4, z5, z6] := h.store (i := 0) (u := v0) rfl
 have h1 : Blk _ g t #[v0, v1, z2, z3, z4, z5, z6] := h0.store (i := 1) (u := v1) rfl
 have h2 : Blk _ g t #[v0, v1, v2, z3, z4, z5, z6] := h1.store (i := 2) (u := v2) rfl
 have h3 : Blk _ g t #[v0, v1, v2, v3, z4, z5, z6] := h2.store (i := 3) (u := v3) rfl
 have h4 : Blk _ g t #[v0, v1, v2, v3, v4, z5, z6] := h3.store (i := 4) (u := v4) rfl
 have h5 : Blk _ g t #[v0, v1, v2, v3, v4, v5, z6] := h4.store (i := 5) (u := v5) rfl
 have h6 : Blk _ g t #[v0, v1, v2, v3, v4, v5, v6] := h5.store (i := 6) (u := v6) rfl
 exact ⟨h0.cell 0, h1.cell 1, h2.cell 2, h3.cell 3, h4.cell 4, h5.cell 5, h6.cell 6⟩
theorem blk7f {w : World} {g : Nat} {t : TypeId} {a0 a1 a2 a3 a4 a5 a6 : Value} (h : Blk w g t #[a0, a1, a2, a3, a4, a5, a6]) :
 w.frozen? ⟨g, 0, none⟩ = false ∧ w.frozen? ⟨g, 1, none⟩ = false ∧ w.frozen? ⟨g, 2, none⟩ = false ∧ w.frozen? ⟨g, 3, none⟩ = false ∧ w.frozen? ⟨g, 4, none⟩ = false ∧ w.frozen? ⟨g, 5, none⟩ = false ∧ w.frozen? ⟨g, 6, none⟩ = false := ⟨h.frozen 0, h.frozen 1, h.frozen 2, h.frozen 3, h.frozen 4, h.frozen 5, h.frozen 6⟩
def OfEnd (w : World) (c : Cfg) (l : List RgRow) (f : Fr) (e : Ending) (w' : World) : Prop :=
 Below w.heap.size w w' ∧ ∃ a0 a1 a2 a3 a4 A n cap a6 b, e = .returned (.tuple #[.agg #[.int .u64 (a0 : Nat), .string a1, .string a2, .int .i64 a3, .int .i64 a4, .slice A n cap, .int .i64 a6], .bool b]) ∧ Row7 l (byFrame c (entsOf l) f) a0 a1 a2 a3 a4 A n cap a6 b
theorem rgOf_c (lo hi g gn gi : Nat) (c : Cfg) (l : List RgRow) (f : Fr) (w : World) (h : RgM w lo hi g gn gi c l) :
 Calls Tryz.prog 37 #[.pointer (some ⟨g, 0, none⟩), .agg #[.int .u64 f.id, .string f.nm, .string f.body]] w fun e w' => OfEnd w c l f e w' := by
 obtain ⟨id, nm, body⟩ := f
 obtain ⟨g0, g6, g7, _, _⟩ := h.cells
 have hgw : g < w.heap.size := Nat.lt_of_lt_of_le h.g2 h.his
 have hnw : gn < w.heap.size := h.nm.lt
 have hiw : gi < w.heap.size := h.ix.lt
 have hgw1 : g < w.heap.size + 1 := by omega
 have hgw2 : g < w.heap.size + 1 + 1 := by omega
 obtain ⟨W, hW⟩ : ∃ W, ((w.alloc (.cells #[.int .u64 id, .string nm, .string body] 40)).alloc (.cells #[.int .u64 0, .string ⟨#[]⟩, .string ⟨#[]⟩, .int .i64 0, .int .i64 0, .slice none 0 0, .int .i64 0] 83)).alloc (.cells #[.int .u64 0, .string ⟨#[]⟩, .string ⟨#[]⟩, .int .i64 0, .int .i64 0, .slice none 0 0, .int .i64 0] 83) = W := ⟨_, rfl⟩
 have hbW : Below w.heap.size w W := by rw [← hW]; exact (((Below.refl _ w).alloc (Nat.le_refl _) _).alloc (by simp) _).alloc (by simp; omega) _
 have hB0 : Blk W w.heap.size 40 #[.int .u64 id, .string nm, .string body] := by rw [← hW]; exact ((Blk.new w _ _).alloc _).alloc _
 have hB1 : Blk W (w.heap.size + 1) 83 #[.int .u64 0, .string ⟨#[]⟩, .string ⟨#[]⟩, .int .i64 0, .int .i64 0, .slice none 0 0, .int .i64 0] := by rw [← hW]; exact Blk.alloc (Blk.at_ (by simp)) _
 have hB2 : Blk W (w.heap.size + 1 + 1) 83 #[.int .u64 0, .string ⟨#[]⟩, .string ⟨#[]⟩, .int .i64 0, .int .i64 0, .slice none 0 0, .int .i64 0] := by rw [← hW]; exact Blk.at_ (by simp)
 have HMW := Lib.hid (h.below (hbW.mono h.his))
 have HB0 := Lib.hid hB0
 have HB1 := Lib.hid hB1
 have HB2 := Lib.hid hB2
 have HBW := Lib.hid hbW
 have HW := Lib.hid hW
 clear hW hbW hB0 hB1 hB2
 by_cases hc : c.fm = 1
 ·have k1 : (c.fm == 1) = true := beq_iff_eq.2 hc
  have k2 : (c.fm != 1) = false := by simp [hc]
  have HBF := Lib.hid (byFrame_coin hc (entsOf l) ⟨id, nm, body⟩)
  by_cases hid : id = 0
  ·have k3 : ((id : Int) == 0) = true := beq_iff_eq.2 (by omega)
   rw [if_pos hid] at HBF
   obtain ⟨a0, a1, a2, a3, a4, A, n, cap, a6, b, hrw, hlk⟩ := row7_nm h nm
   have HRW := Lib.hid hrw
   have HLK := Lib.hid hlk
   clear h hrw hlk hc hid
   have HS : Hid (∀ V : World, V.heap[g]? = W.heap[g]? ∧ V.heap[gn]? = W.heap[gn]? ∧ V.heap[w.heap.size]? = W.heap[w.heap.size]? → V.cell? ⟨g, 6, none⟩ = some (.map (some gn)) ∧ V.cell? ⟨w.heap.size, 1, none⟩ = some (.string nm) ∧ MpB V gn (nmL l)) := Lib.hid (fun V hV => ⟨Blk.cell (show Blk V g _ _ from hV.1.trans HMW.out.blk) 6, Blk.cell (show Blk V w.heap.size _ _ from hV.2.2.trans HB0.out) 1, HMW.out.nm.keep hV.2.1⟩)
   go_enter Tryz.func37, Tryz.ntmps37
   go_wp2_with fail
   rw [HW.out]
   refine wp_region_last 11 (fun V => V.cell? ⟨g, 6, none⟩ = some (.map (some gn)) ∧ V.cell? ⟨w.heap.size, 1, none⟩ = some (.string nm) ∧ MpB V gn (nmL l)) (by kernel_rfl) (by kernel_rfl) ?_
   have hHeld := HS.out W.drew ⟨rfl, rfl, rfl⟩
   refine GT.tk1 0 hHeld ?_
   refine GT.tk1 1 hHeld ?_
   refine GT.tk1 2 hHeld ?_
   refine GT.tk1 3 hHeld ?_
   refine GT.tk1 4 hHeld ?_
   refine GT.tk1 5 hHeld ?_
   refine GT.tk1 6 (v := .tuple #[.agg #[.int .u64 a0, .string a1, .string a2, .int .i64 a3, .int .i64 a4, .slice A n cap, .int .i64 a6], .bool b]) hHeld ?_ (hy := by refine Or.inl ⟨by rfl, ?_⟩; intro V hV; have hl := HLK.out V hV.2.2; go_simp)
   refine GT.tk1 7 hHeld ?_
   refine GT.tk1 8 hHeld ?_
   refine GT.tk1 9 hHeld ?_
   obtain ⟨z_0, z_1, z_2, z_3, z_4, z_5, z_6⟩ := blk7 HB2.out
   obtain ⟨z_f0, z_f1, z_f2, z_f3, z_f4, z_f5, z_f6⟩ := blk7f HB2.out
   refine GT.st1 10 (fun K hK => ?_)
   go_simp
   obtain ⟨W2, hW2⟩ : ∃ W2, put7 W (w.heap.size + 1 + 1) (.int .u64 a0) (.string a1) (.string a2) (.int .i64 a3) (.int .i64 a4) (.slice A n cap) (.int .i64 a6) = W2 := ⟨_, rfl⟩
   have hY2 : Blk W2 (w.heap.size + 1 + 1) 83 #[.int .u64 a0, .string a1, .string a2, .int .i64 a3, .int .i64 a4, .slice A n cap, .int .i64 a6] := by rw [← hW2]; exact put7_blk HB2.out _ _ _ _ _ _ _
   have ho2 : Only [w.heap.size + 1 + 1] W W2 := by rw [← hW2]; exact put7_only W _ _ _ _ _ _ _ _
   have hX2 := HB1.out.only ho2 (by simp)
   have HBL : Hid (Below w.heap.size w W2) := Lib.hid (HBW.out.trans (ho2.below (by have := HBW.out.size; omega) (by simp; omega)))
   have hk2 : W2.drew.heap[g]? = W.heap[g]? ∧ W2.drew.heap[gn]? = W.heap[gn]? ∧ W2.drew.heap[w.heap.size]? = W.heap[w.heap.size]? := ⟨ho2.block _ (by have := HBW.out.size; omega) (by simp; omega), ho2.block _ (by have := HBW.out.size; omega) (by simp; omega), ho2.block _ (by have := HB0.out.lt; omega) (by simp; omega)⟩
   unfold put7 at hW2
   rw [hW2]
   refine hK.out _ _ (HS.out W2.drew hk2) (fun hHeld => ?_)
   clear hK K
   try simp only [Act.put, List.setIfInBounds_toArray, List.set_cons_zero, List.set_cons_succ]
   refine GT.la1 11 ?_
   go_simp
   clear z_0 z_1 z_2 z_3 z_4 z_5 z_6 z_f0 z_f1 z_f2 z_f3 z_f4 z_f5 z_f6 hW2 hk2 ho2
   obtain ⟨y_0, y_1, y_2, y_3, y_4, y_5, y_6⟩ := blk7 hY2
   obtain ⟨y_f0, y_f1, y_f2, y_f3, y_f4, y_f5, y_f6⟩ := blk7f hY2
   obtain ⟨x_0, x_1, x_2, x_3, x_4, x_5, x_6⟩ := blk7 hX2
   obtain ⟨x_f0, x_f1, x_f2, x_f3, x_f4, x_f5, x_f6⟩ := blk7f hX2
   go_wp2
   obtain ⟨r0, r1, r2, r3, r4, r5, r6⟩ := put7_part hX2 (.int .u64 a0) (.string a1) (.string a2) (.int .i64 a3) (.int .i64 a4) (.slice A n cap) (.int .i64 a6)
   refine bodyPost_ret (v := .tuple #[.agg #[.int .u64 a0, .string a1, .string a2, .int .i64 a3, .int .i64 a4, .slice A n cap, .int .i64 a6], .bool b]) (by simp [results, Tryz.results37, go_sem, r0, r1, r2, r3, r4, r5, r6]) rfl ?_
   exact ⟨(HBL.out.trans ((put7_only W2 (w.heap.size + 1) _ _ _ _ _ _ _).below HBL.out.size (by simp))).drew, _, _, _, _, _, _, _, _, _, _, rfl, (by rw [HBF.out]; exact HRW.out)⟩
  ·have k3 : ((id : Int) == 0) = false := beq_eq_false_iff_ne.2 (by omega)
   rw [if_neg hid] at HBF
   clear h hc hid
   go_enter Tryz.func37, Tryz.ntmps37
   go_wp2_with fail
   rw [HW.out]
   obtain ⟨y_0, y_1, y_2, y_3, y_4, y_5, y_6⟩ := blk7 HB2.out
   obtain ⟨y_f0, y_f1, y_f2, y_f3, y_f4, y_f5, y_f6⟩ := blk7f HB2.out
   obtain ⟨x_0, x_1, x_2, x_3, x_4, x_5, x_6⟩ := blk7 HB1.out
   obtain ⟨x_f0, x_f1, x_f2, x_f3, x_f4, x_f5, x_f6⟩ := blk7f HB1.out
   go_wp2
   refine bodyPost_ret (v := .tuple #[noRw, .bool false]) (by simp [noRw, results, Tryz.results37, go_sem, x_0, x_1, x_2, x_3, x_4, x_5, x_6]) rfl ?_
   exact ⟨HBW.out, 0, _, _, _, _, _, _, _, _, _, rfl, by rw [HBF.out]; exact .inl ⟨rfl, rfl, rfl⟩⟩
 ·have k1 : (c.fm == 1) = false := beq_eq_false_iff_ne.2 hc
  have k2 : (c.fm != 1) = true := bne_iff_ne.2 hc
  rcases empty_ways nm with ⟨hz, rfl⟩ | ⟨hz, k3, k4⟩
  ·have HBF : Hid (byFrame c (entsOf l) ⟨id, ⟨#[]⟩, body⟩ = (entsOf l).find? (fun e => decide (e.id = id))) := Lib.hid (by unfold byFrame; congr 1; funext e; exact frIs_id hc ⟨id, ⟨#[]⟩, body⟩ hz e)
   obtain ⟨a0, a1, a2, a3, a4, A, n, cap, a6, b, hrw, hlk⟩ := row7_ix h id
   have HRW := Lib.hid hrw
   have HLK := Lib.hid hlk
   clear h hrw hlk hc hz
   have HS : Hid (∀ V : World, V.heap[g]? = W.heap[g]? ∧ V.heap[gi]? = W.heap[gi]? ∧ V.heap[w.heap.size]? = W.heap[w.heap.size]? → V.cell? ⟨g, 7, none⟩ = some (.map (some gi)) ∧ V.cell? ⟨w.heap.size, 0, none⟩ = some (.int .u64 id) ∧ MpB V gi (idL l)) := Lib.hid (fun V hV => ⟨Blk.cell (show Blk V g _ _ from hV.1.trans HMW.out.blk) 7, Blk.cell (show Blk V w.heap.size _ _ from hV.2.2.trans HB0.out) 0, HMW.out.ix.keep hV.2.1⟩)
   go_enter Tryz.func37, Tryz.ntmps37
   go_wp2_with fail
   rw [HW.out]
   refine wp_region_last 11 (fun V => V.cell? ⟨g, 7, none⟩ = some (.map (some gi)) ∧ V.cell? ⟨w.heap.size, 0, none⟩ = some (.int .u64 id) ∧ MpB V gi (idL l)) (by kernel_rfl) (by kernel_rfl) ?_
   have hHeld := HS.out W.drew ⟨rfl, rfl, rfl⟩
   refine GT.tk1 0 hHeld ?_
   refine GT.tk1 1 hHeld ?_
   refine GT.tk1 2 hHeld ?_
   refine GT.tk1 3 hHeld ?_
   refine GT.tk1 4 hHeld ?_
   refine GT.tk1 5 hHeld ?_
   refine GT.tk1 6 (v := .tuple #[.agg #[.int .u64 a0, .string a1, .string a2, .int .i64 a3, .int .i64 a4, .slice A n cap, .int .i64 a6], .bool b]) hHeld ?_ (hy := by refine Or.inl ⟨by rfl, ?_⟩; intro V hV; have hl := HLK.out V hV.2.2; go_simp)
   refine GT.tk1 7 hHeld ?_
   refine GT.tk1 8 hHeld ?_
   refine GT.tk1 9 hHeld ?_
   obtain ⟨z_0, z_1, z_2, z_3, z_4, z_5, z_6⟩ := blk7 HB2.out
   obtain ⟨z_f0, z_f1, z_f2, z_f3, z_f4, z_f5, z_f6⟩ := blk7f HB2.out
   refine GT.st1 10 (fun K hK => ?_)
   go_simp
   obtain ⟨W2, hW2⟩ : ∃ W2, put7 W (w.heap.size + 1 + 1) (.int .u64 a0) (.string a1) (.string a2) (.int .i64 a3) (.int .i64 a4) (.slice A n cap) (.int .i64 a6) = W2 := ⟨_, rfl⟩
   have hY2 : Blk W2 (w.heap.size + 1 + 1) 83 #[.int .u64 a0, .string a1, .string a2, .int .i64 a3, .int .i64 a4, .slice A n cap, .int .i64 a6] := by rw [← hW2]; exact put7_blk HB2.out _ _ _ _ _ _ _
   have ho2 : Only [w.heap.size + 1 + 1] W W2 := by rw [← hW2]; exact put7_only W _ _ _ _ _ _ _ _
   have hX2 := HB1.out.only ho2 (by simp)
   have HBL : Hid (Below w.heap.size w W2) := Lib.hid (HBW.out.trans (ho2.below (by have := HBW.out.size; omega) (by simp; omega)))
   have hk2 : W2.drew.heap[g]? = W.heap[g]? ∧ W2.drew.heap[gi]? = W.heap[gi]? ∧ W2.drew.heap[w.heap.size]? = W.heap[w.heap.size]? := ⟨ho2.block _ (by have := HBW.out.size; omega) (by simp; omega), ho2.block _ (by have := HBW.out.size; omega) (by simp; omega), ho2.block _ (by have := HB0.out.lt; omega) (by simp; omega)⟩
   unfold put7 at hW2
   rw [hW2]
   refine hK.out _ _ (HS.out W2.drew hk2) (fun hHeld => ?_)
   clear hK K
   try simp only [Act.put, List.setIfInBounds_toArray, List.set_cons_zero, List.set_cons_succ]
   refine GT.la1 11 ?_
   go_simp
   clear z_0 z_1 z_2 z_3 z_4 z_5 z_6 z_f0 z_f1 z_f2 z_f3 z_f4 z_f5 z_f6 hW2 hk2 ho2
   obtain ⟨y_0, y_1, y_2, y_3, y_4, y_5, y_6⟩ := blk7 hY2
   obtain ⟨y_f0, y_f1, y_f2, y_f3, y_f4, y_f5, y_f6⟩ := blk7f hY2
   obtain ⟨x_0, x_1, x_2, x_3, x_4, x_5, x_6⟩ := blk7 hX2
   obtain ⟨x_f0, x_f1, x_f2, x_f3, x_f4, x_f5, x_f6⟩ := blk7f hX2
   go_wp2
   obtain ⟨r0, r1, r2, r3, r4, r5, r6⟩ := put7_part hX2 (.int .u64 a0) (.string a1) (.string a2) (.int .i64 a3) (.int .i64 a4) (.slice A n cap) (.int .i64 a6)
   refine bodyPost_ret (v := .tuple #[.agg #[.int .u64 a0, .string a1, .string a2, .int .i64 a3, .int .i64 a4, .slice A n cap, .int .i64 a6], .bool b]) (by simp [results, Tryz.results37, go_sem, r0, r1, r2, r3, r4, r5, r6]) rfl ?_
   exact ⟨(HBL.out.trans ((put7_only W2 (w.heap.size + 1) _ _ _ _ _ _ _).below HBL.out.size (by simp))).drew, _, _, _, _, _, _, _, _, _, _, rfl, (by rw [HBF.out]; exact HRW.out)⟩
  ·have HBF := Lib.hid (byFrame_no hc (entsOf l) ⟨id, nm, body⟩ hz)
   clear h hc hz
   go_enter Tryz.func37, Tryz.ntmps37
   go_wp2_with fail
   rw [HW.out]
   obtain ⟨y_0, y_1, y_2, y_3, y_4, y_5, y_6⟩ := blk7 HB2.out
   obtain ⟨y_f0, y_f1, y_f2, y_f3, y_f4, y_f5, y_f6⟩ := blk7f HB2.out
   obtain ⟨x_0, x_1, x_2, x_3, x_4, x_5, x_6⟩ := blk7 HB1.out
   obtain ⟨x_f0, x_f1, x_f2, x_f3, x_f4, x_f5, x_f6⟩ := blk7f HB1.out
   go_wp2
   refine bodyPost_ret (v := .tuple #[noRw, .bool false]) (by simp [noRw, results, Tryz.results37, go_sem, x_0, x_1, x_2, x_3, x_4, x_5, x_6]) rfl ?_
   exact ⟨HBW.out, 0, _, _, _, _, _, _, _, _, _, rfl, by rw [HBF.out]; exact .inl ⟨rfl, rfl, rfl⟩⟩
end Go.Proofs.YtnfpgadegpmhkaaGreatDoor
