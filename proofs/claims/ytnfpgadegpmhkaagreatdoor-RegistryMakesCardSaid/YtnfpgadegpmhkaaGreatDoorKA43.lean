/- package registry: add. -/
import Derived.Test.YtnfpgadegpmhkaaGreatDoorKA36
import Derived.Test.YtnfpgadegpmhkaaGreatDoorKA38
import Derived.Test.YtnfpgadegpmhkaaGreatDoorKA22
import Derived.Test.YtnfpgadegpmhkaaGreatDoorKA42
import Derived.Test.YtnfpgadegpmhkaaGreatDoorKA4
import Derived.Test.YtnfpgadegpmhkaaGreatDoorKA44
import Derived.Test.YtnfpgadegpmhkaaGreatDoorKA40
import Derived.Test.YtnfpgadegpmhkaaGreatDoorKA10
import Derived.Test.YtnfpgadegpmhkaaGreatDoorKA45
import Derived.Test.YtnfpgadegpmhkaaGreatDoorKA26
import Derived.Test.YtnfpgadegpmhkaaGreatDoorKA47
import Derived.Test.YtnfpgadegpmhkaaGreatDoorKA48
import Derived.Test.YtnfpgadegpmhkaaGreatDoorKA41
import Derived.Test.YtnfpgadegpmhkaaGreatDoorKA15
set_option linter.unusedVariables false
set_option linter.unusedSimpArgs false
set_option maxRecDepth 100000
set_option maxHeartbeats 16000000
namespace Go.Proofs.YtnfpgadegpmhkaaGreatDoor
open Go.RowKit
theorem RgM.put {w w' : World} {lo hi g gn gi : Nat} {c : Cfg} {l : List RgRow} (h : RgM w lo hi g gn gi c l) (ho : Only [gn, gi] w w') (hz : w'.heap.size = w.heap.size) {e : Ent} {v : Value} (h1 : MpB w' gn (nmL (l ++ [(e, v)]))) (h2 : MpB w' gi (idL (l ++ [(e, v)]))) (hv : RwS w (fun k => g < k ∧ k < w.heap.size) (e, v)) (he : entE c (entsOf l) e = 0) (hs : EntOk e) : RgM w' lo w'.heap.size g gn gi c (l ++ [(e, v)]) where
 blk := h.blk.only ho (by have := h.n2; have := h.i2; simp; omega)
 nm := h1
 ix := h2
 n1 := h.n1
 n2 := h.n2
 i1 := h.i1
 i2 := h.i2
 ne := h.ne
 g2 := by have := h.g2; have := h.his; omega
 his := Nat.le_refl _
 rows := fun r hr => by
  have key : RwS w (fun k => g < k ∧ k < w.heap.size) r := by
   rcases List.mem_append.1 hr with hr | hr
   ·exact (h.rows r hr).keep (fun k _ hS => ⟨hS.1, by have := hS.2; have := h.his; omega⟩) (fun _ _ _ => rfl)
   ·obtain rfl := List.mem_singleton.1 hr; exact hv
  exact key.keep (fun k _ hS => ⟨hS.1, by have := hS.2; omega⟩) fun p hp hS => ho.cell hp (by have := hS.1; have := h.n2; have := h.i2; simp; omega)
 ok := by
  have : entsOf (l ++ [(e, v)]) = entsOf l ++ [e] := by simp [entsOf]
  rw [this]
  exact h.ok.snoc he
 sz := fun r hr => by
  rcases List.mem_append.1 hr with hr | hr
  ·exact h.sz r hr
  ·obtain rfl := List.mem_singleton.1 hr; exact hs
def AdEnd (w : World) (lo g gn gi : Nat) (c : Cfg) (l : List RgRow) (e : Ent) (en : Ending) (w' : World) : Prop :=
 en = .returned (.int .i64 (entE c (entsOf l) e)) ∧ Only [gn, gi] w w' ∧ (entE c (entsOf l) e = 0 → ∃ v, RgM w' lo w'.heap.size g gn gi c (l ++ [(e, v)]))
theorem adEnd_bad {w w' : World} {lo g gn gi : Nat} {c : Cfg} {l : List RgRow} {e : Ent} {E : Int} (h : entE c (entsOf l) e = E) (hE : E ≠ 0) (ho : Only [gn, gi] w w') : AdEnd w lo g gn gi c l e (.returned (.int .i64 E)) w' := ⟨by rw [h], ho, fun h0 => absurd (h.symm.trans h0) hE⟩
theorem only_of_below {w w' : World} {L : List Nat} (h : Below w.heap.size w w') : Only L w w' := (Only.of_below h (Nat.le_refl _)).mono (by simp)
theorem nm_new {c : Cfg} {l : List RgRow} (h : EntsOk c (entsOf l)) {nm : ByteArray} (hn : ∀ x ∈ entsOf l, x.name ≠ nm) : Instr.findNow .string (.string nm) (mE (nmL l) 0) 0 = some none := by
 rcases name_find h nm with ⟨h1, _⟩ | ⟨j, r, _, hl, hr, _⟩
 ·exact h1
 ·exact absurd hr (hn r.1 (List.mem_map.2 ⟨r, List.mem_of_getElem? hl, rfl⟩))
theorem ix_new {c : Cfg} {l : List RgRow} (h : EntsOk c (entsOf l)) {id : Nat} (hn : ∀ x ∈ entsOf l, x.id ≠ id) : Instr.findNow (.int .u64) (.int .u64 id) (mE (idL l) 0) 0 = some none := by
 rcases id_find h id _ (fun _ => rfl) with ⟨h1, _⟩ | ⟨j, r, _, hl, hr, _⟩
 ·exact h1
 ·exact absurd hr (hn r.1 (List.mem_map.2 ⟨r, List.mem_of_getElem? hl, rfl⟩))
theorem mem_any {l : List RgRow} {p : Ent → Bool} {a0 : Nat} {a1 a2 : ByteArray} {a3 a4 : Int} {A : Option Addr} {n cap : Nat} {a6 : Int} {b : Bool} (h : Row7 l ((entsOf l).find? p) a0 a1 a2 a3 a4 A n cap a6 b) : (entsOf l).any p = b := by
 rcases h with ⟨h1, rfl, _⟩ | ⟨r, _, h1, rfl, _⟩
 ·exact any_of_none h1
 ·exact any_of_some h1
theorem rgAdd_c (lo hi g gn gi : Nat) (c : Cfg) (l : List RgRow) (e : Ent) (w : World) (h : RgM w lo hi g gn gi c l) (hL : Laid w) (hg : 1 < lo) (hs : EntOk e) :
 Calls Tryz.prog 31 #[.pointer (some ⟨g, 0, none⟩), .agg #[.int .u64 e.id, .string e.name, .string e.ty]] w fun en w' => AdEnd w lo g gn gi c l e en w' := by
 obtain ⟨g0, g6, g7, _, _⟩ := h.cells
 have hgw : g < w.heap.size := Nat.lt_of_lt_of_le h.g2 h.his
 have hnw : gn < w.heap.size := h.nm.lt
 have hiw : gi < w.heap.size := h.ix.lt
 obtain ⟨W, hW⟩ : ∃ W, w.alloc (.cells #[.int .u64 e.id, .string e.name, .string e.ty] 52) = W := ⟨_, rfl⟩
 have hbW : Below w.heap.size w W := by rw [← hW]; exact (Below.refl _ w).alloc (Nat.le_refl _) _
 have hzW : W.heap.size = w.heap.size + 1 := by rw [← hW]; simp
 have hB0 : Blk W w.heap.size 52 #[.int .u64 e.id, .string e.name, .string e.ty] := by rw [← hW]; exact Blk.new w _ _
 obtain ⟨a0, a1, a2, a3, a4, A, n, cap, a6, b, hrw, hlk⟩ := row7_nm h e.name
 have hany := mem_any hrw
 have HMW := Lib.hid (h.below (hbW.mono h.his))
 have HLK := Lib.hid hlk
 have HS : Hid (∀ V : World, V.heap[g]? = W.heap[g]? ∧ V.heap[gn]? = W.heap[gn]? ∧ V.heap[w.heap.size]? = W.heap[w.heap.size]? → V.cell? ⟨g, 6, none⟩ = some (.map (some gn)) ∧ V.cell? ⟨w.heap.size, 1, none⟩ = some (.string e.name) ∧ MpB V gn (nmL l)) := Lib.hid (fun V hV => ⟨Blk.cell (show Blk V g _ _ from hV.1.trans HMW.out.blk) 6, Blk.cell (show Blk V w.heap.size _ _ from hV.2.2.trans hB0) 1, HMW.out.nm.keep hV.2.1⟩)
 have HH := Lib.hid h
 have HB0 := Lib.hid hB0
 have HBW := Lib.hid hbW
 have HW := Lib.hid hW
 have HLW := Lib.hid (hL.below hbW hL.pos)
 have HEN : Hid (entE c (entsOf l) e = if nmMay e.name = false then 11 else if ((entsOf l).any fun x => decide (x.name = e.name)) = true then 11 else if ((entsOf l).any fun x => decide (x.id = e.id)) = true then 1
  else if readTy e.ty.data.toList = none then 3 else if c.fm = 1 ∧ e.shape.flat = false then 12 else 0) := Lib.hid rfl
 rw [show ((entsOf l).any fun x => decide (x.name = e.name)) = b from hany] at HEN
 have HSZ := Lib.hid hs
 have hns := hs.name
 have hts := hs.ty
 have HMY := Lib.hid (fun V => cmdMay_c e.name V (by omega))
 clear h hL hW hbW hB0 hrw hlk hany hs
 go_enter Tryz.func31, Tryz.ntmps31
 go_wp2_with fail
 rw [HW.out]
 refine wp_region_last 12 (fun V => V.cell? ⟨g, 6, none⟩ = some (.map (some gn)) ∧ V.cell? ⟨w.heap.size, 1, none⟩ = some (.string e.name) ∧ MpB V gn (nmL l)) (by kernel_rfl) (by kernel_rfl) ?_
 have hHeld := HS.out W.drew ⟨rfl, rfl, rfl⟩
 refine GT.tk1 0 hHeld ?_
 refine GT.tk1 1 hHeld ?_
 refine GT.tk1 2 hHeld ?_
 refine GT.tk1 3 hHeld ?_
 refine GT.tk1 4 hHeld ?_
 refine GT.tk1 5 hHeld ?_
 refine GT.tk1 6 (v := .tuple #[.agg #[.int .u64 a0, .string a1, .string a2, .int .i64 a3, .int .i64 a4, .slice A n cap, .int .i64 a6], .bool b]) hHeld ?_ (hy := by refine Or.inl ⟨by rfl, ?_⟩; intro V hV; have hl := HLK.out V hV.2.2; go_simp)
 refine GT.tk1 7 hHeld ?_
 refine GT.tk1 8 hHeld ?_
 refine GT.tk1 9 hHeld ?_
 refine GT.st1 10 (fun K hK => ?_)
 go_simp
 refine hK.out _ _ (HS.out _ ⟨heap_alloc_old _ _ (by omega), heap_alloc_old _ _ (by omega), heap_alloc_old _ _ (by omega)⟩) (fun hHeld => ?_)
 clear hK K
 try simp only [Act.put, List.setIfInBounds_toArray, List.set_cons_zero, List.set_cons_succ]
 refine GT.st1 11 (fun K hK => ?_)
 go_simp
 refine hK.out _ _ (HS.out _ ⟨heap_alloc_old _ _ (by omega), heap_alloc_old _ _ (by omega), heap_alloc_old _ _ (by omega)⟩) (fun hHeld => ?_)
 clear hK K
 try simp only [Act.put, List.setIfInBounds_toArray, List.set_cons_zero, List.set_cons_succ]
 refine GT.la1 12 ?_
 go_simp
 obtain ⟨W2, hW2⟩ : ∃ W2, (W.alloc (.cells #[.int .u64 a0, .string a1, .string a2, .int .i64 a3, .int .i64 a4, .slice A n cap, .int .i64 a6] 83)).drew = W2 := ⟨_, rfl⟩
 have hb2 : Below W.heap.size W W2 := by rw [← hW2]; exact ((Below.refl _ W).alloc (Nat.le_refl _) _).drew
 have HBL := Lib.hid (HBW.out.trans (hb2.mono (by omega)))
 have HB2 := Lib.hid (HB0.out.keep hb2 (by omega))
 have HL2 := Lib.hid (HLW.out.below hb2 HLW.out.pos)
 have HM2 := Lib.hid (HMW.out.below (hb2.mono HMW.out.his))
 rw [hW2]
 clear hW2 hb2 HLK HS hHeld HB0 HLW HMW HBW
 obtain ⟨u0, u1, u2, uf0, uf1, uf2⟩ := blk3 HB2.out
 cases b with
 | true =>
  have hE : entE c (entsOf l) e = 11 := by rw [HEN.out]; split <;> rfl
  go_wp2
  go_ret
  exact adEnd_bad hE (by decide) (only_of_below HBL.out)
 | false =>
  rw [if_neg (show ¬ (false = true) by simp)] at HEN
  go_wp2_with fail
  refine (HMY.out _).mono ?_
  rintro en w' ⟨rfl, rfl⟩
  cases hmy : nmMay e.name with
  | false =>
   have hE : entE c (entsOf l) e = 11 := by rw [HEN.out, if_pos hmy]
   go_wp2
   go_ret
   exact adEnd_bad hE (by decide) (only_of_below HBL.out)
  | true =>
   rw [if_neg (by simp [hmy])] at HEN
   obtain ⟨a0, a1, a2, a3, a4, A, n, cap, a6, b, hrw, hlk⟩ := row7_ix HM2.out e.id
   rw [show ((entsOf l).any fun x => decide (x.id = e.id)) = b from mem_any hrw] at HEN
   have HLK := Lib.hid hlk
   have HS : Hid (∀ V : World, V.heap[g]? = W2.heap[g]? ∧ V.heap[gi]? = W2.heap[gi]? ∧ V.heap[w.heap.size]? = W2.heap[w.heap.size]? → V.cell? ⟨g, 7, none⟩ = some (.map (some gi)) ∧ V.cell? ⟨w.heap.size, 0, none⟩ = some (.int .u64 e.id) ∧ MpB V gi (idL l)) := Lib.hid (fun V hV => ⟨Blk.cell (show Blk V g _ _ from hV.1.trans HM2.out.blk) 7, Blk.cell (show Blk V w.heap.size _ _ from hV.2.2.trans HB2.out) 0, HM2.out.ix.keep hV.2.1⟩)
   have hzb := HBL.out.size
   clear hrw hlk u0 u1 u2 uf0 uf1 uf2 hmy
   go_wp2_with fail
   refine wp_region_last 12 (fun V => V.cell? ⟨g, 7, none⟩ = some (.map (some gi)) ∧ V.cell? ⟨w.heap.size, 0, none⟩ = some (.int .u64 e.id) ∧ MpB V gi (idL l)) (by kernel_rfl) (by kernel_rfl) ?_
   have hHeld := HS.out W2.drew ⟨rfl, rfl, rfl⟩
   have hwl : w.heap.size < W2.heap.size := HB2.out.lt
   refine GT.tk1 0 hHeld ?_
   refine GT.tk1 1 hHeld ?_
   refine GT.tk1 2 hHeld ?_
   refine GT.tk1 3 hHeld ?_
   refine GT.tk1 4 hHeld ?_
   refine GT.tk1 5 hHeld ?_
   refine GT.tk1 6 (v := .tuple #[.agg #[.int .u64 a0, .string a1, .string a2, .int .i64 a3, .int .i64 a4, .slice A n cap, .int .i64 a6], .bool b]) hHeld ?_ (hy := by refine Or.inl ⟨by rfl, ?_⟩; intro V hV; have hl := HLK.out V hV.2.2; go_simp)
   refine GT.tk1 7 hHeld ?_
   refine GT.tk1 8 hHeld ?_
   refine GT.tk1 9 hHeld ?_
   refine GT.st1 10 (fun K hK => ?_)
   go_simp
   refine hK.out _ _ (HS.out _ ⟨heap_alloc_old _ _ (by omega), heap_alloc_old _ _ (by omega), heap_alloc_old _ _ (by omega)⟩) (fun hHeld => ?_)
   clear hK K
   try simp only [Act.put, List.setIfInBounds_toArray, List.set_cons_zero, List.set_cons_succ]
   refine GT.st1 11 (fun K hK => ?_)
   go_simp
   refine hK.out _ _ (HS.out _ ⟨heap_alloc_old _ _ (by omega), heap_alloc_old _ _ (by omega), heap_alloc_old _ _ (by omega)⟩) (fun hHeld => ?_)
   clear hK K
   try simp only [Act.put, List.setIfInBounds_toArray, List.set_cons_zero, List.set_cons_succ]
   refine GT.la1 12 ?_
   go_simp
   obtain ⟨W4, hW4⟩ : ∃ W4, (W2.alloc (.cells #[.int .u64 a0, .string a1, .string a2, .int .i64 a3, .int .i64 a4, .slice A n cap, .int .i64 a6] 83)).drew = W4 := ⟨_, rfl⟩
   have hb4 : Below W2.heap.size W2 W4 := by rw [← hW4]; exact ((Below.refl _ W2).alloc (Nat.le_refl _) _).drew
   have HBL4 := Lib.hid (HBL.out.trans (hb4.mono (by omega)))
   have HB4 := Lib.hid (HB2.out.keep hb4 (by omega))
   have HL4 := Lib.hid (HL2.out.below hb4 HL2.out.pos)
   have HM4 := Lib.hid (HM2.out.below (hb4.mono HM2.out.his))
   rw [hW4]
   clear hW4 hb4 HLK HS hHeld HB2 HL2 HM2 HBL
   obtain ⟨u0, u1, u2, uf0, uf1, uf2⟩ := blk3 HB4.out
   cases b with
   | true =>
    have hE : entE c (entsOf l) e = 1 := by rw [HEN.out, if_pos rfl]
    go_wp2
    go_ret
    exact adEnd_bad hE (by decide) (only_of_below HBL4.out)
   | false =>
    rw [if_neg (show ¬ (false = true) by simp)] at HEN
    have HG := Lib.hid (scGet_c e.ty W4 (by omega) HL4.out)
    go_wp2_with fail
    refine HG.out.mono ?_
    rintro en w5 hend
    obtain ⟨T, hT⟩ : ∃ T, readTy e.ty.data.toList = T := ⟨_, rfl⟩
    rw [hT] at hend HEN
    cases T with
    | none =>
     obtain ⟨hb5, rfl⟩ := hend
     have hE : entE c (entsOf l) e = 3 := by rw [HEN.out, if_pos rfl]
     have HB5 := Lib.hid (HBL4.out.trans (hb5.mono HBL4.out.size))
     clear hb5 hT
     go_wp2
     go_ret
     exact adEnd_bad hE (by decide) (only_of_below (HB5.out.alloc HB5.out.size _))
    | some t =>
     obtain ⟨hb5, d0, d1, d2, d3, rfl, hty⟩ := hend
     have hsh : e.shape = t := by unfold Ent.shape; rw [hT]; rfl
     rw [if_neg (by simp), hsh] at HEN
     obtain ⟨A5, cap5, rfl, rfl, rfl, rfl, _⟩ := hty.open_
     have hzb4 := HBL4.out.size
     have hB5 := HB4.out.keep hb5 (by have := HB4.out.lt; omega)
     have hM5 := HM4.out.below (hb5.mono HM4.out.his)
     have g05 := hM5.cells.1
     have hg5 : g < w5.heap.size := Nat.lt_of_lt_of_le hM5.g2 hM5.his
     have hb6 : Below w5.heap.size w5 (w5.alloc (.cells #[.int .i64 t.kind, .int .i64 t.size, .slice A5 t.sub.length cap5, .int .i64 t.tail] 55)) := (Below.refl _ w5).alloc (Nat.le_refl _) _
     have HBL6 := Lib.hid ((HBL4.out.trans (hb5.mono hzb4)).trans (hb6.mono (by have := hb5.size; omega)))
     have HB6 := Lib.hid (hB5.keep hb6 hB5.lt)
     have HM6 := Lib.hid (hM5.below (hb6.mono hM5.his))
     have HT6 := Lib.hid (Blk.new w5 55 #[.int .i64 t.kind, .int .i64 t.size, .slice A5 t.sub.length cap5, .int .i64 t.tail])
     have HY6 := Lib.hid (hty.below hb6)
     have hL5 := HL4.out.below hb5 HL4.out.pos
     have HF := Lib.hid (flat_c t _ _ _ _ _ _ HY6.out.toIn (Nat.le_refl _) (hL5.below hb6 hL5.pos))
     have hz5 := hb5.size
     have hwl5 : w.heap.size < w5.heap.size := hB5.lt
     clear u0 u1 u2 uf0 uf1 uf2 hb5 hT HB4 HM4 hty hB5 hM5 hb6 hL5
     by_cases hc : c.fm = 1
     ·have hf1 : ((c.fm : Int) == 1) = true := beq_iff_eq.2 hc
      go_wp2_with fail
      refine HF.out.mono ?_
      rintro en w7 ⟨rfl, hb7⟩
      have hz7 := hb7.size
      simp only [World.size_alloc] at hz7
      have HBL7 := Lib.hid (HBL6.out.trans (hb7.mono HBL6.out.size))
      have HB7 := Lib.hid (HB6.out.keep hb7 HB6.out.lt)
      have HM7 := Lib.hid (HM6.out.below (hb7.mono HM6.out.his))
      have HT7 := Lib.hid (HT6.out.keep hb7 HT6.out.lt)
      have HY7 := Lib.hid (HY6.out.below hb7)
      clear hb7 HF HM6 HB6 HT6 HY6 g05
      cases hfl : t.flat with
      | false =>
       have hE : entE c (entsOf l) e = 12 := by rw [HEN.out, if_pos ⟨hc, hfl⟩]
       go_wp2
       go_ret
       exact adEnd_bad hE (by decide) (only_of_below HBL7.out)
      | true =>
       have hE : entE c (entsOf l) e = 0 := by rw [HEN.out, if_neg (by simp [hfl])]
       obtain ⟨W7, rfl⟩ : ∃ W7, W7 = w7 := ⟨w7, rfl⟩
       clear hfl hc
       go_wp2_with fail
       obtain ⟨z1, z2, z3, z4, z5⟩ := entE_zero hE
       have hput1 := put_new (P := Tryz.prog) (T := 73) (w := W7.drew) (HM7.out.nm.keep rfl) Tryz.underlying73 Tryz.underlying9 (by simp [MapKept.IsKey]) (nm_new HM7.out.ok z2) (.agg #[.int .u64 e.id, .string e.name, .string e.ty, .int .i64 t.kind, .int .i64 t.size, .slice A5 t.sub.length cap5, .int .i64 t.tail])
       have hput2 := fun (V : World) (hV : MpB V gi (idL l)) => put_new (P := Tryz.prog) (T := 74) (w := V) hV Tryz.underlying74 Tryz.underlying38 (by simp [MapKept.IsKey]) (ix_new HM7.out.ok z3) (.agg #[.int .u64 e.id, .string e.name, .string e.ty, .int .i64 t.kind, .int .i64 t.size, .slice A5 t.sub.length cap5, .int .i64 t.tail])
       have HP2 := Lib.hid hput2
       clear z1 z2 z3 z4 z5 hput2
       obtain ⟨b0, b1, b2, _⟩ := blk3 HB7.out.drew
       obtain ⟨t0, t1, t2, t3, _⟩ := blk4 HT7.out.drew
       have gc6 : W7.drew.cell? ⟨g, 6, none⟩ = some (.map (some gn)) := (Blk.drew HM7.out.blk).cell 6
       refine wp_region_last 9 (fun V => V.cell? ⟨g, 6, none⟩ = some (.map (some gn)) ∧ V.cell? ⟨w.heap.size, 0, none⟩ = some (.int .u64 e.id) ∧ V.cell? ⟨w.heap.size, 1, none⟩ = some (.string e.name) ∧ V.cell? ⟨w.heap.size, 2, none⟩ = some (.string e.ty) ∧ V.cell? ⟨w5.heap.size, 0, none⟩ = some (.int .i64 t.kind) ∧ V.cell? ⟨w5.heap.size, 1, none⟩ = some (.int .i64 t.size) ∧ V.cell? ⟨w5.heap.size, 2, none⟩ = some (.slice A5 t.sub.length cap5) ∧ V.cell? ⟨w5.heap.size, 3, none⟩ = some (.int .i64 t.tail)) (by kernel_rfl) (by kernel_rfl) ?_
       have hHeld := And.intro gc6 (And.intro b0 (And.intro b1 (And.intro b2 (And.intro t0 (And.intro t1 (And.intro t2 t3))))))
       clear b0 b1 b2 t0 t1 t2 t3 gc6
       refine GT.tk1 0 hHeld ?_
       refine GT.tk1 1 hHeld ?_
       refine GT.tk1 2 hHeld ?_
       refine GT.tk1 3 hHeld ?_
       refine GT.tk1 4 hHeld ?_
       refine GT.tk1 5 hHeld ?_
       refine GT.tk1 6 hHeld ?_
       refine GT.tk1 7 hHeld ?_
       refine GT.tk1 8 hHeld ?_
       refine GT.la1 9 ?_
       go_simp
       obtain ⟨W8, hW8⟩ : ∃ W8, mpPut W7.drew gn (nmL l) (.string e.name) (.agg #[.int .u64 e.id, .string e.name, .string e.ty, .int .i64 t.kind, .int .i64 t.size, .slice A5 t.sub.length cap5, .int .i64 t.tail]) = W8 := ⟨_, rfl⟩
       have hm8 : MpB W8 gn (nmL l ++ [(.string e.name, (.agg #[.int .u64 e.id, .string e.name, .string e.ty, .int .i64 t.kind, .int .i64 t.size, .slice A5 t.sub.length cap5, .int .i64 t.tail]))]) := by rw [← hW8]; exact mpPut_block (HM7.out.nm.keep rfl) _ _
       have ho8 : Only [gn] W7 W8 := by rw [← hW8]; exact (Only.refl [gn] W7).drew.trans (mpPut_only _ _ _ _ _)
       have hz8 : W8.heap.size = W7.heap.size := by rw [← hW8]; simp [mpPut]
       rw [hW8]
       have hgn := HM7.out.n2
       have hgi := HM7.out.i2
       have hne := HM7.out.ne
       have hB8 := (HB7.out.only ho8 (by simp; omega)).drew
       have hT8 := (HT7.out.only ho8 (by simp; omega)).drew
       have hG8 := Blk.drew (HM7.out.blk.only ho8 (by simp; omega))
       have hI8 : MpB W8.drew gi (idL l) := (HM7.out.ix.only ho8 (by simp; omega)).keep rfl
       have hput2 := HP2.out W8.drew hI8
       obtain ⟨b0, b1, b2, _⟩ := blk3 hB8
       obtain ⟨t0, t1, t2, t3, _⟩ := blk4 hT8
       have gc7 : W8.drew.cell? ⟨g, 7, none⟩ = some (.map (some gi)) := hG8.cell 7
       have HM8 := Lib.hid hm8
       have HO8 := Lib.hid ho8
       have HZ8 := Lib.hid hz8
       have HI8 := Lib.hid hI8
       clear hHeld hW8 hm8 ho8 hz8 hput1 hB8 hT8 hG8 hI8
       go_wp2_with fail
       refine wp_region_last 9 (fun V => V.cell? ⟨g, 7, none⟩ = some (.map (some gi)) ∧ V.cell? ⟨w.heap.size, 0, none⟩ = some (.int .u64 e.id) ∧ V.cell? ⟨w.heap.size, 1, none⟩ = some (.string e.name) ∧ V.cell? ⟨w.heap.size, 2, none⟩ = some (.string e.ty) ∧ V.cell? ⟨w5.heap.size, 0, none⟩ = some (.int .i64 t.kind) ∧ V.cell? ⟨w5.heap.size, 1, none⟩ = some (.int .i64 t.size) ∧ V.cell? ⟨w5.heap.size, 2, none⟩ = some (.slice A5 t.sub.length cap5) ∧ V.cell? ⟨w5.heap.size, 3, none⟩ = some (.int .i64 t.tail)) (by kernel_rfl) (by kernel_rfl) ?_
       have hHeld := And.intro gc7 (And.intro b0 (And.intro b1 (And.intro b2 (And.intro t0 (And.intro t1 (And.intro t2 t3))))))
       clear b0 b1 b2 t0 t1 t2 t3 gc7
       refine GT.tk1 0 hHeld ?_
       refine GT.tk1 1 hHeld ?_
       refine GT.tk1 2 hHeld ?_
       refine GT.tk1 3 hHeld ?_
       refine GT.tk1 4 hHeld ?_
       refine GT.tk1 5 hHeld ?_
       refine GT.tk1 6 hHeld ?_
       refine GT.tk1 7 hHeld ?_
       refine GT.tk1 8 hHeld ?_
       refine GT.la1 9 ?_
       go_simp
       clear hput2
       obtain ⟨W9, hW9⟩ : ∃ W9, mpPut W8.drew gi (idL l) (.int .u64 e.id) (.agg #[.int .u64 e.id, .string e.name, .string e.ty, .int .i64 t.kind, .int .i64 t.size, .slice A5 t.sub.length cap5, .int .i64 t.tail]) = W9 := ⟨_, rfl⟩
       have hm9 : MpB W9 gi (idL l ++ [(.int .u64 e.id, (.agg #[.int .u64 e.id, .string e.name, .string e.ty, .int .i64 t.kind, .int .i64 t.size, .slice A5 t.sub.length cap5, .int .i64 t.tail]))]) := by rw [← hW9]; exact mpPut_block HI8.out _ _
       have ho9 : Only [gi] W8 W9 := by rw [← hW9]; exact (Only.refl [gi] W8).drew.trans (mpPut_only _ _ _ _ _)
       have hz9 : W9.heap.size = W7.heap.size := by rw [← HZ8.out, ← hW9]; simp [mpPut]
       rw [hW9]
       have hn9 := HM8.out.only ho9 (by simp; omega)
       have HOO : Hid (Only [gn, gi] W7 W9) := Lib.hid ((HO8.out.mono (by simp)).trans (ho9.mono (by simp)))
       have HQ : Hid (∃ v, RgM W9 lo W9.heap.size g gn gi c (l ++ [(e, v)])) := Lib.hid ⟨_, HM7.out.put HOO.out hz9 (by simpa [nmL] using hn9) (by simpa [idL] using hm9) ⟨_, _, _, _, rfl, by
        show TyS W7 _ e.shape _ _ _ _
        rw [hsh]
        exact HY7.out.weak (fun k hk hS => ⟨by have hS : W4.heap.size ≤ k := hS; omega, hk⟩)⟩ hE HSZ.out⟩
       clear hW9 hm9 ho9 hz9 hn9 hHeld
       go_wp2
       go_ret
       exact ⟨by rw [hE]; rfl, (only_of_below HBL7.out).trans HOO.out, fun _ => HQ.out⟩
     ·have hf1 : ((c.fm : Int) == 1) = false := beq_eq_false_iff_ne.2 hc
      have hE : entE c (entsOf l) e = 0 := by rw [HEN.out, if_neg (by simp [hc])]
      obtain ⟨W7, hW7⟩ : ∃ W7, w5.alloc (.cells #[.int .i64 t.kind, .int .i64 t.size, .slice A5 t.sub.length cap5, .int .i64 t.tail] 55) = W7 := ⟨_, rfl⟩
      rw [hW7] at HBL6 HB6 HM6 HT6 HY6
      have HW7 := Lib.hid hW7
      have HBL7 := HBL6
      have HB7 := HB6
      have HM7 := HM6
      have HT7 := HT6
      have HY7 := HY6
      clear HF hc hW7 HBL6 HB6 HM6 HT6 HY6
      go_wp2_with fail
      rw [HW7.out]
      clear g05
      obtain ⟨z1, z2, z3, z4, z5⟩ := entE_zero hE
      have hput1 := put_new (P := Tryz.prog) (T := 73) (w := W7.drew) (HM7.out.nm.keep rfl) Tryz.underlying73 Tryz.underlying9 (by simp [MapKept.IsKey]) (nm_new HM7.out.ok z2) (.agg #[.int .u64 e.id, .string e.name, .string e.ty, .int .i64 t.kind, .int .i64 t.size, .slice A5 t.sub.length cap5, .int .i64 t.tail])
      have hput2 := fun (V : World) (hV : MpB V gi (idL l)) => put_new (P := Tryz.prog) (T := 74) (w := V) hV Tryz.underlying74 Tryz.underlying38 (by simp [MapKept.IsKey]) (ix_new HM7.out.ok z3) (.agg #[.int .u64 e.id, .string e.name, .string e.ty, .int .i64 t.kind, .int .i64 t.size, .slice A5 t.sub.length cap5, .int .i64 t.tail])
      have HP2 := Lib.hid hput2
      clear z1 z2 z3 z4 z5 hput2
      obtain ⟨b0, b1, b2, _⟩ := blk3 HB7.out.drew
      obtain ⟨t0, t1, t2, t3, _⟩ := blk4 HT7.out.drew
      have gc6 : W7.drew.cell? ⟨g, 6, none⟩ = some (.map (some gn)) := (Blk.drew HM7.out.blk).cell 6
      refine wp_region_last 9 (fun V => V.cell? ⟨g, 6, none⟩ = some (.map (some gn)) ∧ V.cell? ⟨w.heap.size, 0, none⟩ = some (.int .u64 e.id) ∧ V.cell? ⟨w.heap.size, 1, none⟩ = some (.string e.name) ∧ V.cell? ⟨w.heap.size, 2, none⟩ = some (.string e.ty) ∧ V.cell? ⟨w5.heap.size, 0, none⟩ = some (.int .i64 t.kind) ∧ V.cell? ⟨w5.heap.size, 1, none⟩ = some (.int .i64 t.size) ∧ V.cell? ⟨w5.heap.size, 2, none⟩ = some (.slice A5 t.sub.length cap5) ∧ V.cell? ⟨w5.heap.size, 3, none⟩ = some (.int .i64 t.tail)) (by kernel_rfl) (by kernel_rfl) ?_
      have hHeld := And.intro gc6 (And.intro b0 (And.intro b1 (And.intro b2 (And.intro t0 (And.intro t1 (And.intro t2 t3))))))
      clear b0 b1 b2 t0 t1 t2 t3 gc6
      refine GT.tk1 0 hHeld ?_
      refine GT.tk1 1 hHeld ?_
      refine GT.tk1 2 hHeld ?_
      refine GT.tk1 3 hHeld ?_
      refine GT.tk1 4 hHeld ?_
      refine GT.tk1 5 hHeld ?_
      refine GT.tk1 6 hHeld ?_
      refine GT.tk1 7 hHeld ?_
      refine GT.tk1 8 hHeld ?_
      refine GT.la1 9 ?_
      go_simp
      obtain ⟨W8, hW8⟩ : ∃ W8, mpPut W7.drew gn (nmL l) (.string e.name) (.agg #[.int .u64 e.id, .string e.name, .string e.ty, .int .i64 t.kind, .int .i64 t.size, .slice A5 t.sub.length cap5, .int .i64 t.tail]) = W8 := ⟨_, rfl⟩
      have hm8 : MpB W8 gn (nmL l ++ [(.string e.name, (.agg #[.int .u64 e.id, .string e.name, .string e.ty, .int .i64 t.kind, .int .i64 t.size, .slice A5 t.sub.length cap5, .int .i64 t.tail]))]) := by rw [← hW8]; exact mpPut_block (HM7.out.nm.keep rfl) _ _
      have ho8 : Only [gn] W7 W8 := by rw [← hW8]; exact (Only.refl [gn] W7).drew.trans (mpPut_only _ _ _ _ _)
      have hz8 : W8.heap.size = W7.heap.size := by rw [← hW8]; simp [mpPut]
      rw [hW8]
      have hgn := HM7.out.n2
      have hgi := HM7.out.i2
      have hne := HM7.out.ne
      have hB8 := (HB7.out.only ho8 (by simp; omega)).drew
      have hT8 := (HT7.out.only ho8 (by simp; omega)).drew
      have hG8 := Blk.drew (HM7.out.blk.only ho8 (by simp; omega))
      have hI8 : MpB W8.drew gi (idL l) := (HM7.out.ix.only ho8 (by simp; omega)).keep rfl
      have hput2 := HP2.out W8.drew hI8
      obtain ⟨b0, b1, b2, _⟩ := blk3 hB8
      obtain ⟨t0, t1, t2, t3, _⟩ := blk4 hT8
      have gc7 : W8.drew.cell? ⟨g, 7, none⟩ = some (.map (some gi)) := hG8.cell 7
      have HM8 := Lib.hid hm8
      have HO8 := Lib.hid ho8
      have HZ8 := Lib.hid hz8
      have HI8 := Lib.hid hI8
      clear hHeld hW8 hm8 ho8 hz8 hput1 hB8 hT8 hG8 hI8
      go_wp2_with fail
      refine wp_region_last 9 (fun V => V.cell? ⟨g, 7, none⟩ = some (.map (some gi)) ∧ V.cell? ⟨w.heap.size, 0, none⟩ = some (.int .u64 e.id) ∧ V.cell? ⟨w.heap.size, 1, none⟩ = some (.string e.name) ∧ V.cell? ⟨w.heap.size, 2, none⟩ = some (.string e.ty) ∧ V.cell? ⟨w5.heap.size, 0, none⟩ = some (.int .i64 t.kind) ∧ V.cell? ⟨w5.heap.size, 1, none⟩ = some (.int .i64 t.size) ∧ V.cell? ⟨w5.heap.size, 2, none⟩ = some (.slice A5 t.sub.length cap5) ∧ V.cell? ⟨w5.heap.size, 3, none⟩ = some (.int .i64 t.tail)) (by kernel_rfl) (by kernel_rfl) ?_
      have hHeld := And.intro gc7 (And.intro b0 (And.intro b1 (And.intro b2 (And.intro t0 (And.intro t1 (And.intro t2 t3))))))
      clear b0 b1 b2 t0 t1 t2 t3 gc7
      refine GT.tk1 0 hHeld ?_
      refine GT.tk1 1 hHeld ?_
      refine GT.tk1 2 hHeld ?_
      refine GT.tk1 3 hHeld ?_
      refine GT.tk1 4 hHeld ?_
      refine GT.tk1 5 hHeld ?_
      refine GT.tk1 6 hHeld ?_
      refine GT.tk1 7 hHeld ?_
      refine GT.tk1 8 hHeld ?_
      refine GT.la1 9 ?_
      go_simp
      clear hput2
      obtain ⟨W9, hW9⟩ : ∃ W9, mpPut W8.drew gi (idL l) (.int .u64 e.id) (.agg #[.int .u64 e.id, .string e.name, .string e.ty, .int .i64 t.kind, .int .i64 t.size, .slice A5 t.sub.length cap5, .int .i64 t.tail]) = W9 := ⟨_, rfl⟩
      have hm9 : MpB W9 gi (idL l ++ [(.int .u64 e.id, (.agg #[.int .u64 e.id, .string e.name, .string e.ty, .int .i64 t.kind, .int .i64 t.size, .slice A5 t.sub.length cap5, .int .i64 t.tail]))]) := by rw [← hW9]; exact mpPut_block HI8.out _ _
      have ho9 : Only [gi] W8 W9 := by rw [← hW9]; exact (Only.refl [gi] W8).drew.trans (mpPut_only _ _ _ _ _)
      have hz9 : W9.heap.size = W7.heap.size := by rw [← HZ8.out, ← hW9]; simp [mpPut]
      rw [hW9]
      have hn9 := HM8.out.only ho9 (by simp; omega)
      have HOO : Hid (Only [gn, gi] W7 W9) := Lib.hid ((HO8.out.mono (by simp)).trans (ho9.mono (by simp)))
      have HQ : Hid (∃ v, RgM W9 lo W9.heap.size g gn gi c (l ++ [(e, v)])) := Lib.hid ⟨_, HM7.out.put HOO.out hz9 (by simpa [nmL] using hn9) (by simpa [idL] using hm9) ⟨_, _, _, _, rfl, by
       show TyS W7 _ e.shape _ _ _ _
       rw [hsh]
       exact HY7.out.weak (fun k hk hS => ⟨by have hS : W4.heap.size ≤ k := hS; omega, hk⟩)⟩ hE HSZ.out⟩
      clear hW9 hm9 ho9 hz9 hn9 hHeld
      go_wp2
      go_ret
      exact ⟨by rw [hE]; rfl, (only_of_below HBL7.out).trans HOO.out, fun _ => HQ.out⟩
def NwEnd (w : World) (c : Cfg) (l : List Ent) (e : Ending) (w' : World) : Prop :=
 Below w.heap.size w w' ∧ ((rgE c l = 0 ∧ ∃ g gn gi rows, e = .returned (.tuple #[.pointer (some ⟨g, 0, none⟩), .int .i64 0]) ∧ RgM w' w.heap.size w'.heap.size g gn gi c rows ∧ entsOf rows = l) ∨ (rgE c l ≠ 0 ∧ e = .returned (.tuple #[.pointer none, .int .i64 (rgE c l)])))
theorem entsE_step {c : Cfg} {l : List Ent} {k : Nat} {E : Int} (h : entsE c (l.take k) (l.drop k) = E) (hk : k < l.length) : (entE c (l.take k) l[k] ≠ 0 → E = entE c (l.take k) l[k]) ∧ (entE c (l.take k) l[k] = 0 → entsE c (l.take (k + 1)) (l.drop (k + 1)) = E) := by
 rw [List.drop_eq_getElem_cons hk, entsE] at h
 refine ⟨fun h0 => ?_, fun h0 => ?_⟩
 ·rw [if_pos h0] at h; exact h.symm
 ·rw [if_neg (by simp [h0])] at h
  rw [List.take_add_one, List.getElem?_eq_getElem hk]
  exact h
theorem entsE_end {c : Cfg} {l : List Ent} {E : Int} (h : entsE c (l.take l.length) (l.drop l.length) = E) : E = 0 := by
 rw [List.drop_length] at h
 exact h.symm
theorem rgE_right {c : Cfg} {l : List Ent} (h : c.right = true) (hl : l.length ≤ 32) : rgE c l = entsE c [] l := by
 unfold rgE; rw [if_neg (by simp [h]), if_neg (by omega)]
theorem RgM.fresh {w : World} {lo gn : Nat} {c : Cfg} {W : World} (hw : ((w.alloc (.map #[] 0)).alloc (.map #[] 0)).alloc (.cells (rgC c gn (gn + 1) (putV c) (getV c)) 80) = W) (hg : w.heap.size = gn) (hlo : lo ≤ gn) : RgM W lo W.heap.size (gn + 1 + 1) gn (gn + 1) c [] := by
 subst hg
 have hz : W.heap.size = w.heap.size + 3 := by rw [← hw]; simp
 exact {
  blk := by rw [← hw]; exact Blk.at_ (by simp)
  nm := by
   have h1 : MpB (w.alloc (.map #[] 0)) w.heap.size [] := MpB.new w
   rw [← hw]; exact (heap_alloc_old _ _ (by simp; omega)).trans ((heap_alloc_old _ _ (by simp)).trans h1)
  ix := by
   have h1 : MpB ((w.alloc (.map #[] 0)).alloc (.map #[] 0)) (w.alloc (.map #[] 0)).heap.size [] := MpB.new _
   simp only [World.size_alloc] at h1
   rw [← hw]; exact (heap_alloc_old _ _ (by simp)).trans h1
  n1 := hlo
  n2 := by omega
  i1 := by omega
  i2 := by omega
  ne := by omega
  g2 := by omega
  his := Nat.le_refl _
  rows := by simp
  ok := EntsOk.nil c
  sz := by simp }
theorem rgNew_c (c : Cfg) (l : List Ent) (v : Value) (B : Nat) (w : World) (hv : EnR w B v l) (hB : B ≤ w.heap.size) (hL : Laid w) (hs : ∀ e ∈ l, EntOk e) :
 Calls Tryz.prog 9 #[c.val, v] w fun e w' => NwEnd w c l e w' := by
 obtain ⟨A, n, cap, rfl, hn, hnc, hcm⟩ := hv.form'
 have HR := Lib.hid (right_c c (w.alloc (.cells #[.int .i64 c.fm, .int .u32 c.mg, .int .i64 c.fr, .int .i64 c.un, .int .i64 c.de, .int .i64 c.it] 24)))
 have hb0 := (Below.refl w.heap.size w).alloc (Nat.le_refl _) (.cells #[.int .i64 c.fm, .int .u32 c.mg, .int .i64 c.fr, .int .i64 c.un, .int .i64 c.de, .int .i64 c.it] 24)
 have hc0 := Blk.new w 24 #[.int .i64 c.fm, .int .u32 c.mg, .int .i64 c.fr, .int .i64 c.un, .int .i64 c.de, .int .i64 c.it]
 have HV := Lib.hid hv
 have HS := Lib.hid hs
 have hp := hL.pos
 have HL := Lib.hid hL
 unfold Cfg.val at *
 obtain ⟨rt, hrt⟩ : ∃ rt, c.right = rt := ⟨_, rfl⟩
 rw [hrt] at HR
 have HRT := Lib.hid hrt
 clear hv hs hL hrt
 go_enter Tryz.func9, Tryz.ntmps9
 go_wp2_with fail
 refine HR.out.mono ?_
 rintro e w1 ⟨rfl, hb1⟩
 have HB1 := Lib.hid (hb0.trans (hb1.mono (by simp)))
 have hC1 := hc0.keep hb1 (by simp)
 have hw1 : w.heap.size < w1.heap.size := hC1.lt
 obtain ⟨c0, c1, c2, c3, c4, c5⟩ := blk6 hC1
 clear hb0 hb1 hc0 HR hC1
 cases rt with
 | false =>
  go_wp2
  go_ret2
  have hE : rgE c l = 1 := by unfold rgE; rw [if_pos HRT.out]
  exact ⟨HB1.out, .inr ⟨by rw [hE]; decide, by rw [hE]; rfl⟩⟩
 | true =>
  by_cases h32 : 32 < n
  ·have hi : (32 : Int) < (n : Int) := by omega
   go_wp2
   go_ret2
   have hE : rgE c l = 4 := by unfold rgE; rw [if_neg (by simp [HRT.out]), if_pos (by rw [← hn.out]; exact h32)]
   exact ⟨HB1.out, .inr ⟨by rw [hE]; decide, by rw [hE]; rfl⟩⟩
  ·have hi : ¬ (32 : Int) < (n : Int) := by omega
   have hmm := @run_makeMap Tryz.prog
   have hw2 : w.heap.size < w1.heap.size + 1 := by omega
   have hw3 : w.heap.size < w1.heap.size + 1 + 1 := by omega
   have hw4 : w.heap.size < w1.heap.size + 1 + 1 + 1 := by omega
   have hlen : l.length ≤ 32 := by rw [← hn.out]; omega
   have HRG := Lib.hid (rgE_right HRT.out hlen)
   by_cases hc : c.fm = 1
   ·have k1 : ((c.fm : Int) == 1) = true := beq_iff_eq.2 hc
    have hpv : putV c = .func (.func 29) #[.agg #[.int .i64 c.de, .int .i64 c.it]] #[] := by unfold putV capV; rw [if_pos hc]
    have hgv : getV c = .func (.func 30) #[.agg #[.int .i64 c.de, .int .i64 c.it]] #[] := by unfold getV capV; rw [if_pos hc]
    clear hc
    obtain ⟨W4, hW4⟩ : ∃ W4, (((w1.alloc (.cells #[.int .i64 c.de, .int .i64 c.it] 72)).alloc (.map #[] 0)).alloc (.map #[] 0)).alloc (.cells #[.int .i64 c.fm, .int .u32 c.mg, .int .i64 c.fr, .int .i64 c.un, .int .i64 c.de, .int .i64 c.it, .map (some (w1.heap.size + 1)), .map (some (w1.heap.size + 1 + 1)), .func (.func 29) #[.agg #[.int .i64 c.de, .int .i64 c.it]] #[], .func (.func 30) #[.agg #[.int .i64 c.de, .int .i64 c.it]] #[]] 80) = W4 := ⟨_, rfl⟩
    have hm4 : RgM W4 w.heap.size W4.heap.size (w1.heap.size + 1 + 1 + 1) (w1.heap.size + 1) (w1.heap.size + 1 + 1) c [] := RgM.fresh (w := w1.alloc (.cells #[.int .i64 c.de, .int .i64 c.it] 72)) (by unfold rgC; rw [hpv, hgv]; exact hW4) (by simp) (by omega)
    have hb4 : Below w.heap.size w W4 := by rw [← hW4]; exact ((((HB1.out.alloc (by omega) _).alloc (by simp; omega) _).alloc (by simp; omega) _).alloc (by simp; omega) _)
    have HM4 := Lib.hid hm4
    have HB4 := Lib.hid hb4
    have HW4 := Lib.hid hW4
    clear hW4 hm4 hb4 hpv hgv
    go_wp2_with fail
    rw [HW4.out]
    clear c0 c1 c2 c3 c4 c5 k1 hmm hw2 hw3 hw4
    go_loopw [45] (fun i wr => ∃ (k : Nat) (rows : List RgRow), k ≤ n ∧ i = .int .i64 k ∧ Hid (RgM wr w.heap.size wr.heap.size (w1.heap.size + 1 + 1 + 1) (w1.heap.size + 1) (w1.heap.size + 1 + 1) c rows) ∧ Hid (entsOf rows = l.take k) ∧ Hid (entsE c (l.take k) (l.drop k) = entsE c [] l) ∧ Hid (Below w.heap.size w wr)) (fun i _ => n - (intOf i).toNat)
    case atStart => exact ⟨0, [], by omega, by go_num, HM4, Lib.hid rfl, Lib.hid (by simp), HB4⟩
    case round =>
     obtain ⟨k, rows, hk, rfl, HM, HE, HT, HB⟩ := hrel
     clear HM4 HB4
     by_cases hkn : k < n
     ·have hlt : decide ((k : Int) < (n : Int)) = true := decide_eq_true (by omega)
      have hkl : k < l.length := by have := hn.out; omega
      obtain ⟨ge, o, hA, hge, e0, e1, e2⟩ := (HV.out.below (HB.out.mono hB)).at_ (j := k) hkl
      subst hA
      obtain ⟨st1, st2⟩ := entsE_step HT.out hkl
      have hse := HS.out _ (List.getElem_mem hkl)
      obtain ⟨en, hen⟩ : ∃ en, l[k] = en := ⟨_, rfl⟩
      rw [hen] at e0 e1 e2 st1 st2 hse
      have htk : l.take (k + 1) = l.take k ++ [en] := by rw [List.take_add_one, List.getElem?_eq_getElem hkl, hen]; rfl
      have hbz := HB.out.size
      obtain ⟨W5, hW5⟩ : ∃ W5, wr.alloc (.cells #[.int .u64 en.id, .string en.name, .string en.ty] 52) = W5 := ⟨_, rfl⟩
      have hb5 : Below wr.heap.size wr W5 := by rw [← hW5]; exact (Below.refl _ wr).alloc (Nat.le_refl _) _
      have HA := Lib.hid (rgAdd_c w.heap.size wr.heap.size _ _ _ c rows en W5 (HM.out.below hb5) (HL.out.below (HB.out.trans (hb5.mono hbz)) hp) hp hse)
      have HB5 := Lib.hid (HB.out.trans (hb5.mono hbz))
      have HW5 := Lib.hid hW5
      have HTK := Lib.hid htk
      have hnn := HM.out.n1
      clear hW5 hb5 hen hse htk
      go_wp2_with fail
      rw [HW5.out]
      refine HA.out.mono ?_
      rintro e w6 ⟨rfl, ho, hok⟩
      rw [HE.out] at hok ⊢
      have HO := Lib.hid (HB5.out.trans (ho.below HB5.out.size (by simp; omega)))
      have HOK := Lib.hid hok
      generalize entE c (l.take k) en = EE at *
      clear ho hok HA e0 e1 e2
      rcases beq0 EE with ⟨he, z1, z2⟩ | ⟨he, z1, z2⟩
      ·subst he
       obtain ⟨vv, hvv⟩ := HOK.out rfl
       have HN := Lib.hid hvv
       have HST := Lib.hid (st2 rfl)
       clear hvv st1 st2
       go_wp2
       go_roundw
       case rel =>
        have key : ∃ (k' : Nat) (rows : List RgRow), k' ≤ n ∧ Value.int .i64 ((k : Int) + 1) = .int .i64 k' ∧ Hid (RgM w6 w.heap.size w6.heap.size (w1.heap.size + 1 + 1 + 1) (w1.heap.size + 1) (w1.heap.size + 1 + 1) c rows) ∧ Hid (entsOf rows = l.take k') ∧ Hid (entsE c (l.take k') (l.drop k') = entsE c [] l) ∧ Hid (Below w.heap.size w w6) := ⟨k + 1, rows ++ [(en, vv)], by omega, by go_num, HN, Lib.hid (by rw [HTK.out, ← HE.out]; simp [entsOf]), HST, HO⟩
        first | exact key | ((repeat apply Exists.intro); exact ⟨key, rfl⟩)
       case measure => simp [intOf]; omega
      ·have HST := Lib.hid (st1 he)
       clear st1 st2
       go_wp2
       go_ret2
       have hE : rgE c l = EE := by rw [HRG.out]; exact HST.out
       exact ⟨HO.out, .inr ⟨by rw [hE]; exact he, by rw [hE]; rfl⟩⟩
     ·have hlt : decide ((k : Int) < (n : Int)) = false := decide_eq_false (by omega)
      have hkl : k = l.length := by have := hn.out; omega
      have hE : rgE c l = 0 := by
       rw [HRG.out]
       have h1 := HT.out
       rw [hkl] at h1
       exact entsE_end h1
      have hEE : entsOf rows = l := by rw [HE.out, hkl]; simp
      have HF := Lib.hid hE
      have HG := Lib.hid hEE
      clear hkl hE hEE
      go_wp2
      go_ret2
      exact ⟨HB.out, .inl ⟨HF.out, _, _, _, rows, rfl, HM.out, HG.out⟩⟩
   ·have k1 : ((c.fm : Int) == 1) = false := beq_eq_false_iff_ne.2 hc
    have hpv : putV c = .func (.func 27) #[.agg #[.int .i64 c.de, .int .i64 c.it]] #[] := by unfold putV capV; rw [if_neg hc]
    have hgv : getV c = .func (.func 28) #[.agg #[.int .i64 c.de, .int .i64 c.it]] #[] := by unfold getV capV; rw [if_neg hc]
    clear hc
    obtain ⟨W4, hW4⟩ : ∃ W4, (((w1.alloc (.cells #[.int .i64 c.de, .int .i64 c.it] 72)).alloc (.map #[] 0)).alloc (.map #[] 0)).alloc (.cells #[.int .i64 c.fm, .int .u32 c.mg, .int .i64 c.fr, .int .i64 c.un, .int .i64 c.de, .int .i64 c.it, .map (some (w1.heap.size + 1)), .map (some (w1.heap.size + 1 + 1)), .func (.func 27) #[.agg #[.int .i64 c.de, .int .i64 c.it]] #[], .func (.func 28) #[.agg #[.int .i64 c.de, .int .i64 c.it]] #[]] 80) = W4 := ⟨_, rfl⟩
    have hm4 : RgM W4 w.heap.size W4.heap.size (w1.heap.size + 1 + 1 + 1) (w1.heap.size + 1) (w1.heap.size + 1 + 1) c [] := RgM.fresh (w := w1.alloc (.cells #[.int .i64 c.de, .int .i64 c.it] 72)) (by unfold rgC; rw [hpv, hgv]; exact hW4) (by simp) (by omega)
    have hb4 : Below w.heap.size w W4 := by rw [← hW4]; exact ((((HB1.out.alloc (by omega) _).alloc (by simp; omega) _).alloc (by simp; omega) _).alloc (by simp; omega) _)
    have HM4 := Lib.hid hm4
    have HB4 := Lib.hid hb4
    have HW4 := Lib.hid hW4
    clear hW4 hm4 hb4 hpv hgv
    go_wp2_with fail
    rw [HW4.out]
    clear c0 c1 c2 c3 c4 c5 k1 hmm hw2 hw3 hw4
    go_loopw [45] (fun i wr => ∃ (k : Nat) (rows : List RgRow), k ≤ n ∧ i = .int .i64 k ∧ Hid (RgM wr w.heap.size wr.heap.size (w1.heap.size + 1 + 1 + 1) (w1.heap.size + 1) (w1.heap.size + 1 + 1) c rows) ∧ Hid (entsOf rows = l.take k) ∧ Hid (entsE c (l.take k) (l.drop k) = entsE c [] l) ∧ Hid (Below w.heap.size w wr)) (fun i _ => n - (intOf i).toNat)
    case atStart => exact ⟨0, [], by omega, by go_num, HM4, Lib.hid rfl, Lib.hid (by simp), HB4⟩
    case round =>
     obtain ⟨k, rows, hk, rfl, HM, HE, HT, HB⟩ := hrel
     clear HM4 HB4
     by_cases hkn : k < n
     ·have hlt : decide ((k : Int) < (n : Int)) = true := decide_eq_true (by omega)
      have hkl : k < l.length := by have := hn.out; omega
      obtain ⟨ge, o, hA, hge, e0, e1, e2⟩ := (HV.out.below (HB.out.mono hB)).at_ (j := k) hkl
      subst hA
      obtain ⟨st1, st2⟩ := entsE_step HT.out hkl
      have hse := HS.out _ (List.getElem_mem hkl)
      obtain ⟨en, hen⟩ : ∃ en, l[k] = en := ⟨_, rfl⟩
      rw [hen] at e0 e1 e2 st1 st2 hse
      have htk : l.take (k + 1) = l.take k ++ [en] := by rw [List.take_add_one, List.getElem?_eq_getElem hkl, hen]; rfl
      have hbz := HB.out.size
      obtain ⟨W5, hW5⟩ : ∃ W5, wr.alloc (.cells #[.int .u64 en.id, .string en.name, .string en.ty] 52) = W5 := ⟨_, rfl⟩
      have hb5 : Below wr.heap.size wr W5 := by rw [← hW5]; exact (Below.refl _ wr).alloc (Nat.le_refl _) _
      have HA := Lib.hid (rgAdd_c w.heap.size wr.heap.size _ _ _ c rows en W5 (HM.out.below hb5) (HL.out.below (HB.out.trans (hb5.mono hbz)) hp) hp hse)
      have HB5 := Lib.hid (HB.out.trans (hb5.mono hbz))
      have HW5 := Lib.hid hW5
      have HTK := Lib.hid htk
      have hnn := HM.out.n1
      clear hW5 hb5 hen hse htk
      go_wp2_with fail
      rw [HW5.out]
      refine HA.out.mono ?_
      rintro e w6 ⟨rfl, ho, hok⟩
      rw [HE.out] at hok ⊢
      have HO := Lib.hid (HB5.out.trans (ho.below HB5.out.size (by simp; omega)))
      have HOK := Lib.hid hok
      generalize entE c (l.take k) en = EE at *
      clear ho hok HA e0 e1 e2
      rcases beq0 EE with ⟨he, z1, z2⟩ | ⟨he, z1, z2⟩
      ·subst he
       obtain ⟨vv, hvv⟩ := HOK.out rfl
       have HN := Lib.hid hvv
       have HST := Lib.hid (st2 rfl)
       clear hvv st1 st2
       go_wp2
       go_roundw
       case rel =>
        have key : ∃ (k' : Nat) (rows : List RgRow), k' ≤ n ∧ Value.int .i64 ((k : Int) + 1) = .int .i64 k' ∧ Hid (RgM w6 w.heap.size w6.heap.size (w1.heap.size + 1 + 1 + 1) (w1.heap.size + 1) (w1.heap.size + 1 + 1) c rows) ∧ Hid (entsOf rows = l.take k') ∧ Hid (entsE c (l.take k') (l.drop k') = entsE c [] l) ∧ Hid (Below w.heap.size w w6) := ⟨k + 1, rows ++ [(en, vv)], by omega, by go_num, HN, Lib.hid (by rw [HTK.out, ← HE.out]; simp [entsOf]), HST, HO⟩
        first | exact key | ((repeat apply Exists.intro); exact ⟨key, rfl⟩)
       case measure => simp [intOf]; omega
      ·have HST := Lib.hid (st1 he)
       clear st1 st2
       go_wp2
       go_ret2
       have hE : rgE c l = EE := by rw [HRG.out]; exact HST.out
       exact ⟨HO.out, .inr ⟨by rw [hE]; exact he, by rw [hE]; rfl⟩⟩
     ·have hlt : decide ((k : Int) < (n : Int)) = false := decide_eq_false (by omega)
      have hkl : k = l.length := by have := hn.out; omega
      have hE : rgE c l = 0 := by
       rw [HRG.out]
       have h1 := HT.out
       rw [hkl] at h1
       exact entsE_end h1
      have hEE : entsOf rows = l := by rw [HE.out, hkl]; simp
      have HF := Lib.hid hE
      have HG := Lib.hid hEE
      clear hkl hE hEE
      go_wp2
      go_ret2
      exact ⟨HB.out, .inl ⟨HF.out, _, _, _, rows, rfl, HM.out, HG.out⟩⟩
theorem readTy_may {l : List UInt8} {t : Ty} (h : readTy l = some t) : t.may = true := by
 unfold readTy at h
 split at h
 ·rename_i x hx
  cases hm : x.may with
  | true => rw [hm, if_pos rfl] at h; injection h with h; rw [← h]; exact hm
  | false => rw [hm] at h; cases h
 ·cases h
theorem may_count {t : Ty} (h : t.may = true) : t.count ≤ 64 := by
 simp only [Ty.may, Bool.and_eq_true, decide_eq_true_eq] at h
 omega
theorem any_take {l : List Ent} {p : Ent → Bool} {k : Nat} (h : ∀ j (hj : j < l.length), j < k → p l[j] = false) : (l.take k).any p = false := by
 rw [List.any_eq_false]
 intro e he
 obtain ⟨j, hj, rfl⟩ := List.getElem_of_mem he
 rw [List.length_take] at hj
 rw [List.getElem_take]
 rw [h j (by omega) (by omega)]; simp
theorem any_at {l : List Ent} {p : Ent → Bool} {k j : Nat} (hk : k ≤ l.length) (hj : j < k) (h : p (l[j]'(by omega)) = true) : (l.take k).any p = true :=
 List.any_eq_true.2 ⟨l[j]'(by omega), by rw [List.mem_take_iff_getElem]; exact ⟨j, by omega, rfl⟩, h⟩
theorem refNew24_c (c : Cfg) (l : List Ent) (v : Value) (B : Nat) (w : World) (hv : EnR w B v l) (hB : B ≤ w.heap.size) (hs : ∀ e ∈ l, EntOk e) :
 Calls Tryz.prog 11 #[c.val, v] w fun e w' => e = .returned (.int .i64 (rgE c l)) ∧ Below w.heap.size w w' := by
 obtain ⟨A, n, cap, rfl, hn, hnc, hcm⟩ := hv.form'
 have HR := Lib.hid (refRight17_c c (w.alloc (.cells #[.int .i64 c.fm, .int .u32 c.mg, .int .i64 c.fr, .int .i64 c.un, .int .i64 c.de, .int .i64 c.it] 24)))
 have hb0 := (Below.refl w.heap.size w).alloc (Nat.le_refl _) (.cells #[.int .i64 c.fm, .int .u32 c.mg, .int .i64 c.fr, .int .i64 c.un, .int .i64 c.de, .int .i64 c.it] 24)
 have hc0 := Blk.new w 24 #[.int .i64 c.fm, .int .u32 c.mg, .int .i64 c.fr, .int .i64 c.un, .int .i64 c.de, .int .i64 c.it]
 have HV := Lib.hid hv
 have HS := Lib.hid hs
 unfold Cfg.val at *
 obtain ⟨rt, hrt⟩ : ∃ rt, c.right = rt := ⟨_, rfl⟩
 rw [hrt] at HR
 have HRT := Lib.hid hrt
 clear hv hs hrt
 go_enter Tryz.func11, Tryz.ntmps11
 go_wp2_with fail
 refine HR.out.mono ?_
 rintro e w1 ⟨rfl, hb1⟩
 have HB1 := Lib.hid (hb0.trans (hb1.mono (by simp)))
 have HC1 := Lib.hid (hc0.keep hb1 (by simp))
 clear hb0 hb1 hc0 HR
 cases rt with
 | false =>
  go_wp2
  go_ret
  have hE : rgE c l = 1 := by unfold rgE; rw [if_pos HRT.out]
  exact ⟨by rw [hE]; rfl, HB1.out⟩
 | true =>
  by_cases h32 : 32 < n
  ·have hi : (32 : Int) < (n : Int) := by omega
   go_wp2
   go_ret
   have hE : rgE c l = 4 := by unfold rgE; rw [if_neg (by simp [HRT.out]), if_pos (by rw [← hn.out]; exact h32)]
   exact ⟨by rw [hE]; rfl, HB1.out⟩
  ·have hi : ¬ (32 : Int) < (n : Int) := by omega
   have hlen : l.length ≤ 32 := by rw [← hn.out]; omega
   have HRG := Lib.hid (rgE_right HRT.out hlen)
   clear hlen HRT
   go_wp2_with fail
   go_loopw [5] (fun i wr => ∃ k : Nat, i = .int .i64 k ∧ k ≤ n ∧ Hid (entsE c (l.take k) (l.drop k) = entsE c [] l) ∧ Hid (Below w.heap.size w wr) ∧ Hid (Blk wr w.heap.size 24 #[.int .i64 c.fm, .int .u32 c.mg, .int .i64 c.fr, .int .i64 c.un, .int .i64 c.de, .int .i64 c.it])) (fun i _ => n - (intOf i).toNat)
   case atStart => exact ⟨0, rfl, by omega, Lib.hid (by simp), HB1, HC1⟩
   case round =>
    obtain ⟨k, rfl, hk, HT, HB, HC⟩ := hrel
    clear HB1 HC1
    by_cases hkn : k < n
    ·have hkl : k < l.length := by have := hn.out; omega
     obtain ⟨ge, o, hA, hge, e0, e1, e2⟩ := (HV.out.below (HB.out.mono hB)).at_ (j := k) hkl
     subst hA
     obtain ⟨st1, st2⟩ := entsE_step HT.out hkl
     have hse := HS.out _ (List.getElem_mem hkl)
     obtain ⟨en, hen⟩ : ∃ en, l[k] = en := ⟨_, rfl⟩
     rw [hen] at e0 e1 e2 st1 st2 hse
     have hns := hse.name
     have hts := hse.ty
     have HEN := Lib.hid hen
     have ST1 := Lib.hid st1
     have ST2 := Lib.hid st2
     have HEE : Hid (entE c (l.take k) en = if nmMay en.name = false then 11 else if ((l.take k).any fun x => decide (x.name = en.name)) = true then 11 else if ((l.take k).any fun x => decide (x.id = en.id)) = true then 1 else if readTy en.ty.data.toList = none then 3 else if c.fm = 1 ∧ en.shape.flat = false then 12 else 0) := Lib.hid rfl
     have HMY := Lib.hid (fun V => refMayN_c en.name V (by omega))
     clear hen st1 st2 hse
     generalize wr = w2 at *
     go_wp2_with fail
     refine (HMY.out _).mono ?_
     rintro e w' ⟨rfl, rfl⟩
     cases hmy : nmMay en.name with
     | false =>
      have hE : rgE c l = 11 := by
       have h1 : entE c (l.take k) en = 11 := by rw [HEE.out, if_pos hmy]
       rw [HRG.out, ST1.out (by rw [h1]; decide), h1]
      go_wp2
      go_ret
      exact ⟨by rw [hE]; rfl, HB.out⟩
     | true =>
      rw [if_neg (by simp [hmy])] at HEE
      clear HMY hmy
      go_wp2_with fail
      go_loopw [6] (fun i wr => ∃ m : Nat, i = .int .i64 m ∧ m ≤ k ∧ Hid (∀ j (hj : j < l.length), j < m → decide (l[j].name = en.name) = false) ∧ Hid (Below w2.heap.size w2 wr)) (fun i _ => k - (intOf i).toNat)
      case atStart => exact ⟨0, rfl, by omega, Lib.hid (by omega), Lib.hid (Below.refl _ _)⟩
      case round =>
       obtain ⟨m, rfl, hm, Hm, HB3⟩ := hrel
       have HBW := Lib.hid (HB.out.trans (HB3.out.mono HB.out.size))
       have hbw2 := HB.out.size
       generalize wr = w3 at *
       by_cases hmk : m < k
       ·have hmn : m < n := by omega
        have hml : m < l.length := by omega
        obtain ⟨g', o', hA', hg', d0, d1, d2⟩ := (HV.out.below (HBW.out.mono hB)).at_ (j := m) hml
        injection hA' with hA'
        injection hA' with hA1 hA2
        subst hA1 hA2
        obtain ⟨g', o', hA', _, f0, f1, f2⟩ := (HV.out.below (HBW.out.mono hB)).at_ (j := k) hkl
        injection hA' with hA'
        injection hA' with hA1 hA2
        subst hA1 hA2
        rw [HEN.out] at f0 f1 f2
        obtain ⟨em, hem⟩ : ∃ em, l[m] = em := ⟨_, rfl⟩
        rw [hem] at d0 d1 d2
        have HEM := Lib.hid hem
        clear hem
        clear d0 d2 e0 e2 f0 f2
        rcases str_ways em.name en.name with ⟨hq, q1, q2⟩ | ⟨hq, q1, q2⟩
        ·have hE : rgE c l = 11 := by
          have h1 : entE c (l.take k) en = 11 := by rw [HEE.out, if_pos (any_at (Nat.le_of_lt hkl) hmk (by rw [HEM.out]; exact decide_eq_true hq))]
          rw [HRG.out, ST1.out (by rw [h1]; decide), h1]
         have HF := Lib.hid hE
         clear hE hq
         go_wp2_with fail
         go_quiet (fail)
         go_wp2
         go_ret
         exact ⟨by rw [HF.out]; rfl, Below.drewN' HBW.out _⟩
        ·have HGO : Hid (∀ j (hj : j < l.length), j < m + 1 → decide (l[j].name = en.name) = false) := Lib.hid (fun j hj hjm => by
          by_cases h : j = m
          ·subst h; rw [HEM.out]; exact decide_eq_false hq
          ·exact Hm.out j hj (by omega))
         clear hq
         go_wp2_with fail
         go_quiet (fail)
         go_wp2
         go_roundw
         case rel => exact ⟨m + 1, by go_num, by omega, HGO, Lib.hid (Below.drewN' HB3.out _)⟩
         case measure => simp [intOf]; omega
       ·have hmk2 : m = k := by omega
        have HAN : Hid (((l.take k).any fun x => decide (x.name = en.name)) = false) := Lib.hid (any_take (fun j hj hjk => Hm.out j hj (by omega)))
        rw [HAN.out, if_neg (by simp)] at HEE
        clear hmk2 HAN Hm
        go_wp2_with fail
        go_loopw [7] (fun i wr => ∃ m : Nat, i = .int .i64 m ∧ m ≤ k ∧ Hid (∀ j (hj : j < l.length), j < m → decide (l[j].id = en.id) = false) ∧ Hid (Below w3.heap.size w3 wr)) (fun i _ => k - (intOf i).toNat)
        case atStart => exact ⟨0, rfl, by omega, Lib.hid (by omega), Lib.hid (Below.refl _ _)⟩
        case round =>
         obtain ⟨m', rfl, hm', Hm, HB5⟩ := hrel
         have HBV := Lib.hid (HBW.out.trans (HB5.out.mono HBW.out.size))
         generalize wr = w4 at *
         by_cases hmk' : m' < k
         ·have hmn : m' < n := by omega
          have hml : m' < l.length := by omega
          obtain ⟨m, hmm⟩ : ∃ m, m = m' := ⟨m', rfl⟩
          subst hmm
          obtain ⟨g', o', hA', hg', d0, d1, d2⟩ := (HV.out.below (HBV.out.mono hB)).at_ (j := m) hml
          injection hA' with hA'
          injection hA' with hA1 hA2
          subst hA1 hA2
          obtain ⟨g', o', hA', _, f0, f1, f2⟩ := (HV.out.below (HBV.out.mono hB)).at_ (j := k) hkl
          injection hA' with hA'
          injection hA' with hA1 hA2
          subst hA1 hA2
          rw [HEN.out] at f0 f1 f2
          obtain ⟨em, hem⟩ : ∃ em, l[m] = em := ⟨_, rfl⟩
          rw [hem] at d0 d1 d2
          have HEM := Lib.hid hem
          clear hem
          clear d1 d2 e1 e2 f1 f2
          by_cases hq : em.id = en.id
          ·have q1 : ((em.id : Int) == (en.id : Int)) = true := beq_iff_eq.2 (by omega)
           have hE : rgE c l = 1 := by
            have h1 : entE c (l.take k) en = 1 := by rw [HEE.out, if_pos (any_at (Nat.le_of_lt hkl) hmk' (by rw [HEM.out]; exact decide_eq_true hq))]
            rw [HRG.out, ST1.out (by rw [h1]; decide), h1]
           have HF := Lib.hid hE
           clear hE hq
           go_wp2_with fail
           go_quiet (fail)
           go_wp2
           go_ret
           exact ⟨by rw [HF.out]; rfl, Below.drewN' HBV.out _⟩
          ·have q1 : ((em.id : Int) == (en.id : Int)) = false := beq_eq_false_iff_ne.2 (by omega)
           have HGO : Hid (∀ j (hj : j < l.length), j < m + 1 → decide (l[j].id = en.id) = false) := Lib.hid (fun j hj hjm => by
            by_cases h : j = m
            ·subst h; rw [HEM.out]; exact decide_eq_false hq
            ·exact Hm.out j hj (by omega))
           clear hq
           go_wp2_with fail
           go_quiet (fail)
           go_wp2
           go_roundw
           case rel => exact ⟨m + 1, by go_num, by omega, HGO, Lib.hid (Below.drewN' HB5.out _)⟩
           case measure => simp [intOf]; omega
         ·have HAN : Hid (((l.take k).any fun x => decide (x.id = en.id)) = false) := Lib.hid (any_take (fun j hj hjk => Hm.out j hj (by omega)))
          rw [HAN.out, if_neg (by simp)] at HEE
          clear HAN Hm
          obtain ⟨g', o', hA', _, f0, f1, f2⟩ := (HV.out.below (HBV.out.mono hB)).at_ (j := k) hkl
          injection hA' with hA'
          injection hA' with hA1 hA2
          subst hA1 hA2
          rw [HEN.out] at f0 f1 f2
          have hbw3 := HBW.out.size
          have HC4 := Lib.hid ((HC.out.keep HB3.out HC.out.lt).keep HB5.out (by have := HC.out.lt; have := HB3.out.size; omega))
          have HG := Lib.hid (refGet20_c en.ty w4 (by omega))
          obtain ⟨T, hT⟩ : ∃ T, readTy en.ty.data.toList = T := ⟨_, rfl⟩
          rw [hT] at HG HEE
          have HT4 := Lib.hid hT
          clear e0 e1 e2 f0 f1 hT
          go_wp2_with fail
          refine HG.out.mono ?_
          rintro e w5 hend
          cases T with
          | none =>
           obtain ⟨hb5, rfl⟩ := hend
           have hE : rgE c l = 3 := by
            have h1 : entE c (l.take k) en = 3 := by rw [HEE.out, if_pos rfl]
            rw [HRG.out, ST1.out (by rw [h1]; decide), h1]
           have HF := Lib.hid hE
           have HBX := Lib.hid (HBV.out.trans (hb5.mono HBV.out.size))
           clear hE hb5
           go_wp2
           go_ret
           exact ⟨by rw [HF.out]; rfl, HBX.out.alloc HBX.out.size _⟩
          | some t =>
           obtain ⟨hb5, d0, d1, d2, d3, rfl, hty⟩ := hend
           have hsh : en.shape = t := by unfold Ent.shape; rw [HT4.out]; rfl
           rw [if_neg (by simp), hsh] at HEE
           obtain ⟨A5, cap5, rfl, rfl, rfl, rfl, _⟩ := hty.open_
           have hC5 := HC4.out.keep hb5 HC4.out.lt
           have hwl : w.heap.size < w5.heap.size := hC5.lt
           have HBX := Lib.hid (HBV.out.trans (hb5.mono HBV.out.size))
           have HBY : Hid (Below w.heap.size w (w5.alloc (.cells #[.int .i64 t.kind, .int .i64 t.size, .slice A5 t.sub.length cap5, .int .i64 t.tail] 55))) := Lib.hid (HBX.out.alloc HBX.out.size _)
           have HCY := Lib.hid (hC5.alloc (.cells #[.int .i64 t.kind, .int .i64 t.size, .slice A5 t.sub.length cap5, .int .i64 t.tail] 55))
           have HFL := Lib.hid (refFlat_c t _ (w5.alloc (.cells #[.int .i64 t.kind, .int .i64 t.size, .slice A5 t.sub.length cap5, .int .i64 t.tail] 55)) _ _ _ _ ((hty.below ((Below.refl _ w5).alloc (Nat.le_refl _) _)).toIn) (Nat.le_refl _) (by have := may_count (readTy_may HT4.out); omega))
           have c0 : w5.cell? ⟨w.heap.size, 0, none⟩ = some (.int .i64 c.fm) := hC5.cell 0
           clear hb5 hty hC5 hsh f2
           by_cases hc : c.fm = 1
           ·have k1 : ((c.fm : Int) == 1) = true := beq_iff_eq.2 hc
            cases hfl : t.flat with
            | false =>
             have hE : rgE c l = 12 := by
              have h1 : entE c (l.take k) en = 12 := by rw [HEE.out, if_pos ⟨hc, hfl⟩]
              rw [HRG.out, ST1.out (by rw [h1]; decide), h1]
             rw [hfl] at HFL
             have HF := Lib.hid hE
             clear hE hc hfl
             go_wp2_with fail
             refine HFL.out.mono ?_
             rintro e w6 ⟨rfl, hb6⟩
             have HBZ := Lib.hid (HBY.out.trans (hb6.mono HBY.out.size))
             clear hb6
             go_wp2
             go_ret
             exact ⟨by rw [HF.out]; rfl, HBZ.out⟩
            | true =>
             have HNX := Lib.hid (ST2.out (by rw [HEE.out, if_neg (by simp [hfl])]))
             rw [hfl] at HFL
             clear hc hfl
             go_wp2_with fail
             refine HFL.out.mono ?_
             rintro e w6 ⟨rfl, hb6⟩
             have HBZ := Lib.hid (HBY.out.trans (hb6.mono HBY.out.size))
             have HCZ := Lib.hid (HCY.out.keep hb6 HCY.out.lt)
             clear hb6
             go_wp2
             go_roundw
             case rel => exact ⟨k + 1, by go_num, by omega, HNX, HBZ, HCZ⟩
             case measure => simp [intOf]; omega
           ·have k1 : ((c.fm : Int) == 1) = false := beq_eq_false_iff_ne.2 hc
            have HNX := Lib.hid (ST2.out (by rw [HEE.out, if_neg (by simp [hc])]))
            clear hc
            go_wp2
            go_roundw
            case rel => exact ⟨k + 1, by go_num, by omega, HNX, HBY, HCY⟩
            case measure => simp [intOf]; omega
    ·have hkl : k = l.length := by have := hn.out; omega
     have hE : rgE c l = 0 := by
      rw [HRG.out]
      have h1 := HT.out
      rw [hkl] at h1
      exact entsE_end h1
     have HF := Lib.hid hE
     clear hkl hE
     go_wp2
     go_ret
     exact ⟨by rw [HF.out]; rfl, HB.out⟩
structure RdV (w V : World) (c : Cfg) (l : List Ent) (v : Value) (f : Fr) : Prop where
 en : EnR V w.heap.size v l
 laid : Laid V
 laidC : LaidC V
 siz : w.heap.size + 2 ≤ V.heap.size
 bel : Below w.heap.size w V
 cf : Blk V w.heap.size 24 #[.int .i64 c.fm, .int .u32 c.mg, .int .i64 c.fr, .int .i64 c.un, .int .i64 c.de, .int .i64 c.it]
 fr : Blk V (w.heap.size + 1) 40 #[.int .u64 f.id, .string f.nm, .string f.body]
theorem RdV.mk' {w W V : World} {c : Cfg} {l : List Ent} {v : Value} {f : Fr} (hW : (w.alloc (.cells #[.int .i64 c.fm, .int .u32 c.mg, .int .i64 c.fr, .int .i64 c.un, .int .i64 c.de, .int .i64 c.it] 24)).alloc (.cells #[.int .u64 f.id, .string f.nm, .string f.body] 40) = W)
 (hv : EnR w w.heap.size v l) (hL : Laid w) (hLC : LaidC w) (hV : Below (w.heap.size + 2) W V) : RdV w V c l v f := by
 have hz : W.heap.size = w.heap.size + 2 := by rw [← hW]; simp
 have hb : Below w.heap.size w W := by rw [← hW]; exact ((Below.refl _ w).alloc (Nat.le_refl _) _).alloc (by simp) _
 have h1 : Blk W w.heap.size 24 #[.int .i64 c.fm, .int .u32 c.mg, .int .i64 c.fr, .int .i64 c.un, .int .i64 c.de, .int .i64 c.it] := by rw [← hW]; exact (Blk.new w _ _).alloc _
 have h2 : Blk W (w.heap.size + 1) 40 #[.int .u64 f.id, .string f.nm, .string f.body] := by rw [← hW]; exact Blk.at_ (by simp)
 have hbV : Below w.heap.size w V := hb.trans (hV.mono (by omega))
 exact ⟨hv.below hbV, hL.below hbV hL.pos, hLC.below hbV hLC.pos, by have := hV.size; omega, hbV, h1.keep hV (by omega), h2.keep hV (by omega)⟩
def exC24 : Cfg := ⟨2, 0, 9, 9, 2, 9⟩
def exE24 : Ent := ⟨5, ⟨#[112, 105, 110, 103]⟩, ⟨#[117, 56]⟩⟩
def exTyU : Ty := .mk 1 1 [] 0
def exI24 : It := .mk ⟨#[7]⟩ false []
theorem exTyU_may : exTyU.may = true := by simp [exTyU, Ty.may, Ty.count, Ty.deep, Ty.right, countT, deepT, rightT, tyOk]
theorem exE24_read : readTy exE24.ty.data.toList = some exTyU := by
 have h : tItem 8 exE24.ty.data.toList = some (exTyU, []) := by rfl
 rw [readTy_all h, exTyU_may, if_pos rfl]
theorem exE24_shape : exE24.shape = exTyU := by unfold Ent.shape; rw [exE24_read]; rfl
theorem exC24_right : exC24.right = true := by decide
theorem ex24_ok : rgE exC24 [exE24] = 0 := by
 rw [rgE_right exC24_right (by simp)]
 have h1 : entE exC24 [] exE24 = 0 := by
  unfold entE
  rw [if_neg (by decide), if_neg (by simp), if_neg (by simp), exE24_read, if_neg (by simp), if_neg (by simp [exC24])]
 simp [entsE, h1]
theorem ex24_put : tPutE exTyU exI24 2 9 = 0 := by
 rw [tPutE_zero]
 refine ⟨?_, ?_⟩
 ·unfold fitE
  rw [exTyU_may]
  simp [exTyU, exI24, It.may, It.right, It.deep, It.count, rightL, deepL, countL, formed, It.isOf, isOfL, is1, lead0, ByteArray.size]
 ·rw [capsE_zero]
  simp [exI24, It.may, It.right, It.deep, It.count, rightL, deepL, countL, formed, ByteArray.size]
theorem ex24_rlp : exI24.rlp = [7] := by
 simp [exI24, It.rlp, ByteArray.size]
theorem ex24_name : byName [exE24] ⟨#[112, 105, 110, 103]⟩ = some exE24 := by
 simp [byName, exE24]
theorem ex24_enc : rgEnc exC24 [exE24] ⟨#[112, 105, 110, 103]⟩ exI24 = (⟨5, ⟨#[]⟩, ⟨#[7]⟩⟩, 0) := by
 have h1 : rgPut exC24 exTyU exI24 = (⟨#[7]⟩, 0) := by
  unfold rgPut
  rw [if_neg (by simp [exC24])]
  show (if tPutE exTyU exI24 2 9 = 0 then _ else _, tPutE exTyU exI24 2 9) = _
  rw [ex24_put, if_pos rfl, ex24_rlp]
 unfold rgEnc
 rw [ex24_name]
 simp only [exE24_shape, h1]
 simp [exC24, exE24]
 rfl
theorem ex24_dec : rgDec exC24 [exE24] ⟨6, ⟨#[]⟩, ⟨#[]⟩⟩ = (11, noMs) := by
 have h : byFrame exC24 [exE24] ⟨6, ⟨#[]⟩, ⟨#[]⟩⟩ = none := by simp [byFrame, frIs, exC24, exE24]
 unfold rgDec
 rw [h]
theorem leaf_in24 (w : World) (B : Nat) (t : ByteArray) (l : Bool) (h : t.size ≤ 9223372036854775807) : ItIn w B (.mk t l []) (.string t) (.bool l) (.slice none 0 0) := leaf_in' w B t l h
theorem alive24_c (w : World) (hL : Laid w) (hLC : LaidC w) : Calls Tryz.prog 6 #[] w fun e w' => e = .returned (.bool true) ∧ Below w.heap.size w w' := by
 obtain ⟨W, hW⟩ : ∃ W, w.alloc (.cells #[.int .u64 5, .string ⟨#[112, 105, 110, 103]⟩, .string ⟨#[117, 56]⟩] 52) = W := ⟨_, rfl⟩
 have hbW : Below w.heap.size w W := by rw [← hW]; exact (Below.refl _ w).alloc (Nat.le_refl _) _
 have hzW : W.heap.size = w.heap.size + 1 := by rw [← hW]; simp
 have hbk : Blk W w.heap.size 52 #[.int .u64 5, .string ⟨#[112, 105, 110, 103]⟩, .string ⟨#[117, 56]⟩] := by rw [← hW]; exact Blk.new _ _ _
 have hen : EnR W W.heap.size (.slice (some ⟨w.heap.size, 0, none⟩) 1 1) [exE24] := ⟨_, 1, rfl, by simp, by simp, fun j hj => by
  obtain rfl : j = 0 := by simp at hj; omega
  exact ⟨_, _, rfl, by omega, hbk.cell 0, hbk.cell 1, hbk.cell 2⟩⟩
 have HN := Lib.hid (rgNew_c exC24 [exE24] _ W.heap.size W hen (Nat.le_refl _) (hL.below hbW hL.pos) (by
  intro e he
  obtain rfl := List.mem_singleton.1 he
  exact ⟨by decide, by simp [exE24, ByteArray.size], by simp [exE24, ByteArray.size]⟩))
 have HLW := Lib.hid (hL.below hbW hL.pos)
 have HLCW := Lib.hid (hLC.below hbW hLC.pos)
 have HW := Lib.hid hW
 have HBW := Lib.hid hbW
 have HOK := Lib.hid ex24_ok
 have hp1 := hL.pos
 have hp2 := hLC.pos
 clear hW hbW hbk hen hL hLC
 unfold exC24 Cfg.val at HN
 go_enter Tryz.func6, Tryz.ntmps6
 go_wp2_with fail
 rw [HW.out]
 refine HN.out.mono ?_
 rintro e w1 ⟨hb1, hend⟩
 rcases hend with ⟨_, g, gn, gi, rows, rfl, hm, hr⟩ | ⟨hne, _⟩
 ·have HM1 := Lib.hid hm
  have HB1 := Lib.hid (HBW.out.trans (hb1.mono (by omega)))
  have HL1 := Lib.hid (HLW.out.below hb1 HLW.out.pos)
  have HLC1 := Lib.hid (HLCW.out.below hb1 HLCW.out.pos)
  have HEQ := Lib.hid hr
  have HE := Lib.hid (rgEnc_c _ _ g gn gi _ rows ⟨#[112, 105, 110, 103]⟩ exI24 w1.heap.size w1 _ _ _ HM1.out (leaf_in24 w1 _ ⟨#[7]⟩ false (by simp [ByteArray.size])) (Nat.le_refl _) HL1.out HLC1.out (fun _ => by rw [ex24_rlp]; simp))
  rw [hr] at HE
  change Hid (Calls _ _ _ _ fun e w' => e = .returned (.tuple #[(rgEnc exC24 [exE24] ⟨#[112, 105, 110, 103]⟩ exI24).1.val, .int .i64 (rgEnc exC24 [exE24] ⟨#[112, 105, 110, 103]⟩ exI24).2]) ∧ _) at HE
  rw [ex24_enc] at HE
  unfold Fr.val at HE
  clear hb1 hm hr
  go_wp2_with fail
  refine HE.out.mono ?_
  rintro e w2 ⟨rfl, hb2⟩
  obtain ⟨W3, hW3⟩ : ∃ W3, w2.alloc (.cells #[.int .u64 5, .string ⟨#[]⟩, .string ⟨#[7]⟩] 40) = W3 := ⟨_, rfl⟩
  have hb3 : Below w1.heap.size w1 W3 := by rw [← hW3]; exact hb2.alloc hb2.size _
  have hk3 : Blk W3 w2.heap.size 40 #[.int .u64 5, .string ⟨#[]⟩, .string ⟨#[7]⟩] := by rw [← hW3]; exact Blk.new _ _ _
  have HD := Lib.hid (rgDec_c _ _ g gn gi _ rows ⟨6, ⟨#[]⟩, ⟨#[]⟩⟩ W3 (HM1.out.below hb3) (HL1.out.below hb3 HL1.out.pos) (HLC1.out.below hb3 HLC1.out.pos) (by simp [ByteArray.size]))
  rw [HEQ.out] at HD
  change Hid (Calls _ _ _ _ fun e w' => DcEnd W3 (rgDec exC24 [exE24] ⟨6, ⟨#[]⟩, ⟨#[]⟩⟩) e w') at HD
  rw [ex24_dec] at HD
  have HK3 := Lib.hid hk3
  have HB3 := Lib.hid (HB1.out.trans (hb3.mono HB1.out.size))
  have HW3 := Lib.hid hW3
  clear hW3 hb2 hb3 hk3
  go_wp2_with fail
  first | rw [HW3.out] | skip
  refine HD.out.mono ?_
  rintro e w4 ⟨hb4, d0, d1, d2, d3, rfl, hms⟩
  obtain ⟨A4, cap4, rfl, rfl, rfl, rfl, _⟩ := hms.open_
  have hk4 := HK3.out.keep hb4 HK3.out.lt
  have hlt4 : w2.heap.size < w4.heap.size := hk4.lt
  have HB4 := Lib.hid (HB3.out.trans (hb4.mono HB3.out.size))
  obtain ⟨q0, q1, q2⟩ := blk3' hk4
  clear hb4 hms hk4
  go_wp2
  go_ret
  exact ⟨rfl, HB4.out.alloc HB4.out.size _⟩
 ·exact absurd HOK.out hne
theorem nmAt_ways (l : List Ent) (nm : ByteArray) : (nmAt l nm = -1 ∧ byName l nm = none) ∨ ∃ (i : Nat) (hi : i < l.length), nmAt l nm = i ∧ byName l nm = some l[i] := by
 unfold nmAt byName
 cases h : l.findIdx? (fun e => decide (e.name = nm)) with
 | none =>
  refine .inl ⟨rfl, ?_⟩
  rw [List.find?_eq_none]
  exact fun e he => by simpa using List.findIdx?_eq_none_iff.1 h e he
 | some i =>
  obtain ⟨hi, h1, h2⟩ := List.findIdx?_eq_some_iff_getElem.1 h
  refine .inr ⟨i, hi, rfl, ?_⟩
  rw [List.find?_eq_some_iff_getElem]
  exact ⟨h1, i, hi, rfl, fun j hj => by simpa using h2 j hj⟩
theorem registryMakes_w (c : Cfg) (l : List Ent) (v : Value) (nm : ByteArray) (f : Fr) (w : World) (hv : EnR w w.heap.size v l) (hid : ∀ e ∈ l, e.id < 18446744073709551616) (hnm : nm.size ≤ 9223372036854775807) (hns : f.nm.size ≤ 9223372036854775807) (hbs : f.body.size ≤ 9223372036854775807) (hL : Laid w) (hLC : LaidC w) :
 Calls Tryz.prog 5 #[c.val, v, .string nm, .agg #[.int .u64 f.id, .string f.nm, .string f.body]] w fun e w' => e = .returned (.bool true) ∧ Below w.heap.size w w' := by
 obtain ⟨Av, n, cap, rfl, hn, hnc, hcm⟩ := hv.form'
 obtain ⟨W, hW⟩ : ∃ W, (w.alloc (.cells #[.int .i64 c.fm, .int .u32 c.mg, .int .i64 c.fr, .int .i64 c.un, .int .i64 c.de, .int .i64 c.it] 24)).alloc (.cells #[.int .u64 f.id, .string f.nm, .string f.body] 40) = W := ⟨_, rfl⟩
 have hzW : W.heap.size = w.heap.size + 2 := by rw [← hW]; simp
 have HU : Hid (∀ V, Below (w.heap.size + 2) W V → RdV w V c l (.slice Av n cap) f) := Lib.hid (fun V hV => RdV.mk' hW hv hL hLC hV)
 have HA := Lib.hid (alive24_c W (HU.out W (Below.refl _ _)).laid (HU.out W (Below.refl _ _)).laidC)
 have HW := Lib.hid hW
 have HZ := Lib.hid hzW
 have HID := Lib.hid hid
 have HFB := Lib.hid (fun (V : World) lo hi g gn gi rows (h : RgM V lo hi g gn gi c rows) => rgByFrame_c lo hi g gn gi c rows f V h)
 have HFR : Hid (∀ V, Below (w.heap.size + 2) W V → Calls Tryz.prog 23 #[c.val, .slice Av n cap, .agg #[.int .u64 f.id, .string f.nm, .string f.body]] V fun e w' => e = .returned (.int .i64 (frAt c l f)) ∧ Below V.heap.size V w') := Lib.hid (fun V hV => refByFrame_c c l _ f w.heap.size V (HU.out V hV).en (by have := (HU.out V hV).siz; omega))
 have HWY := Lib.hid (frAt_ways c l f)
 unfold Cfg.val at *
 clear hv hL hLC hW hid hzW
 obtain ⟨gr, hgr⟩ : ∃ gr, entsGr l = gr := ⟨_, rfl⟩
 have HGR := Lib.hid hgr
 clear hgr
 obtain ⟨FB, hFB⟩ : ∃ FB : List Ent → Option Ent, (fun l => byFrame c l f) = FB := ⟨_, rfl⟩
 have hFB' : ∀ l, byFrame c l f = FB l := fun l => by rw [← hFB]
 simp only [hFB'] at HFB HWY
 generalize frAt c l f = FA at *
 clear hFB hFB'
 obtain ⟨fi, fnm, fb⟩ := f
 simp only at hns hbs HFB HFR
 go_enter Tryz.func5, Tryz.ntmps5
 go_wp2_with fail
 rw [HW.out]
 refine HA.out.mono ?_
 rintro e w1 ⟨rfl, hb1⟩
 have HB1 : Hid (Below (w.heap.size + 2) W w1) := Lib.hid (hb1.mono (by have := HZ.out; omega))
 have HGC := Lib.hid (great24_c l _ _ w1 (HU.out w1 HB1.out).en)
 rw [HGR.out] at HGC
 clear hb1 HA
 obtain ⟨q0, q1, q2, q3, q4, q5⟩ := blk6 (HU.out w1 HB1.out).cf
 obtain ⟨p0, p1, p2⟩ := blk3' (HU.out w1 HB1.out).fr
 have hsz := (HU.out w1 HB1.out).siz
 simp only at p0 p1 p2
 go_wp2_with fail
 refine HGC.out.mono ?_
 rintro e w' ⟨rfl, hw'⟩
 rw [hw']
 clear hw' w' HGC
 cases gr with
 | true =>
  go_wp2
  go_ret
  exact ⟨rfl, (HU.out w1 HB1.out).bel⟩
 | false =>
  obtain ⟨hle, hes⟩ := entsGr_ok HGR.out HID.out
  have HES := Lib.hid hes
  clear hle hes
  by_cases hn0 : 100 < nm.size
  ·have hn0i : (100 : Int) < (nm.size : Int) := by omega
   go_wp2
   go_ret
   exact ⟨rfl, (HU.out w1 HB1.out).bel⟩
  have hn0i : ¬ (100 : Int) < (nm.size : Int) := by omega
  by_cases hn1 : 100 < fnm.size
  ·have hn1i : (100 : Int) < (fnm.size : Int) := by omega
   go_wp2
   go_ret
   exact ⟨rfl, (HU.out w1 HB1.out).bel⟩
  have hn1i : ¬ (100 : Int) < (fnm.size : Int) := by omega
  by_cases hn2 : 300 < fb.size
  ·have hn2i : (300 : Int) < (fb.size : Int) := by omega
   go_wp2
   go_ret
   exact ⟨rfl, (HU.out w1 HB1.out).bel⟩
  have hn2i : ¬ (300 : Int) < (fb.size : Int) := by omega
  have HN := Lib.hid (rgNew_c c l _ w.heap.size w1 (HU.out w1 HB1.out).en (by have := (HU.out w1 HB1.out).siz; omega) (HU.out w1 HB1.out).laid HES.out)
  unfold Cfg.val at HN
  go_wp2_with fail
  refine HN.out.mono ?_
  rintro e w3 ⟨hb3, hend⟩
  have HB3 : Hid (Below (w.heap.size + 2) W w3) := Lib.hid (HB1.out.trans (hb3.mono hsz))
  have HZ3 : Hid (w1.heap.size ≤ w3.heap.size) := Lib.hid hb3.size
  clear hb3 HN hn0 hn0i hn1 hn1i hn2 hn2i
  clear q0 q1 q2 q3 q4 q5 p0 p1 p2 hsz
  have HRN : Hid (∀ V, Below (w.heap.size + 2) W V → Calls Tryz.prog 11 #[c.val, .slice Av n cap] V fun e w' => e = .returned (.int .i64 (rgE c l)) ∧ Below V.heap.size V w') := Lib.hid (fun V hV => refNew24_c c l _ w.heap.size V (HU.out V hV).en (by have := (HU.out V hV).siz; omega) HES.out)
  unfold Cfg.val at HRN
  rcases hend with ⟨hE, g, gn, gi, rows, rfl, hm, hr⟩ | ⟨hE, rfl⟩
  ·rw [hE] at HRN
   obtain ⟨_, _, hok⟩ := rg_ok hE
   have HOK := Lib.hid hok
   have HM3 := Lib.hid hm
   have HEQ := Lib.hid hr
   have HNR : Hid (n = rows.length) := Lib.hid (by rw [hn.out, ← hr]; simp [entsOf])
   have HLN : Hid (∀ V, Below w3.heap.size w3 V → Calls Tryz.prog 18 #[.pointer (some ⟨g, 0, none⟩)] V fun e w' => e = .returned (.int .i64 n) ∧ Below V.heap.size V w') := Lib.hid (fun V hV => by
    rw [HNR.out]
    exact (rgLen_c _ _ g gn gi c rows V (HM3.out.below hV)).mono fun e w' ⟨h1, h2⟩ => ⟨h1, by rw [h2]; exact Below.refl _ _⟩)
   have HCF : Hid (∀ V, Below w3.heap.size w3 V → Calls Tryz.prog 19 #[.pointer (some ⟨g, 0, none⟩)] V fun e w' => e = .returned (.agg #[.int .i64 c.fm, .int .u32 c.mg, .int .i64 c.fr, .int .i64 c.un, .int .i64 c.de, .int .i64 c.it]) ∧ Below V.heap.size V w') := Lib.hid (fun V hV => rgCfg_c _ _ g gn gi c rows V (HM3.out.below hV))
   have HNM : Hid (∀ V, Below w3.heap.size w3 V → Below (w.heap.size + 2) W V → Calls Tryz.prog 16 #[.pointer (some ⟨g, 0, none⟩), .string nm] V (NmEnd V (byName l nm))) := Lib.hid (fun V hV hW => by
    have := rgByName_c _ _ g gn gi c rows nm V (HM3.out.below hV) (HU.out V hW).laid
    rwa [HEQ.out] at this)
   have HBF : Hid (∀ V, Below w3.heap.size w3 V → _) := Lib.hid (fun V hV => HFB.out V _ _ g gn gi rows (HM3.out.below hV))
   rw [hr] at HBF
   clear hm hr hE hok HFB
   obtain ⟨q0, q1, q2, q3, q4, q5⟩ := blk6 (HU.out w3 HB3.out).cf
   obtain ⟨p0, p1, p2⟩ := blk3' (HU.out w3 HB3.out).fr
   have hsz := (HU.out w3 HB3.out).siz
   simp only at p0 p1 p2
   go_wp2_with fail
   refine (HRN.out w3 HB3.out).mono ?_
   rintro e w4 ⟨rfl, hb4⟩
   have HB4 : Hid (Below (w.heap.size + 2) W w4) := Lib.hid (HB3.out.trans (hb4.mono hsz))
   have HV4 : Hid (Below w3.heap.size w3 w4) := Lib.hid hb4
   have hz4 := hb4.size
   clear hb4 HRN
   clear q0 q1 q2 q3 q4 q5 p0 p1 p2 hsz
   obtain ⟨q0, q1, q2, q3, q4, q5⟩ := blk6 (HU.out w4 HB4.out).cf
   obtain ⟨p0, p1, p2⟩ := blk3' (HU.out w4 HB4.out).fr
   have hsz := (HU.out w4 HB4.out).siz
   simp only at p0 p1 p2
   have hnn : ((n : Int) != (n : Int)) = false := by simp
   go_wp2_with fail
   refine wp_region_below (by kernel_rfl) (by kernel_rfl) ?_
   refine wpQuiet_run (.int .i64 0) (by rfl) (fun _ _ => by first | rfl | go_simp) ?_
   simp only [Act.put, List.setIfInBounds_toArray, List.set_cons_zero, List.set_cons_succ]
   refine wpQuiet_run (.bool false) (by rfl) (fun _ _ => by first | rfl | go_simp) ?_
   simp only [Act.put, List.setIfInBounds_toArray, List.set_cons_zero, List.set_cons_succ]
   refine wpQuiet_run (.bool false) (by rfl) (fun _ _ => by first | rfl | go_simp) ?_
   simp only [Act.put, List.setIfInBounds_toArray, List.set_cons_zero, List.set_cons_succ]
   refine wpQuiet_run (.pointer (some ⟨g, 0, none⟩)) (by rfl) (fun _ _ => by first | rfl | go_simp) ?_
   simp only [Act.put, List.setIfInBounds_toArray, List.set_cons_zero, List.set_cons_succ]
   refine wpQuiet_callB 18 _ (.int .i64 n) (by rfl) (fun _ => by first | rfl | go_simp) (fun V hV => HLN.out V (HV4.out.trans (hV.mono hz4))) ?_
   simp only [Act.put, List.setIfInBounds_toArray, List.set_cons_zero, List.set_cons_succ]
   refine wpQuiet_run (.slice Av n cap) (by rfl) (fun _ _ => by first | rfl | go_simp) ?_
   simp only [Act.put, List.setIfInBounds_toArray, List.set_cons_zero, List.set_cons_succ]
   refine wpQuiet_run (.int .i64 n) (by rfl) (fun _ _ => by first | rfl | go_simp) ?_
   simp only [Act.put, List.setIfInBounds_toArray, List.set_cons_zero, List.set_cons_succ]
   refine wpQuiet_run (.bool false) (by rfl) (fun _ _ => by first | rfl | go_simp) ?_
   simp only [Act.put, List.setIfInBounds_toArray, List.set_cons_zero, List.set_cons_succ]
   refine wpQuiet_run (.bool false) (by rfl) (fun _ _ => by first | rfl | go_simp) ?_
   simp only [Act.put, List.setIfInBounds_toArray, List.set_cons_zero, List.set_cons_succ]
   refine wpQuiet_run (.bool false) (by rfl) (fun _ _ => by first | rfl | go_simp) ?_
   simp only [Act.put, List.setIfInBounds_toArray, List.set_cons_zero, List.set_cons_succ]
   refine wpQuiet_run (.pointer (some ⟨g, 0, none⟩)) (by rfl) (fun _ _ => by first | rfl | go_simp) ?_
   simp only [Act.put, List.setIfInBounds_toArray, List.set_cons_zero, List.set_cons_succ]
   refine wpQuiet_callB 19 _ (.agg #[.int .i64 c.fm, .int .u32 c.mg, .int .i64 c.fr, .int .i64 c.un, .int .i64 c.de, .int .i64 c.it]) (by rfl) (fun _ => by first | rfl | go_simp) (fun V hV => HCF.out V (HV4.out.trans (hV.mono hz4))) ?_
   simp only [Act.put, List.setIfInBounds_toArray, List.set_cons_zero, List.set_cons_succ]
   refine wpQuiet_run (.agg #[.int .i64 c.fm, .int .u32 c.mg, .int .i64 c.fr, .int .i64 c.un, .int .i64 c.de, .int .i64 c.it]) (by rfl) (fun V hV => by obtain ⟨q0, q1, q2, q3, q4, q5⟩ := blk6 (HU.out V (HB4.out.trans (hV.mono hsz))).cf; go_simp) ?_
   simp only [Act.put, List.setIfInBounds_toArray, List.set_cons_zero, List.set_cons_succ]
   refine wpQuiet_run (.bool false) (by rfl) (fun _ _ => by first | rfl | go_simp) ?_
   simp only [Act.put, List.setIfInBounds_toArray, List.set_cons_zero, List.set_cons_succ]
   refine wpQuiet_run (.bool false) (by rfl) (fun _ _ => by first | rfl | go_simp) ?_
   simp only [Act.put, List.setIfInBounds_toArray, List.set_cons_zero, List.set_cons_succ]
   refine wpQuiet_nil ?_
   intro V5 hV5
   have HB5 := Lib.hid (HB4.out.trans (hV5.mono hsz))
   have HV5 := Lib.hid (HV4.out.trans (hV5.mono hz4))
   have hz5 := hV5.size
   clear hV5 hnn HLN HCF
   clear q0 q1 q2 q3 q4 q5 p0 p1 p2 hsz
   obtain ⟨q0, q1, q2, q3, q4, q5⟩ := blk6 (HU.out V5 HB5.out).cf
   obtain ⟨p0, p1, p2⟩ := blk3' (HU.out V5 HB5.out).fr
   have hsz := (HU.out V5 HB5.out).siz
   simp only at p0 p1 p2
   have HNM5 := Lib.hid (HNM.out V5 HV5.out HB5.out)
   clear HNM
   go_wp2_with fail
   refine HNM5.out.mono ?_
   rintro e w6 ⟨hb6, hend⟩
   have hz6 := hb6.size
   rcases nmAt_ways l nm with ⟨ha, ho⟩ | ⟨i, hi, ha, ho⟩
   ·rw [ho] at hend
    rcases hend with ⟨_, rfl⟩ | ⟨x, _, _, h, _⟩
    ·obtain ⟨W7, hW7⟩ : ∃ W7, (w6.alloc (.cells #[.int .u64 0, .string ⟨#[]⟩, .string ⟨#[]⟩] 52)).alloc (.cells #[.int .i64 0, .int .i64 0, .slice none 0 0, .int .i64 0] 55) = W7 := ⟨_, rfl⟩
     have hb7 : Below V5.heap.size V5 W7 := by rw [← hW7]; exact (hb6.alloc hz6 _).alloc (by simp; omega) _
     have hE7 : Blk W7 w6.heap.size 52 #[.int .u64 0, .string ⟨#[]⟩, .string ⟨#[]⟩] := by rw [← hW7]; exact (Blk.new _ _ _).alloc _
     have hT7 : Blk W7 (w6.heap.size + 1) 55 #[.int .i64 0, .int .i64 0, .slice none 0 0, .int .i64 0] := by rw [← hW7]; exact Blk.at_ (by simp)
     have HB7 := Lib.hid (HB5.out.trans (hb7.mono hsz))
     have HV7 := Lib.hid (HV5.out.trans (hb7.mono (by omega)))
     have HBN := Lib.hid (refByName_c l _ nm w.heap.size W7 (HU.out W7 HB7.out).en)
     rw [ha] at HBN
     obtain ⟨e0, e1, e2⟩ := blk3' hE7
     obtain ⟨t0, _, _, _, _⟩ := blk4 hT7
     have HW7 := Lib.hid hW7
     clear hW7 hb7 hE7 hT7 hb6 ha ho HNM5
     clear q0 q1 q2 q3 q4 q5 p0 p1 p2 hsz
     go_wp2_with fail
     rw [HW7.out]
     refine HBN.out.mono ?_
     rintro e w' ⟨rfl, hw'⟩
     rw [hw']
     clear hw' w' HBN
     obtain ⟨q0, q1, q2, q3, q4, q5⟩ := blk6 (HU.out W7 HB7.out).cf
     obtain ⟨p0, p1, p2⟩ := blk3' (HU.out W7 HB7.out).fr
     have hsz := (HU.out W7 HB7.out).siz
     simp only at p0 p1 p2
     go_wp2_with fail
     have HBF7 := Lib.hid (HBF.out W7 (HV7.out))
     refine HBF7.out.mono ?_
     rintro e w20 ⟨hb20, hend⟩
     have hb20 := (HB7.out).trans (hb20.mono hsz)
     have HB20 : Hid (Below (w.heap.size + 2) W w20) := Lib.hid hb20
     clear hb20
     clear q0 q1 q2 q3 q4 q5 p0 p1 p2 hsz
     obtain ⟨q0, q1, q2, q3, q4, q5⟩ := blk6 (HU.out w20 HB20.out).cf
     obtain ⟨p0, p1, p2⟩ := blk3' (HU.out w20 HB20.out).fr
     have hsz := (HU.out w20 HB20.out).siz
     simp only at p0 p1 p2
     have hlt : w.heap.size < w20.heap.size := by omega
     have hlt2 : w.heap.size + 1 < w20.heap.size := by omega
     rcases HWY.out with ⟨ha2, ho2⟩ | ⟨k, hk, ha2, ho2⟩
     ·rw [ho2] at hend
      rcases hend with ⟨_, rfl⟩ | ⟨x, h, _⟩
      ·have hb21 := HB20.out.alloc (by omega) (.cells #[.int .u64 0, .string ⟨#[]⟩, .string ⟨#[]⟩] 52)
       obtain ⟨W21, hW21⟩ : ∃ W21, w20.alloc (.cells #[.int .u64 0, .string ⟨#[]⟩, .string ⟨#[]⟩] 52) = W21 := ⟨_, rfl⟩
       rw [hW21] at hb21
       have HB21 := Lib.hid hb21
       have hY : Blk W21 w20.heap.size 52 #[.int .u64 0, .string ⟨#[]⟩, .string ⟨#[]⟩] := by rw [← hW21]; exact Blk.new _ _ _
       have HY := Lib.hid hY
       have HRF := Lib.hid (HFR.out W21 HB21.out)
       rw [ha2] at HRF
       have HW21 := Lib.hid hW21
       clear hb21 hW21 hY ha2 ho2 HBF7
       go_wp2_with fail
       rw [HW21.out]
       refine HRF.out.mono ?_
       rintro e w22 ⟨rfl, hb22⟩
       obtain ⟨y0, y1, y2⟩ := blk3' (HY.out.keep hb22 HY.out.lt)
       have HBE := Lib.hid ((HU.out W21 HB21.out).bel.trans (hb22.mono (by have := (HU.out W21 HB21.out).siz; omega)))
       clear hb22
       clear q0 q1 q2 q3 q4 q5 p0 p1 p2 hsz
       go_wp2
       go_ret
       exact ⟨rfl, HBE.out⟩
      ·cases h
     ·rw [ho2] at hend
      rcases hend with ⟨h, _⟩ | ⟨x, hx, rfl⟩
      ·cases h
      ·injection hx with hx
       have hb21 := HB20.out.alloc (by omega) (.cells #[.int .u64 x.id, .string x.name, .string x.ty] 52)
       obtain ⟨W21, hW21⟩ : ∃ W21, w20.alloc (.cells #[.int .u64 x.id, .string x.name, .string x.ty] 52) = W21 := ⟨_, rfl⟩
       rw [hW21] at hb21
       have HB21 := Lib.hid hb21
       have hY : Blk W21 w20.heap.size 52 #[.int .u64 x.id, .string x.name, .string x.ty] := by rw [← hW21]; exact Blk.new _ _ _
       have HY := Lib.hid hY
       have HRF := Lib.hid (HFR.out W21 HB21.out)
       rw [ha2] at HRF
       have HW21 := Lib.hid hW21
       have HX := Lib.hid hx
       clear hb21 hW21 hY ha2 ho2 HBF7 hx
       go_wp2_with fail
       rw [HW21.out]
       refine HRF.out.mono ?_
       rintro e w22 ⟨rfl, hb22⟩
       have HB22 : Hid (Below (w.heap.size + 2) W w22) := Lib.hid (HB21.out.trans (hb22.mono (HU.out W21 HB21.out).siz))
       have HY2 := Lib.hid (HY.out.keep hb22 HY.out.lt)
       clear hb22 hlt hlt2
       clear q0 q1 q2 q3 q4 q5 p0 p1 p2 hsz
       have hk0 : ¬ ((k : Int) < 0) := by omega
       have hkn : k < n := by have := hn.out; omega
       have hz22 := (HU.out w22 HB22.out).siz
       obtain ⟨ge, o, hA, hge, hcl⟩ := (HU.out w22 HB22.out).en.at_ hk; clear hcl; subst hA
       have HEK : Hid (∀ V, Below (w.heap.size + 2) W V → V.cell? ⟨ge, o + k * 3, none⟩ = some (.int .u64 x.id) ∧ V.cell? ⟨ge, o + k * 3 + 1, none⟩ = some (.string x.name) ∧ V.cell? ⟨ge, o + k * 3 + 2, none⟩ = some (.string x.ty)) := Lib.hid (fun V hV => by
        obtain ⟨ge', o', hA, _, e0, e1, e2⟩ := (HU.out V hV).en.at_ hk
        injection hA with hA
        injection hA with hA1 hA2
        subst hA1 hA2
        rw [HX.out] at e0 e1 e2
        exact ⟨e0, e1, e2⟩)
       go_wp2_with fail
       refine wp_region_below (by kernel_rfl) (by kernel_rfl) ?_
       refine wpQuiet_run (.bool true) (by rfl) (fun _ _ => by first | rfl | go_simp) ?_
       simp only [Act.put, List.setIfInBounds_toArray, List.set_cons_zero, List.set_cons_succ]
       refine wpQuiet_run (.bool true) (by rfl) (fun _ _ => by first | rfl | go_simp) ?_
       simp only [Act.put, List.setIfInBounds_toArray, List.set_cons_zero, List.set_cons_succ]
       refine wpQuiet_run (.agg #[.int .u64 x.id, .string x.name, .string x.ty]) (by rfl) (fun V hV => by obtain ⟨y0, y1, y2⟩ := blk3' (HY2.out.keep hV HY2.out.lt); go_simp) ?_
       simp only [Act.put, List.setIfInBounds_toArray, List.set_cons_zero, List.set_cons_succ]
       refine wpQuiet_run (.slice (some ⟨ge, o, none⟩) n cap) (by rfl) (fun _ _ => by first | rfl | go_simp) ?_
       simp only [Act.put, List.setIfInBounds_toArray, List.set_cons_zero, List.set_cons_succ]
       refine wpQuiet_run (.int .i64 k) (by rfl) (fun _ _ => by first | rfl | go_simp) ?_
       simp only [Act.put, List.setIfInBounds_toArray, List.set_cons_zero, List.set_cons_succ]
       refine wpQuiet_run (.pointer (some ⟨ge, o + k * 3, none⟩)) (by rfl) (fun _ _ => by first | rfl | go_simp) ?_
       simp only [Act.put, List.setIfInBounds_toArray, List.set_cons_zero, List.set_cons_succ]
       refine wpQuiet_run (.agg #[.int .u64 x.id, .string x.name, .string x.ty]) (by rfl) (fun V hV => by obtain ⟨y0, y1, y2⟩ := HEK.out V (HB22.out.trans (hV.mono hz22)); go_simp) ?_
       simp only [Act.put, List.setIfInBounds_toArray, List.set_cons_zero, List.set_cons_succ]
       refine wpQuiet_run (.bool true) (by rfl) (fun _ _ => by first | rfl | go_simp) ?_
       simp only [Act.put, List.setIfInBounds_toArray, List.set_cons_zero, List.set_cons_succ]
       refine wpQuiet_run (.bool true) (by rfl) (fun _ _ => by first | rfl | go_simp) ?_
       simp only [Act.put, List.setIfInBounds_toArray, List.set_cons_zero, List.set_cons_succ]
       refine wpQuiet_run (.bool true) (by rfl) (fun _ _ => by first | rfl | go_simp) ?_
       simp only [Act.put, List.setIfInBounds_toArray, List.set_cons_zero, List.set_cons_succ]
       refine wpQuiet_nil ?_
       intro V hV
       have HBE := Lib.hid ((HU.out w22 HB22.out).bel.trans (hV.mono (by omega)))
       go_wp2
       go_ret
       exact ⟨rfl, HBE.out⟩
    ·cases h
   ·rw [ho] at hend
    rcases hend with ⟨h, _⟩ | ⟨x, A6, cap6, hx, rfl, hty⟩
    ·cases h
    ·injection hx with hx
     have hoe := HOK.out.ty _ (List.getElem_mem hi)
     have hse := HES.out _ (List.getElem_mem hi)
     rw [hx] at hoe hse
     have HX0 := Lib.hid hx
     obtain ⟨W7, hW7⟩ : ∃ W7, (w6.alloc (.cells #[.int .u64 x.id, .string x.name, .string x.ty] 52)).alloc (.cells #[.int .i64 x.shape.kind, .int .i64 x.shape.size, .slice A6 x.shape.sub.length cap6, .int .i64 x.shape.tail] 55) = W7 := ⟨_, rfl⟩
     have hb67 : Below w6.heap.size w6 W7 := by rw [← hW7]; exact ((Below.refl _ w6).alloc (Nat.le_refl _) _).alloc (by simp) _
     have hb7 : Below V5.heap.size V5 W7 := hb6.trans (hb67.mono hz6)
     have hz7 := hb7.size
     have hE7 : Blk W7 w6.heap.size 52 #[.int .u64 x.id, .string x.name, .string x.ty] := by rw [← hW7]; exact (Blk.new _ _ _).alloc _
     have hT7 : Blk W7 (w6.heap.size + 1) 55 #[.int .i64 x.shape.kind, .int .i64 x.shape.size, .slice A6 x.shape.sub.length cap6, .int .i64 x.shape.tail] := by rw [← hW7]; exact Blk.at_ (by simp)
     have HT7 := Lib.hid hT7
     have HE7 := Lib.hid hE7
     have HTI : Hid (TyIn W7 W7.heap.size x.shape (.int .i64 x.shape.kind) (.int .i64 x.shape.size) (.slice A6 x.shape.sub.length cap6) (.int .i64 x.shape.tail)) := Lib.hid ((hty.below hb67).toIn)
     have HB7 := Lib.hid (HB5.out.trans (hb7.mono hsz))
     have HV7 := Lib.hid (HV5.out.trans (hb7.mono (by omega)))
     have HBN := Lib.hid (refByName_c l _ nm w.heap.size W7 (HU.out W7 HB7.out).en)
     have HG := Lib.hid (refGet20_c x.ty W7 (by have := hse.ty; omega))
     rw [hoe] at HG
     rw [ha] at HBN
     obtain ⟨e0, e1, e2⟩ := blk3' hE7
     obtain ⟨t0, _, _, _, _⟩ := blk4 hT7
     have HW7 := Lib.hid hW7
     clear hW7 hb7 hb67 hE7 hT7 hb6 ha ho HNM5 hx hoe hse hty
     clear q0 q1 q2 q3 q4 q5 p0 p1 p2 hsz
     go_wp2_with fail
     rw [HW7.out]
     refine HBN.out.mono ?_
     rintro e w' ⟨rfl, hw'⟩
     rw [hw']
     clear hw' w' HBN
     have hi0 : ¬ ((i : Int) < 0) := by omega
     have hi0' : (0 : Int) ≤ i := by omega
     have hin : i < n := by have := hn.out; omega
     obtain ⟨ge, o, hA, hge, hcl⟩ := (HU.out W7 HB7.out).en.at_ hi
     clear hcl
     subst hA
     have HEI : Hid (∀ V, Below (w.heap.size + 2) W V → V.cell? ⟨ge, o + i * 3, none⟩ = some (.int .u64 x.id) ∧ V.cell? ⟨ge, o + i * 3 + 1, none⟩ = some (.string x.name) ∧ V.cell? ⟨ge, o + i * 3 + 2, none⟩ = some (.string x.ty)) := Lib.hid (fun V hV => by
      obtain ⟨ge', o', hA, _, e0, e1, e2⟩ := (HU.out V hV).en.at_ hi
      injection hA with hA
      injection hA with hA1 hA2
      subst hA1 hA2
      rw [HX0.out] at e0 e1 e2
      exact ⟨e0, e1, e2⟩)
     obtain ⟨_, _, l2⟩ := HEI.out W7 HB7.out
     go_wp2_with fail
     refine HG.out.mono ?_
     rintro e w8 ⟨hb8, d0, d1, d2, d3, rfl, hty8⟩
     obtain ⟨A8, cap8, rfl, rfl, rfl, rfl, _⟩ := hty8.open_
     obtain ⟨W9, hW9⟩ : ∃ W9, w8.alloc (.cells #[.int .i64 x.shape.kind, .int .i64 x.shape.size, .slice A8 x.shape.sub.length cap8, .int .i64 x.shape.tail] 55) = W9 := ⟨_, rfl⟩
     have hb89 : Below w8.heap.size w8 W9 := by rw [← hW9]; exact (Below.refl _ w8).alloc (Nat.le_refl _) _
     have hb9 : Below W7.heap.size W7 W9 := hb8.trans (hb89.mono hb8.size)
     have hz9 := hb9.size
     have HT8 : Hid (Blk W9 w8.heap.size 55 #[.int .i64 x.shape.kind, .int .i64 x.shape.size, .slice A8 x.shape.sub.length cap8, .int .i64 x.shape.tail]) := Lib.hid (by rw [← hW9]; exact Blk.new _ _ _)
     have HT9 := Lib.hid (HT7.out.keep hb9 HT7.out.lt)
     have HE9 := Lib.hid (HE7.out.keep hb9 HE7.out.lt)
     have hzz := (HU.out W7 HB7.out).siz
     have HB9 := Lib.hid (HB7.out.trans (hb9.mono hzz))
     have HV9 := Lib.hid (HV7.out.trans (hb9.mono (by omega)))
     have hz90 : w3.heap.size ≤ W9.heap.size := by omega
     have hz91 : w.heap.size + 2 ≤ W9.heap.size := by omega
     have HSM : Hid (∀ V, Below W9.heap.size W9 V → Calls Tryz.prog 22 #[.agg #[.int .i64 x.shape.kind, .int .i64 x.shape.size, .slice A6 x.shape.sub.length cap6, .int .i64 x.shape.tail], .agg #[.int .i64 x.shape.kind, .int .i64 x.shape.size, .slice A8 x.shape.sub.length cap8, .int .i64 x.shape.tail]] V fun e w' => e = .returned (.bool true) ∧ Below V.heap.size V w') := Lib.hid (fun V hV =>
      refSameTy_c x.shape W9.heap.size V _ _ _ _ (((HTI.out.below hb9).mono hz9).below hV) hV.size _ _ _ _ (((hty8.below hb89).toIn).below hV))
     have HW9 := Lib.hid hW9
     clear hW9 hb89 hb9 hb8 hty8 e0 e1 e2 t0 l2 hzz hi0'
     go_wp2_with fail
     rw [HW9.out]
     refine wp_region_below (by kernel_rfl) (by kernel_rfl) ?_
     refine wpQuiet_run (.agg #[.int .u64 x.id, .string x.name, .string x.ty]) (by rfl) (fun V hV => by obtain ⟨y0, y1, y2⟩ := blk3' (HE9.out.keep hV HE9.out.lt); go_simp) ?_
     simp only [Act.put, List.setIfInBounds_toArray, List.set_cons_zero, List.set_cons_succ]
     refine wpQuiet_run (.slice (some ⟨ge, o, none⟩) n cap) (by rfl) (fun _ _ => by first | rfl | go_simp) ?_
     simp only [Act.put, List.setIfInBounds_toArray, List.set_cons_zero, List.set_cons_succ]
     refine wpQuiet_run (.int .i64 i) (by rfl) (fun _ _ => by first | rfl | go_simp) ?_
     simp only [Act.put, List.setIfInBounds_toArray, List.set_cons_zero, List.set_cons_succ]
     refine wpQuiet_run (.pointer (some ⟨ge, o + i * 3, none⟩)) (by rfl) (fun _ _ => by first | rfl | go_simp) ?_
     simp only [Act.put, List.setIfInBounds_toArray, List.set_cons_zero, List.set_cons_succ]
     refine wpQuiet_run (.agg #[.int .u64 x.id, .string x.name, .string x.ty]) (by rfl) (fun V hV => by obtain ⟨y0, y1, y2⟩ := HEI.out V (HB9.out.trans (hV.mono hz91)); go_simp) ?_
     simp only [Act.put, List.setIfInBounds_toArray, List.set_cons_zero, List.set_cons_succ]
     refine wpQuiet_run (.bool false) (by rfl) (fun _ _ => by first | rfl | go_simp) ?_
     simp only [Act.put, List.setIfInBounds_toArray, List.set_cons_zero, List.set_cons_succ]
     refine wpQuiet_run (.bool false) (by rfl) (fun _ _ => by first | rfl | go_simp) ?_
     simp only [Act.put, List.setIfInBounds_toArray, List.set_cons_zero, List.set_cons_succ]
     refine wpQuiet_run (.agg #[.int .i64 x.shape.kind, .int .i64 x.shape.size, .slice A6 x.shape.sub.length cap6, .int .i64 x.shape.tail]) (by rfl) (fun V hV => by obtain ⟨y0, y1, y2, y3, _⟩ := blk4 (HT9.out.keep hV HT9.out.lt); go_simp) ?_
     simp only [Act.put, List.setIfInBounds_toArray, List.set_cons_zero, List.set_cons_succ]
     refine wpQuiet_run (.agg #[.int .i64 x.shape.kind, .int .i64 x.shape.size, .slice A8 x.shape.sub.length cap8, .int .i64 x.shape.tail]) (by rfl) (fun V hV => by obtain ⟨y0, y1, y2, y3, _⟩ := blk4 (HT8.out.keep hV HT8.out.lt); go_simp) ?_
     simp only [Act.put, List.setIfInBounds_toArray, List.set_cons_zero, List.set_cons_succ]
     refine wpQuiet_callB 22 _ (.bool true) (by rfl) (fun _ => by first | rfl | go_simp) (fun V hV => HSM.out V hV) ?_
     simp only [Act.put, List.setIfInBounds_toArray, List.set_cons_zero, List.set_cons_succ]
     refine wpQuiet_run (.bool false) (by rfl) (fun _ _ => by first | rfl | go_simp) ?_
     simp only [Act.put, List.setIfInBounds_toArray, List.set_cons_zero, List.set_cons_succ]
     refine wpQuiet_run (.bool false) (by rfl) (fun _ _ => by first | rfl | go_simp) ?_
     simp only [Act.put, List.setIfInBounds_toArray, List.set_cons_zero, List.set_cons_succ]
     refine wpQuiet_nil ?_
     intro V10 hV10
     have HB10 := Lib.hid (HB9.out.trans (hV10.mono hz91))
     have HV10 := Lib.hid (HV9.out.trans (hV10.mono hz90))
     clear hV10 HSM hi0 hin
     obtain ⟨q0, q1, q2, q3, q4, q5⟩ := blk6 (HU.out V10 HB10.out).cf
     obtain ⟨p0, p1, p2⟩ := blk3' (HU.out V10 HB10.out).fr
     have hsz := (HU.out V10 HB10.out).siz
     simp only at p0 p1 p2
     go_wp2_with fail
     have HBF7 := Lib.hid (HBF.out V10 (HV10.out))
     refine HBF7.out.mono ?_
     rintro e w20 ⟨hb20, hend⟩
     have hb20 := (HB10.out).trans (hb20.mono hsz)
     have HB20 : Hid (Below (w.heap.size + 2) W w20) := Lib.hid hb20
     clear hb20
     clear q0 q1 q2 q3 q4 q5 p0 p1 p2 hsz
     obtain ⟨q0, q1, q2, q3, q4, q5⟩ := blk6 (HU.out w20 HB20.out).cf
     obtain ⟨p0, p1, p2⟩ := blk3' (HU.out w20 HB20.out).fr
     have hsz := (HU.out w20 HB20.out).siz
     simp only at p0 p1 p2
     have hlt : w.heap.size < w20.heap.size := by omega
     have hlt2 : w.heap.size + 1 < w20.heap.size := by omega
     rcases HWY.out with ⟨ha2, ho2⟩ | ⟨k, hk, ha2, ho2⟩
     ·rw [ho2] at hend
      rcases hend with ⟨_, rfl⟩ | ⟨x, h, _⟩
      ·have hb21 := HB20.out.alloc (by omega) (.cells #[.int .u64 0, .string ⟨#[]⟩, .string ⟨#[]⟩] 52)
       obtain ⟨W21, hW21⟩ : ∃ W21, w20.alloc (.cells #[.int .u64 0, .string ⟨#[]⟩, .string ⟨#[]⟩] 52) = W21 := ⟨_, rfl⟩
       rw [hW21] at hb21
       have HB21 := Lib.hid hb21
       have hY : Blk W21 w20.heap.size 52 #[.int .u64 0, .string ⟨#[]⟩, .string ⟨#[]⟩] := by rw [← hW21]; exact Blk.new _ _ _
       have HY := Lib.hid hY
       have HRF := Lib.hid (HFR.out W21 HB21.out)
       rw [ha2] at HRF
       have HW21 := Lib.hid hW21
       clear hb21 hW21 hY ha2 ho2 HBF7
       go_wp2_with fail
       rw [HW21.out]
       refine HRF.out.mono ?_
       rintro e w22 ⟨rfl, hb22⟩
       obtain ⟨y0, y1, y2⟩ := blk3' (HY.out.keep hb22 HY.out.lt)
       have HBE := Lib.hid ((HU.out W21 HB21.out).bel.trans (hb22.mono (by have := (HU.out W21 HB21.out).siz; omega)))
       clear hb22
       clear q0 q1 q2 q3 q4 q5 p0 p1 p2 hsz
       go_wp2
       go_ret
       exact ⟨rfl, HBE.out⟩
      ·cases h
     ·rw [ho2] at hend
      rcases hend with ⟨h, _⟩ | ⟨x, hx, rfl⟩
      ·cases h
      ·injection hx with hx
       have hb21 := HB20.out.alloc (by omega) (.cells #[.int .u64 x.id, .string x.name, .string x.ty] 52)
       obtain ⟨W21, hW21⟩ : ∃ W21, w20.alloc (.cells #[.int .u64 x.id, .string x.name, .string x.ty] 52) = W21 := ⟨_, rfl⟩
       rw [hW21] at hb21
       have HB21 := Lib.hid hb21
       have hY : Blk W21 w20.heap.size 52 #[.int .u64 x.id, .string x.name, .string x.ty] := by rw [← hW21]; exact Blk.new _ _ _
       have HY := Lib.hid hY
       have HRF := Lib.hid (HFR.out W21 HB21.out)
       rw [ha2] at HRF
       have HW21 := Lib.hid hW21
       have HX := Lib.hid hx
       clear hb21 hW21 hY ha2 ho2 HBF7 hx
       go_wp2_with fail
       rw [HW21.out]
       refine HRF.out.mono ?_
       rintro e w22 ⟨rfl, hb22⟩
       have HB22 : Hid (Below (w.heap.size + 2) W w22) := Lib.hid (HB21.out.trans (hb22.mono (HU.out W21 HB21.out).siz))
       have HY2 := Lib.hid (HY.out.keep hb22 HY.out.lt)
       clear hb22 hlt hlt2
       clear q0 q1 q2 q3 q4 q5 p0 p1 p2 hsz
       have hk0 : ¬ ((k : Int) < 0) := by omega
       have hkn : k < n := by have := hn.out; omega
       have hz22 := (HU.out w22 HB22.out).siz
       skip
       have HEK : Hid (∀ V, Below (w.heap.size + 2) W V → V.cell? ⟨ge, o + k * 3, none⟩ = some (.int .u64 x.id) ∧ V.cell? ⟨ge, o + k * 3 + 1, none⟩ = some (.string x.name) ∧ V.cell? ⟨ge, o + k * 3 + 2, none⟩ = some (.string x.ty)) := Lib.hid (fun V hV => by
        obtain ⟨ge', o', hA, _, e0, e1, e2⟩ := (HU.out V hV).en.at_ hk
        injection hA with hA
        injection hA with hA1 hA2
        subst hA1 hA2
        rw [HX.out] at e0 e1 e2
        exact ⟨e0, e1, e2⟩)
       go_wp2_with fail
       refine wp_region_below (by kernel_rfl) (by kernel_rfl) ?_
       refine wpQuiet_run (.bool true) (by rfl) (fun _ _ => by first | rfl | go_simp) ?_
       simp only [Act.put, List.setIfInBounds_toArray, List.set_cons_zero, List.set_cons_succ]
       refine wpQuiet_run (.bool true) (by rfl) (fun _ _ => by first | rfl | go_simp) ?_
       simp only [Act.put, List.setIfInBounds_toArray, List.set_cons_zero, List.set_cons_succ]
       refine wpQuiet_run (.agg #[.int .u64 x.id, .string x.name, .string x.ty]) (by rfl) (fun V hV => by obtain ⟨y0, y1, y2⟩ := blk3' (HY2.out.keep hV HY2.out.lt); go_simp) ?_
       simp only [Act.put, List.setIfInBounds_toArray, List.set_cons_zero, List.set_cons_succ]
       refine wpQuiet_run (.slice (some ⟨ge, o, none⟩) n cap) (by rfl) (fun _ _ => by first | rfl | go_simp) ?_
       simp only [Act.put, List.setIfInBounds_toArray, List.set_cons_zero, List.set_cons_succ]
       refine wpQuiet_run (.int .i64 k) (by rfl) (fun _ _ => by first | rfl | go_simp) ?_
       simp only [Act.put, List.setIfInBounds_toArray, List.set_cons_zero, List.set_cons_succ]
       refine wpQuiet_run (.pointer (some ⟨ge, o + k * 3, none⟩)) (by rfl) (fun _ _ => by first | rfl | go_simp) ?_
       simp only [Act.put, List.setIfInBounds_toArray, List.set_cons_zero, List.set_cons_succ]
       refine wpQuiet_run (.agg #[.int .u64 x.id, .string x.name, .string x.ty]) (by rfl) (fun V hV => by obtain ⟨y0, y1, y2⟩ := HEK.out V (HB22.out.trans (hV.mono hz22)); go_simp) ?_
       simp only [Act.put, List.setIfInBounds_toArray, List.set_cons_zero, List.set_cons_succ]
       refine wpQuiet_run (.bool true) (by rfl) (fun _ _ => by first | rfl | go_simp) ?_
       simp only [Act.put, List.setIfInBounds_toArray, List.set_cons_zero, List.set_cons_succ]
       refine wpQuiet_run (.bool true) (by rfl) (fun _ _ => by first | rfl | go_simp) ?_
       simp only [Act.put, List.setIfInBounds_toArray, List.set_cons_zero, List.set_cons_succ]
       refine wpQuiet_run (.bool true) (by rfl) (fun _ _ => by first | rfl | go_simp) ?_
       simp only [Act.put, List.setIfInBounds_toArray, List.set_cons_zero, List.set_cons_succ]
       refine wpQuiet_nil ?_
       intro V hV
       have HBE := Lib.hid ((HU.out w22 HB22.out).bel.trans (hV.mono (by omega)))
       go_wp2
       go_ret
       exact ⟨rfl, HBE.out⟩
  ·have hEz : (rgE c l != 0) = true := bne_iff_ne.2 hE
   have HNL : Hid (∀ V, Calls Tryz.prog 16 #[.pointer none, .string nm] V (NmEnd V none)) := Lib.hid (fun V => rgByNameNil_c nm V)
   generalize rgE c l = E at *
   clear hE HFB HFR HWY
   obtain ⟨q0, q1, q2, q3, q4, q5⟩ := blk6 (HU.out w3 HB3.out).cf
   obtain ⟨p0, p1, p2⟩ := blk3' (HU.out w3 HB3.out).fr
   have hsz := (HU.out w3 HB3.out).siz
   simp only at p0 p1 p2
   go_wp2_with fail
   refine (HRN.out w3 HB3.out).mono ?_
   rintro e w4 ⟨rfl, hb4⟩
   have HB4 : Hid (Below (w.heap.size + 2) W w4) := Lib.hid (HB3.out.trans (hb4.mono hsz))
   clear hb4 HRN
   clear q0 q1 q2 q3 q4 q5 p0 p1 p2 hsz
   obtain ⟨q0, q1, q2, q3, q4, q5⟩ := blk6 (HU.out w4 HB4.out).cf
   obtain ⟨p0, p1, p2⟩ := blk3' (HU.out w4 HB4.out).fr
   have hsz := (HU.out w4 HB4.out).siz
   simp only at p0 p1 p2
   go_wp2_with fail
   refine (HNL.out w4).mono ?_
   rintro e w6 ⟨hb6, hend⟩
   rcases hend with ⟨_, rfl⟩ | ⟨x, _, _, h, _⟩
   ·obtain ⟨W7, hW7⟩ : ∃ W7, (w6.alloc (.cells #[.int .u64 0, .string ⟨#[]⟩, .string ⟨#[]⟩] 52)).alloc (.cells #[.int .i64 0, .int .i64 0, .slice none 0 0, .int .i64 0] 55) = W7 := ⟨_, rfl⟩
    have hb7 : Below w4.heap.size w4 W7 := by rw [← hW7]; exact (hb6.alloc hb6.size _).alloc (by have := hb6.size; simp; omega) _
    have HE7 : Hid (Blk W7 w6.heap.size 52 #[.int .u64 0, .string ⟨#[]⟩, .string ⟨#[]⟩]) := Lib.hid (by rw [← hW7]; exact (Blk.new _ _ _).alloc _)
    have HT7 : Hid (Blk W7 (w6.heap.size + 1) 55 #[.int .i64 0, .int .i64 0, .slice none 0 0, .int .i64 0]) := Lib.hid (by rw [← hW7]; exact Blk.at_ (by simp))
    have HB7 := Lib.hid (HB4.out.trans (hb7.mono hsz))
    have HBF := Lib.hid (rgByFrameNil_c (.int .u64 fi) (.string fnm) (.string fb) W7)
    have hz6 := hb6.size
    have hlt : w.heap.size < w6.heap.size := by omega
    have hlt2 : w.heap.size + 1 < w6.heap.size := by omega
    have hlt3 : w.heap.size + 1 < w6.heap.size + 1 := by omega
    obtain ⟨p0', p1', p2'⟩ := blk3' ((HU.out w4 HB4.out).fr.keep hb6 (by omega))
    simp only at p0' p1' p2'
    have HW7 := Lib.hid hW7
    clear hW7 hb7 hb6
    clear q0 q1 q2 q3 q4 q5 p0 p1 p2 hsz
    go_wp2_with fail
    rw [HW7.out]
    refine HBF.out.mono ?_
    rintro e w8 ⟨rfl, hb8⟩
    have hzz := (HU.out W7 HB7.out).siz
    obtain ⟨W9, hW9⟩ : ∃ W9, w8.alloc (.cells #[.int .u64 0, .string ⟨#[]⟩, .string ⟨#[]⟩] 52) = W9 := ⟨_, rfl⟩
    have hb9 : Below W7.heap.size W7 W9 := by rw [← hW9]; exact hb8.alloc hb8.size _
    have HE9 := Lib.hid (HE7.out.keep hb9 HE7.out.lt)
    have HT9 := Lib.hid (HT7.out.keep hb9 HT7.out.lt)
    have HY9 : Hid (Blk W9 w8.heap.size 52 #[.int .u64 0, .string ⟨#[]⟩, .string ⟨#[]⟩]) := Lib.hid (by rw [← hW9]; exact Blk.new _ _ _)
    have HB9 := Lib.hid (HB7.out.trans (hb9.mono hzz))
    have HLN := Lib.hid (fun V => rgLenNil_c V)
    have HCF := Lib.hid (fun V => rgCfgNil_c V)
    have HW9 := Lib.hid hW9
    clear hW9 hb8 hb9 p0' p1' p2' hlt hlt2 hlt3
    go_wp2_with fail
    rw [HW9.out]
    refine (HLN.out W9).mono ?_
    rintro e w' ⟨rfl, hw'⟩
    rw [hw']
    clear hw' w'
    go_wp2_with fail
    refine (HCF.out W9).mono ?_
    rintro e w10 ⟨rfl, hb10⟩
    have HBE := Lib.hid ((HU.out W9 HB9.out).bel.trans (hb10.mono (by have := (HU.out W9 HB9.out).siz; omega)))
    obtain ⟨e0, e1, e2⟩ := blk3' (HE9.out.keep hb10 HE9.out.lt)
    obtain ⟨t0, _, _, _, _⟩ := blk4 (HT9.out.keep hb10 HT9.out.lt)
    obtain ⟨y0, y1, y2⟩ := blk3' (HY9.out.keep hb10 HY9.out.lt)
    clear hb10
    go_wp2
    go_ret
    exact ⟨rfl, HBE.out⟩
   ·cases h
end Go.Proofs.YtnfpgadegpmhkaaGreatDoor
