/- package registry: Encode. -/
import Derived.Test.YtnfpgadegpmhkaaGreatDoorKA11
import Derived.Test.YtnfpgadegpmhkaaGreatDoorKA35
import Derived.Test.YtnfpgadegpmhkaaGreatDoorKA6
import Derived.Test.YtnfpgadegpmhkaaGreatDoorKA39
set_option linter.unusedVariables false
set_option linter.unusedSimpArgs false
set_option maxRecDepth 100000
set_option maxHeartbeats 3200000
namespace Go.Proofs.YtnfpgadegpmhkaaGreatDoor
open Go.RowKit
def EntIs (w : World) (S : Nat → Prop) (o : Option Ent) (a0 : Nat) (a1 a2 : ByteArray) (a3 a4 : Int) (A : Option Addr) (n cap : Nat) (a6 : Int) (b : Bool) : Prop :=
 (o = none ∧ b = false ∧ a0 = 0 ∧ a1 = ⟨#[]⟩ ∧ a2 = ⟨#[]⟩) ∨ ∃ e, o = some e ∧ b = true ∧ a0 = e.id ∧ a1 = e.name ∧ a2 = e.ty ∧ TyS w S e.shape (.int .i64 a3) (.int .i64 a4) (.slice A n cap) (.int .i64 a6) ∧ EntOk e ∧ readTy e.ty.data.toList = some e.shape
theorem row7_is {w : World} {lo hi g gn gi : Nat} {c : Cfg} {l : List RgRow} (h : RgM w lo hi g gn gi c l) {o : Option Ent} {a0 : Nat} {a1 a2 : ByteArray} {a3 a4 : Int} {A : Option Addr} {n cap : Nat} {a6 : Int} {b : Bool} (hr : Row7 l o a0 a1 a2 a3 a4 A n cap a6 b) : EntIs w (fun k => g < k ∧ k < hi) o a0 a1 a2 a3 a4 A n cap a6 b := by
 rcases hr with ⟨h1, h2, h3⟩ | ⟨r, hr, h1, h2, h3⟩
 ·simp [noRw] at h3
  exact .inl ⟨h1, h2, by omega, h3.2.1, h3.2.2.1⟩
 ·obtain ⟨c0, c1, c2, c3, e, ht⟩ := h.rows r hr
  rw [e] at h3
  simp at h3
  obtain ⟨e0, e1, e2, e3, e4, e5, e6⟩ := h3
  subst e3 e4 e5 e6
  exact .inr ⟨r.1, h1, h2, by omega, e1, e2, ht, h.sz r hr, h.ok.ty r.1 (List.mem_map.2 ⟨r, hr, rfl⟩)⟩
theorem rgEnc_c (lo hi g gn gi : Nat) (c : Cfg) (l : List RgRow) (nm : ByteArray) (x : It) (B : Nat) (w : World) (c0 c1 c2 : Value) (h : RgM w lo hi g gn gi c l) (hI : ItIn w B x c0 c1 c2) (hB : B ≤ w.heap.size) (hL : Laid w) (hLC : LaidC w) (hl : c.fm ≠ 1 → x.rlp.length ≤ 1099511627776) :
 Calls Tryz.prog 10 #[.pointer (some ⟨g, 0, none⟩), .agg #[.string nm, c0, c1, c2]] w fun e w' => e = .returned (.tuple #[(rgEnc c (entsOf l) nm x).1.val, .int .i64 (rgEnc c (entsOf l) nm x).2]) ∧ Below w.heap.size w w' := by
 have hgw : g < w.heap.size := Nat.lt_of_lt_of_le h.g2 h.his
 have hnw : gn < w.heap.size := h.nm.lt
 obtain ⟨Ax, capx, rfl, rfl, rfl, _⟩ := hI.open_
 obtain ⟨W, hW⟩ : ∃ W, (w.alloc (.cells #[.string nm, .string x.text, .bool x.list, .slice Ax x.sub.length capx] 30)).alloc (.cells #[.int .u64 0, .string ⟨#[]⟩, .string ⟨#[]⟩] 40) = W := ⟨_, rfl⟩
 have hbW : Below w.heap.size w W := by rw [← hW]; exact ((Below.refl _ w).alloc (Nat.le_refl _) _).alloc (by simp) _
 have hzW : W.heap.size = w.heap.size + 2 := by rw [← hW]; simp
 have hB0 : Blk W w.heap.size 30 #[.string nm, .string x.text, .bool x.list, .slice Ax x.sub.length capx] := by rw [← hW]; exact (Blk.new w _ _).alloc _
 have hB1 : Blk W (w.heap.size + 1) 40 #[.int .u64 0, .string ⟨#[]⟩, .string ⟨#[]⟩] := by rw [← hW]; exact Blk.at_ (by simp)
 obtain ⟨a0, a1, a2, a3, a4, A, n, cap, a6, b, hrw, hlk⟩ := row7_nm h nm
 have HRW := Lib.hid (row7_is h hrw)
 have HLK := Lib.hid hlk
 have HMW := Lib.hid (h.below (hbW.mono h.his))
 have HS : Hid (∀ V : World, V.heap[g]? = W.heap[g]? ∧ V.heap[gn]? = W.heap[gn]? ∧ V.heap[w.heap.size]? = W.heap[w.heap.size]? → V.cell? ⟨g, 6, none⟩ = some (.map (some gn)) ∧ V.cell? ⟨w.heap.size, 0, none⟩ = some (.string nm) ∧ MpB V gn (nmL l)) := Lib.hid (fun V hV => ⟨Blk.cell (show Blk V g _ _ from hV.1.trans HMW.out.blk) 6, Blk.cell (show Blk V w.heap.size _ _ from hV.2.2.trans hB0) 0, HMW.out.nm.keep hV.2.1⟩)
 have HIW := Lib.hid (hI.below (hbW.mono hB))
 have HB0 := Lib.hid hB0
 have HB1 := Lib.hid hB1
 have HBW := Lib.hid hbW
 have HW := Lib.hid hW
 have HLW := Lib.hid (hL.below hbW hL.pos)
 have HLCW := Lib.hid (hLC.below hbW hLC.pos)
 have HEN : Hid (rgEnc c (entsOf l) nm x = match byName (entsOf l) nm with
  | none => (noFr, 11)
  | some e => if (rgPut c e.shape x).2 ≠ 0 then (noFr, (rgPut c e.shape x).2) else if c.fm = 1 then (⟨0, e.name, (rgPut c e.shape x).1⟩, 0) else (⟨e.id, ByteArray.empty, (rgPut c e.shape x).1⟩, 0)) := Lib.hid rfl
 generalize rgEnc c (entsOf l) nm x = R at *
 generalize byName (entsOf l) nm = O at *
 clear h hI hL hLC hW hbW hB0 hB1 hrw hlk
 go_enter Tryz.func10, Tryz.ntmps10
 go_wp2_with fail
 rw [HW.out]
 refine wp_region_last 12 (fun V => V.cell? ⟨g, 6, none⟩ = some (.map (some gn)) ∧ V.cell? ⟨w.heap.size, 0, none⟩ = some (.string nm) ∧ MpB V gn (nmL l)) (by kernel_rfl) (by kernel_rfl) ?_
 have hHeld := HS.out W.drew ⟨rfl, rfl, rfl⟩
 refine GT.tk1 0 hHeld ?_
 refine GT.tk1 1 hHeld ?_
 refine GT.tk1 2 hHeld ?_
 refine GT.tk1 3 hHeld ?_
 refine GT.tk1 4 hHeld ?_
 refine GT.tk1 5 hHeld ?_
 refine GT.tk1 6 (v := .tuple #[.agg #[.int .u64 a0, .string a1, .string a2, .int .i64 a3, .int .i64 a4, .slice A n cap, .int .i64 a6], .bool b]) hHeld ?_ (hy := by refine Or.inl ⟨by rfl, ?_⟩; intro V hV; have hl := HLK.out V hV.2.2; go_simp)
 refine GT.tk1 7 hHeld ?_
 refine GT.tk1 8 hHeld ?_
 refine GT.tk1 9 hHeld ?_
 refine GT.st1 10 (fun K hK => ?_)
 go_simp
 have hk1 : (W.alloc (.cells #[.int .u64 0, .string ⟨#[]⟩, .string ⟨#[]⟩, .int .i64 0, .int .i64 0, .slice none 0 0, .int .i64 0] 83)).drew.heap[g]? = W.heap[g]? ∧ (W.alloc (.cells #[.int .u64 0, .string ⟨#[]⟩, .string ⟨#[]⟩, .int .i64 0, .int .i64 0, .slice none 0 0, .int .i64 0] 83)).drew.heap[gn]? = W.heap[gn]? ∧ (W.alloc (.cells #[.int .u64 0, .string ⟨#[]⟩, .string ⟨#[]⟩, .int .i64 0, .int .i64 0, .slice none 0 0, .int .i64 0] 83)).drew.heap[w.heap.size]? = W.heap[w.heap.size]? := ⟨heap_alloc_old _ _ (by omega), heap_alloc_old _ _ (by omega), heap_alloc_old _ _ (by omega)⟩
 refine hK.out _ _ (HS.out _ hk1) (fun hHeld => ?_)
 clear hK K
 try simp only [Act.put, List.setIfInBounds_toArray, List.set_cons_zero, List.set_cons_succ]
 refine GT.st1 11 (fun K hK => ?_)
 go_simp
 have hk2 : (W.alloc (.cells #[.int .u64 a0, .string a1, .string a2, .int .i64 a3, .int .i64 a4, .slice A n cap, .int .i64 a6] 83)).drew.heap[g]? = W.heap[g]? ∧ (W.alloc (.cells #[.int .u64 a0, .string a1, .string a2, .int .i64 a3, .int .i64 a4, .slice A n cap, .int .i64 a6] 83)).drew.heap[gn]? = W.heap[gn]? ∧ (W.alloc (.cells #[.int .u64 a0, .string a1, .string a2, .int .i64 a3, .int .i64 a4, .slice A n cap, .int .i64 a6] 83)).drew.heap[w.heap.size]? = W.heap[w.heap.size]? := ⟨heap_alloc_old _ _ (by omega), heap_alloc_old _ _ (by omega), heap_alloc_old _ _ (by omega)⟩
 refine hK.out _ _ (HS.out _ hk2) (fun hHeld => ?_)
 clear hK K
 try simp only [Act.put, List.setIfInBounds_toArray, List.set_cons_zero, List.set_cons_succ]
 refine GT.la1 12 ?_
 go_simp
 obtain ⟨W2, hW2⟩ : ∃ W2, (W.alloc (.cells #[.int .u64 a0, .string a1, .string a2, .int .i64 a3, .int .i64 a4, .slice A n cap, .int .i64 a6] 83)).drew = W2 := ⟨_, rfl⟩
 have hb2 : Below W.heap.size W W2 := by rw [← hW2]; exact ((Below.refl _ W).alloc (Nat.le_refl _) _).drew
 have hR2 : Blk W2 (w.heap.size + 2) 83 #[.int .u64 a0, .string a1, .string a2, .int .i64 a3, .int .i64 a4, .slice A n cap, .int .i64 a6] := by rw [← hW2]; exact Blk.drew (Blk.at_ hzW)
 have HM2 := Lib.hid (HMW.out.below (hb2.mono HMW.out.his))
 have HB02 := Lib.hid (HB0.out.keep hb2 (by omega))
 have HB12 := Lib.hid (HB1.out.keep hb2 (by omega))
 have HR2 := Lib.hid hR2
 have HBL := Lib.hid (HBW.out.trans (hb2.mono (by omega)))
 have HI2 := Lib.hid (HIW.out.below (hb2.mono (by omega)))
 have HL2 := Lib.hid (HLW.out.below hb2 HLW.out.pos)
 have HLC2 := Lib.hid (HLCW.out.below hb2 HLCW.out.pos)
 have hz2 : w.heap.size + 2 < W2.heap.size := hR2.lt
 rw [hW2]
 clear hk1 hk2 hW2 hb2 hR2 HLK HS hHeld
 rcases HRW.out with ⟨rfl, rfl, rfl, rfl, rfl⟩ | ⟨e, rfl, rfl, rfl, rfl, rfl, hty, heo, hrt⟩
 ·obtain ⟨q0, q1, q2, qf0, qf1, qf2⟩ := blk3 HB12.out
  go_wp2
  obtain ⟨y0, y1, y2⟩ := set3_part HB12.out (.int .u64 0) (.string ⟨#[]⟩) (.string ⟨#[]⟩)
  refine bodyPost_ret (v := .tuple #[.agg #[.int .u64 0, .string ⟨#[]⟩, .string ⟨#[]⟩], .int .i64 11]) (by simp [results, Tryz.results10, go_sem, y0, y1, y2]) rfl ?_
  rw [HEN.out]
  exact ⟨rfl, ((HBL.out.setCell (by simp) _).setCell (by simp) _).setCell (by simp) _⟩
 ·have HT2 := Lib.hid ((hty.below HBL.out).toIn)
  obtain ⟨u0, u1, u2, u3, u4, u5, u6⟩ := blk7 HR2.out
  have HE2 : Hid (R = if (rgPut c e.shape x).2 ≠ 0 then (noFr, (rgPut c e.shape x).2) else if c.fm = 1 then (⟨0, e.name, (rgPut c e.shape x).1⟩, 0) else (⟨e.id, ByteArray.empty, (rgPut c e.shape x).1⟩, 0)) := HEN
  clear HEN
  clear hty
  by_cases hc : c.fm = 1
  ·have hpv : putV c = .func (.func 29) #[.agg #[.int .i64 c.de, .int .i64 c.it]] #[] := by unfold putV capV; rw [if_pos hc]
   have HPT : Hid (∀ V, Below W2.heap.size W2 V → Calls Tryz.prog 29 #[.agg #[.int .i64 c.de, .int .i64 c.it], .agg #[.int .i64 a3, .int .i64 a4, .slice A n cap, .int .i64 a6], .agg #[.string x.text, .bool x.list, .slice Ax x.sub.length capx]] V fun en w' => en = .returned (.tuple #[.string (rgPut c e.shape x).1, .int .i64 (rgPut c e.shape x).2]) ∧ Below V.heap.size V w') := Lib.hid (fun V hV => by
    unfold rgPut
    rw [if_pos hc]
    exact putLayout_c e.shape x c.de c.it W2.heap.size V _ _ _ _ _ _ _ (HT2.out.below hV) ((HI2.out.below (hV.mono (by omega))).mono (by omega)) hV.size (HL2.out.below hV HL2.out.pos) (HLC2.out.below hV HLC2.out.pos))
   rw [if_pos hc] at HE2
   have hf1 : ((c.fm : Int) == 1) = true := beq_iff_eq.2 hc
   have HS2 : Hid (∀ V, Below W2.heap.size W2 V → V.cell? ⟨g, 8, none⟩ = some (.func (.func 29) #[.agg #[.int .i64 c.de, .int .i64 c.it]] #[]) ∧ V.cell? ⟨w.heap.size + 2, 3, none⟩ = some (.int .i64 a3) ∧ V.cell? ⟨w.heap.size + 2, 4, none⟩ = some (.int .i64 a4) ∧ V.cell? ⟨w.heap.size + 2, 5, none⟩ = some (.slice A n cap) ∧ V.cell? ⟨w.heap.size + 2, 6, none⟩ = some (.int .i64 a6) ∧ V.cell? ⟨w.heap.size, 1, none⟩ = some (.string x.text) ∧ V.cell? ⟨w.heap.size, 2, none⟩ = some (.bool x.list) ∧ V.cell? ⟨w.heap.size, 3, none⟩ = some (.slice Ax x.sub.length capx)) := Lib.hid (fun V hV => by
    obtain ⟨_, _, _, y3, y4, y5, y6⟩ := blk7 (HR2.out.keep hV (by omega))
    obtain ⟨_, z1, z2, z3, _⟩ := blk4 (HB02.out.keep hV (by omega))
    have hp := (HM2.out.below (hV.mono HM2.out.his)).cells.2.2.2.1
    rw [hpv] at hp
    exact ⟨hp, y3, y4, y5, y6, z1, z2, z3⟩)
   generalize (rgPut c e.shape x).1 = PS at *
   generalize (rgPut c e.shape x).2 = PE at *
   clear hpv hc
   go_wp2_with fail
   refine wp_region_last 14 (fun V => V.cell? ⟨g, 8, none⟩ = some (.func (.func 29) #[.agg #[.int .i64 c.de, .int .i64 c.it]] #[]) ∧ V.cell? ⟨w.heap.size + 2, 3, none⟩ = some (.int .i64 a3) ∧ V.cell? ⟨w.heap.size + 2, 4, none⟩ = some (.int .i64 a4) ∧ V.cell? ⟨w.heap.size + 2, 5, none⟩ = some (.slice A n cap) ∧ V.cell? ⟨w.heap.size + 2, 6, none⟩ = some (.int .i64 a6) ∧ V.cell? ⟨w.heap.size, 1, none⟩ = some (.string x.text) ∧ V.cell? ⟨w.heap.size, 2, none⟩ = some (.bool x.list) ∧ V.cell? ⟨w.heap.size, 3, none⟩ = some (.slice Ax x.sub.length capx)) (by kernel_rfl) (by kernel_rfl) ?_
   have hHeld := HS2.out W2.drew blw
   refine GT.tk1 0 hHeld ?_
   refine GT.tk1 1 hHeld ?_
   refine GT.tk1 2 hHeld ?_
   refine GT.tk1 3 hHeld ?_
   refine GT.tk1 4 hHeld ?_
   refine GT.tk1 5 hHeld ?_
   refine GT.tk1 6 hHeld ?_
   refine GT.tk1 7 hHeld ?_
   refine GT.tk1 8 hHeld ?_
   refine GT.st1 9 (fun K hK => ?_)
   go_simp
   refine (HPT.out W2.drew blw).mono ?_
   rintro en w3 ⟨rfl, hb3⟩
   go_wp2_with fail
   have hb3' : Below W2.heap.size W2 w3 := (show Below W2.heap.size W2 W2.drew from blw).trans hb3
   refine hK.out _ _ (HS2.out w3 hb3') (fun hHeld => ?_)
   clear hK K
   try simp only [Act.put, List.setIfInBounds_toArray, List.set_cons_zero, List.set_cons_succ]
   refine GT.tk1 10 hHeld ?_
   refine GT.tk1 11 hHeld ?_
   refine GT.tk1 12 hHeld ?_
   refine GT.tk1 13 hHeld ?_
   refine GT.la1 14 ?_
   go_simp
   have g0 := (HM2.out.below (hb3'.mono HM2.out.his)).cells.1
   have hB13 := HB12.out.keep hb3' (by omega)
   have hR3 := HR2.out.keep hb3' (by omega)
   have HB3 := Lib.hid (HBL.out.trans (hb3'.mono (by omega)))
   have HB13 := Lib.hid hB13
   clear hb3 hb3' hHeld u0 u1 u2 u3 u4 u5 u6
   obtain ⟨q0, q1, q2, qf0, qf1, qf2⟩ := blk3 hB13
   obtain ⟨u0, u1, u2, u3, u4, u5, u6⟩ := blk7 hR3
   clear hB13 hR3
   rcases beq0 PE with ⟨he, z1, z2⟩ | ⟨he, z1, z2⟩
   ·subst he
    rw [if_neg (by simp)] at HE2
    go_wp2
    obtain ⟨y0, y1, y2⟩ := set3_part HB13.out (.int .u64 0) (.string e.name) (.string PS)
    refine bodyPost_ret (v := .tuple #[.agg #[(.int .u64 0), (.string e.name), .string PS], .int .i64 0]) (by simp [results, Tryz.results10, go_sem, y0, y1, y2]) rfl ?_
    rw [HE2.out]
    exact ⟨rfl, ((HB3.out.setCell (by simp) _).setCell (by simp) _).setCell (by simp) _⟩
   ·rw [if_pos he] at HE2
    go_wp2
    obtain ⟨y0, y1, y2⟩ := set3_part HB13.out (.int .u64 0) (.string ⟨#[]⟩) (.string ⟨#[]⟩)
    refine bodyPost_ret (v := .tuple #[.agg #[.int .u64 0, .string ⟨#[]⟩, .string ⟨#[]⟩], .int .i64 PE]) (by simp [results, Tryz.results10, go_sem, y0, y1, y2]) rfl ?_
    rw [HE2.out]
    exact ⟨rfl, ((HB3.out.setCell (by simp) _).setCell (by simp) _).setCell (by simp) _⟩
  ·have hpv : putV c = .func (.func 27) #[.agg #[.int .i64 c.de, .int .i64 c.it]] #[] := by unfold putV capV; rw [if_neg hc]
   have HPT : Hid (∀ V, Below W2.heap.size W2 V → Calls Tryz.prog 27 #[.agg #[.int .i64 c.de, .int .i64 c.it], .agg #[.int .i64 a3, .int .i64 a4, .slice A n cap, .int .i64 a6], .agg #[.string x.text, .bool x.list, .slice Ax x.sub.length capx]] V fun en w' => en = .returned (.tuple #[.string (rgPut c e.shape x).1, .int .i64 (rgPut c e.shape x).2]) ∧ Below V.heap.size V w') := Lib.hid (fun V hV => by
    unfold rgPut
    rw [if_neg hc]
    exact putTree_c e.shape x c.de c.it W2.heap.size V _ _ _ _ _ _ _ (HT2.out.below hV) ((HI2.out.below (hV.mono (by omega))).mono (by omega)) hV.size (HL2.out.below hV HL2.out.pos) (hl hc))
   rw [if_neg hc] at HE2
   have hf1 : ((c.fm : Int) == 1) = false := beq_eq_false_iff_ne.2 hc
   have HS2 : Hid (∀ V, Below W2.heap.size W2 V → V.cell? ⟨g, 8, none⟩ = some (.func (.func 27) #[.agg #[.int .i64 c.de, .int .i64 c.it]] #[]) ∧ V.cell? ⟨w.heap.size + 2, 3, none⟩ = some (.int .i64 a3) ∧ V.cell? ⟨w.heap.size + 2, 4, none⟩ = some (.int .i64 a4) ∧ V.cell? ⟨w.heap.size + 2, 5, none⟩ = some (.slice A n cap) ∧ V.cell? ⟨w.heap.size + 2, 6, none⟩ = some (.int .i64 a6) ∧ V.cell? ⟨w.heap.size, 1, none⟩ = some (.string x.text) ∧ V.cell? ⟨w.heap.size, 2, none⟩ = some (.bool x.list) ∧ V.cell? ⟨w.heap.size, 3, none⟩ = some (.slice Ax x.sub.length capx)) := Lib.hid (fun V hV => by
    obtain ⟨_, _, _, y3, y4, y5, y6⟩ := blk7 (HR2.out.keep hV (by omega))
    obtain ⟨_, z1, z2, z3, _⟩ := blk4 (HB02.out.keep hV (by omega))
    have hp := (HM2.out.below (hV.mono HM2.out.his)).cells.2.2.2.1
    rw [hpv] at hp
    exact ⟨hp, y3, y4, y5, y6, z1, z2, z3⟩)
   generalize (rgPut c e.shape x).1 = PS at *
   generalize (rgPut c e.shape x).2 = PE at *
   clear hpv hc
   go_wp2_with fail
   refine wp_region_last 14 (fun V => V.cell? ⟨g, 8, none⟩ = some (.func (.func 27) #[.agg #[.int .i64 c.de, .int .i64 c.it]] #[]) ∧ V.cell? ⟨w.heap.size + 2, 3, none⟩ = some (.int .i64 a3) ∧ V.cell? ⟨w.heap.size + 2, 4, none⟩ = some (.int .i64 a4) ∧ V.cell? ⟨w.heap.size + 2, 5, none⟩ = some (.slice A n cap) ∧ V.cell? ⟨w.heap.size + 2, 6, none⟩ = some (.int .i64 a6) ∧ V.cell? ⟨w.heap.size, 1, none⟩ = some (.string x.text) ∧ V.cell? ⟨w.heap.size, 2, none⟩ = some (.bool x.list) ∧ V.cell? ⟨w.heap.size, 3, none⟩ = some (.slice Ax x.sub.length capx)) (by kernel_rfl) (by kernel_rfl) ?_
   have hHeld := HS2.out W2.drew blw
   refine GT.tk1 0 hHeld ?_
   refine GT.tk1 1 hHeld ?_
   refine GT.tk1 2 hHeld ?_
   refine GT.tk1 3 hHeld ?_
   refine GT.tk1 4 hHeld ?_
   refine GT.tk1 5 hHeld ?_
   refine GT.tk1 6 hHeld ?_
   refine GT.tk1 7 hHeld ?_
   refine GT.tk1 8 hHeld ?_
   refine GT.st1 9 (fun K hK => ?_)
   go_simp
   refine (HPT.out W2.drew blw).mono ?_
   rintro en w3 ⟨rfl, hb3⟩
   go_wp2_with fail
   have hb3' : Below W2.heap.size W2 w3 := (show Below W2.heap.size W2 W2.drew from blw).trans hb3
   refine hK.out _ _ (HS2.out w3 hb3') (fun hHeld => ?_)
   clear hK K
   try simp only [Act.put, List.setIfInBounds_toArray, List.set_cons_zero, List.set_cons_succ]
   refine GT.tk1 10 hHeld ?_
   refine GT.tk1 11 hHeld ?_
   refine GT.tk1 12 hHeld ?_
   refine GT.tk1 13 hHeld ?_
   refine GT.la1 14 ?_
   go_simp
   have g0 := (HM2.out.below (hb3'.mono HM2.out.his)).cells.1
   have hB13 := HB12.out.keep hb3' (by omega)
   have hR3 := HR2.out.keep hb3' (by omega)
   have HB3 := Lib.hid (HBL.out.trans (hb3'.mono (by omega)))
   have HB13 := Lib.hid hB13
   clear hb3 hb3' hHeld u0 u1 u2 u3 u4 u5 u6
   obtain ⟨q0, q1, q2, qf0, qf1, qf2⟩ := blk3 hB13
   obtain ⟨u0, u1, u2, u3, u4, u5, u6⟩ := blk7 hR3
   clear hB13 hR3
   rcases beq0 PE with ⟨he, z1, z2⟩ | ⟨he, z1, z2⟩
   ·subst he
    rw [if_neg (by simp)] at HE2
    go_wp2
    obtain ⟨y0, y1, y2⟩ := set3_part HB13.out (.int .u64 e.id) (.string ⟨#[]⟩) (.string PS)
    refine bodyPost_ret (v := .tuple #[.agg #[(.int .u64 e.id), (.string ⟨#[]⟩), .string PS], .int .i64 0]) (by simp [results, Tryz.results10, go_sem, y0, y1, y2]) rfl ?_
    rw [HE2.out]
    exact ⟨rfl, ((HB3.out.setCell (by simp) _).setCell (by simp) _).setCell (by simp) _⟩
   ·rw [if_pos he] at HE2
    go_wp2
    obtain ⟨y0, y1, y2⟩ := set3_part HB13.out (.int .u64 0) (.string ⟨#[]⟩) (.string ⟨#[]⟩)
    refine bodyPost_ret (v := .tuple #[.agg #[.int .u64 0, .string ⟨#[]⟩, .string ⟨#[]⟩], .int .i64 PE]) (by simp [results, Tryz.results10, go_sem, y0, y1, y2]) rfl ?_
    rw [HE2.out]
    exact ⟨rfl, ((HB3.out.setCell (by simp) _).setCell (by simp) _).setCell (by simp) _⟩
def DcEnd (w : World) (D : Int × Ms) (e : Ending) (w' : World) : Prop := Below w.heap.size w w' ∧ ∃ d0 d1 d2 d3, e = .returned (.tuple #[.agg #[d0, d1, d2, d3], .int .i64 D.1]) ∧ MsS w' (w.heap.size ≤ ·) D.2 d0 d1 d2 d3
theorem noMs_S (w : World) (S : Nat → Prop) : MsS w S noMs (.string ⟨#[]⟩) (.string ⟨#[]⟩) (.bool false) (.slice none 0 0) := ⟨rfl, by simp [noMs, ByteArray.size], noIt_S w S⟩
theorem set4_part {w : World} {g : Nat} {t : TypeId} {z0 z1 z2 z3 : Value} (h : Blk w g t #[z0, z1, z2, z3]) (v0 v1 v2 v3 : Value) : (w.setCell ⟨g, 0, none⟩ v0).cell? ⟨g, 0, none⟩ = some v0 ∧ ((w.setCell ⟨g, 0, none⟩ v0).setCell ⟨g, 1, none⟩ v1).cell? ⟨g, 1, none⟩ = some v1 ∧ (((w.setCell ⟨g, 0, none⟩ v0).setCell ⟨g, 1, none⟩ v1).setCell ⟨g, 2, none⟩ v2).cell? ⟨g, 2, none⟩ = some v2 ∧ ((((w.setCell ⟨g, 0, none⟩ v0).setCell ⟨g, 1, none⟩ v1).setCell ⟨g, 2, none⟩ v2).setCell ⟨g, 3, none⟩ v3).cell? ⟨g, 3, none⟩ = some v3 := by
 have h0 : Blk _ g t #[v0, z1, z2, z3] := h.store (i := 0) (u := v0) rfl
 have h1 : Blk _ g t #[v0, v1, z2, z3] := h0.store (i := 1) (u := v1) rfl
 have h2 : Blk _ g t #[v0, v1, v2, z3] := h1.store (i := 2) (u := v2) rfl
 have h3 : Blk _ g t #[v0, v1, v2, v3] := h2.store (i := 3) (u := v3) rfl
 exact ⟨h0.cell 0, h1.cell 1, h2.cell 2, h3.cell 3⟩
theorem set4_only (w : World) (g : Nat) (v0 v1 v2 v3 : Value) : Only [g] w ((((w.setCell ⟨g, 0, none⟩ v0).setCell ⟨g, 1, none⟩ v1).setCell ⟨g, 2, none⟩ v2).setCell ⟨g, 3, none⟩ v3) := ((((Only.refl _ w).setCell (by simp) _).setCell (by simp) _).setCell (by simp) _).setCell (by simp) _
theorem rgDec_c (lo hi g gn gi : Nat) (c : Cfg) (l : List RgRow) (f : Fr) (w : World) (h : RgM w lo hi g gn gi c l) (hL : Laid w) (hLC : LaidC w) (hs : f.body.size ≤ 1099511627776) :
 Calls Tryz.prog 13 #[.pointer (some ⟨g, 0, none⟩), .agg #[.int .u64 f.id, .string f.nm, .string f.body]] w fun e w' => DcEnd w (rgDec c (entsOf l) f) e w' := by
 have hgw : g < w.heap.size := Nat.lt_of_lt_of_le h.g2 h.his
 obtain ⟨W, hW⟩ : ∃ W, (w.alloc (.cells #[.int .u64 f.id, .string f.nm, .string f.body] 40)).alloc (.cells #[.string ⟨#[]⟩, .string ⟨#[]⟩, .bool false, .slice none 0 0] 30) = W := ⟨_, rfl⟩
 have hbW : Below w.heap.size w W := by rw [← hW]; exact ((Below.refl _ w).alloc (Nat.le_refl _) _).alloc (by simp) _
 have hzW : W.heap.size = w.heap.size + 2 := by rw [← hW]; simp
 have hB0 : Blk W w.heap.size 40 #[.int .u64 f.id, .string f.nm, .string f.body] := by rw [← hW]; exact (Blk.new w _ _).alloc _
 have hB1 : Blk W (w.heap.size + 1) 30 #[.string ⟨#[]⟩, .string ⟨#[]⟩, .bool false, .slice none 0 0] := by rw [← hW]; exact Blk.at_ (by simp)
 have HMW := Lib.hid (h.below (hbW.mono h.his))
 have HOF := Lib.hid (rgOf_c lo hi g gn gi c l f W HMW.out)
 have HB0 := Lib.hid hB0
 have HB1 := Lib.hid hB1
 have HBW := Lib.hid hbW
 have HW := Lib.hid hW
 have HLW := Lib.hid (hL.below hbW hL.pos)
 have HLCW := Lib.hid (hLC.below hbW hLC.pos)
 have HEN : Hid (rgDec c (entsOf l) f = match byFrame c (entsOf l) f with
  | none => (11, noMs)
  | some e => if (rgGet c e.shape f.body).1 = 0 then (0, ⟨e.name, (rgGet c e.shape f.body).2⟩) else if (rgGet c e.shape f.body).1 = 2 then (3, noMs) else ((rgGet c e.shape f.body).1, noMs)) := Lib.hid rfl
 obtain ⟨r0, r1, r2, _⟩ := blk3 hB0
 obtain ⟨id, nm, body⟩ := f
 simp only at r0 r1 r2 hs HOF HB0 HW
 generalize rgDec c (entsOf l) ⟨id, nm, body⟩ = R at *
 clear h hL hLC hW hbW hB0 hB1
 go_enter Tryz.func13, Tryz.ntmps13
 go_wp2_with fail
 rw [HW.out]
 refine HOF.out.mono ?_
 rintro e w1 ⟨hb1, a0, a1, a2, a3, a4, A, n, cap, a6, b, rfl, hrw⟩
 have HRW := Lib.hid (row7_is HMW.out hrw)
 obtain ⟨W2, hW2⟩ : ∃ W2, w1.alloc (.cells #[.int .u64 a0, .string a1, .string a2, .int .i64 a3, .int .i64 a4, .slice A n cap, .int .i64 a6] 83) = W2 := ⟨_, rfl⟩
 have hb2 : Below W.heap.size W W2 := by rw [← hW2]; exact hb1.alloc hb1.size _
 have hz1 : w.heap.size + 2 ≤ w1.heap.size := by have := hb1.size; omega
 have HR2 : Hid (Blk W2 w1.heap.size 83 #[.int .u64 a0, .string a1, .string a2, .int .i64 a3, .int .i64 a4, .slice A n cap, .int .i64 a6]) := Lib.hid (by rw [← hW2]; exact Blk.new _ _ _)
 have HM2 := Lib.hid (HMW.out.below (hb2.mono HMW.out.his))
 have HB02 := Lib.hid (HB0.out.keep hb2 (by omega))
 have HB12 := Lib.hid (HB1.out.keep hb2 (by omega))
 have HBL := Lib.hid (HBW.out.trans (hb2.mono (by omega)))
 have HL2 := Lib.hid (HLW.out.below hb2 HLW.out.pos)
 have HLC2 := Lib.hid (HLCW.out.below hb2 HLCW.out.pos)
 have HBX := Lib.hid hb2
 have HB11 := Lib.hid (HB1.out.keep hb1 (by omega))
 have HBL1 := Lib.hid (HBW.out.trans (hb1.mono (by omega)))
 have hlw : w.heap.size + 1 < w1.heap.size := by omega
 have hz2 : w1.heap.size < W2.heap.size := HR2.out.lt
 have HW2 := Lib.hid hW2
 clear hb1 hb2 hrw hW2 HOF r0 r1 r2
 rcases HRW.out with ⟨hO, rfl, rfl, rfl, rfl⟩ | ⟨e, hO, rfl, rfl, rfl, rfl, hty, heo, hrt⟩
 ·rw [hO] at HEN
  clear HRW hO
  obtain ⟨q0, q1, q2, q3, qf0, qf1, qf2, qf3⟩ := blk4 HB11.out
  go_wp2
  obtain ⟨y0, y1, y2, y3⟩ := set4_part HB11.out (.string ⟨#[]⟩) (.string ⟨#[]⟩) (.bool false) (.slice none 0 0)
  refine bodyPost_ret (v := .tuple #[.agg #[.string ⟨#[]⟩, .string ⟨#[]⟩, .bool false, .slice none 0 0], .int .i64 11]) (by simp [results, Tryz.results13, go_sem, y0, y1, y2, y3, World.cell?_alloc_lt, hlw]) rfl ?_
  rw [HEN.out]
  exact ⟨(HBL1.out.trans ((set4_only w1 (w.heap.size + 1) _ _ _ _).below HBL1.out.size (by simp))).alloc (by simp [World.setCell]; omega) _, _, _, _, _, rfl, noMs_S _ _⟩
 ·have HT2 := Lib.hid ((hty.below HBX.out).toIn)
  rw [hO] at HEN
  have HE2 : Hid (R = if (rgGet c e.shape body).1 = 0 then (0, ⟨e.name, (rgGet c e.shape body).2⟩) else if (rgGet c e.shape body).1 = 2 then (3, noMs) else ((rgGet c e.shape body).1, noMs)) := HEN
  have hnm := heo.name
  clear HEN HRW hO hty heo hrt
  by_cases hc : c.fm = 1
  ·have hpv : getV c = .func (.func 30) #[.agg #[.int .i64 c.de, .int .i64 c.it]] #[] := by unfold getV capV; rw [if_pos hc]
   have HPT : Hid (∀ V, Below W2.heap.size W2 V → Calls Tryz.prog 30 #[.agg #[.int .i64 c.de, .int .i64 c.it], .agg #[.int .i64 a3, .int .i64 a4, .slice A n cap, .int .i64 a6], .string body] V fun en w' => GtEnd V w' (rgGet c e.shape body).2 (rgGet c e.shape body).1 en) := Lib.hid (fun V hV => by
    unfold rgGet
    rw [if_pos hc]
    exact getLayout_c e.shape body c.de c.it W2.heap.size V _ _ _ _ (HT2.out.below hV) hV.size (HL2.out.below hV HL2.out.pos) (HLC2.out.below hV HLC2.out.pos) hs)
   have HS2 : Hid (∀ V, Below W2.heap.size W2 V → V.cell? ⟨g, 9, none⟩ = some (.func (.func 30) #[.agg #[.int .i64 c.de, .int .i64 c.it]] #[]) ∧ V.cell? ⟨w1.heap.size, 3, none⟩ = some (.int .i64 a3) ∧ V.cell? ⟨w1.heap.size, 4, none⟩ = some (.int .i64 a4) ∧ V.cell? ⟨w1.heap.size, 5, none⟩ = some (.slice A n cap) ∧ V.cell? ⟨w1.heap.size, 6, none⟩ = some (.int .i64 a6) ∧ V.cell? ⟨w.heap.size, 2, none⟩ = some (.string body)) := Lib.hid (fun V hV => by
    obtain ⟨_, _, _, y3, y4, y5, y6⟩ := blk7 (HR2.out.keep hV (by omega))
    obtain ⟨_, _, z2, _⟩ := blk3 (HB02.out.keep hV (by omega))
    have hp := (HM2.out.below (hV.mono HM2.out.his)).cells.2.2.2.2
    rw [hpv] at hp
    exact ⟨hp, y3, y4, y5, y6, z2⟩)
   generalize (rgGet c e.shape body).1 = PE at *
   generalize (rgGet c e.shape body).2 = PX at *
   clear hpv hc
   go_wp2_with fail
   rw [HW2.out]
   refine wp_region_last 15 (fun V => V.cell? ⟨g, 9, none⟩ = some (.func (.func 30) #[.agg #[.int .i64 c.de, .int .i64 c.it]] #[]) ∧ V.cell? ⟨w1.heap.size, 3, none⟩ = some (.int .i64 a3) ∧ V.cell? ⟨w1.heap.size, 4, none⟩ = some (.int .i64 a4) ∧ V.cell? ⟨w1.heap.size, 5, none⟩ = some (.slice A n cap) ∧ V.cell? ⟨w1.heap.size, 6, none⟩ = some (.int .i64 a6) ∧ V.cell? ⟨w.heap.size, 2, none⟩ = some (.string body)) (by kernel_rfl) (by kernel_rfl) ?_
   have hHeld := HS2.out W2.drew blw
   refine GT.tk1 0 hHeld ?_
   refine GT.tk1 1 hHeld ?_
   refine GT.tk1 2 hHeld ?_
   refine GT.tk1 3 hHeld ?_
   refine GT.tk1 4 hHeld ?_
   refine GT.tk1 5 hHeld ?_
   refine GT.tk1 6 hHeld ?_
   refine GT.tk1 7 hHeld ?_
   refine GT.tk1 8 hHeld ?_
   refine GT.two (i := 9) (j := 13) (by simp only [List.getElem?_toArray, List.getElem?_cons_zero, List.getElem?_cons_succ]; rfl) (by simp only [List.getElem?_toArray, List.getElem?_cons_zero, List.getElem?_cons_succ]; rfl) (by kernel_rfl) (by kernel_rfl) (by kernel_rfl) (fun K hK => ?_) (fun K hK => ?_)
   ·go_simp
    refine (HPT.out W2.drew blw).mono ?_
    rintro en w3 ⟨hb3, d0, d1, d2, rfl, hX⟩
    obtain ⟨ax, bx, rfl, rfl, rfl, _⟩ := hX.open_
    have hb3' : Below W2.heap.size W2 w3 := (show Below W2.heap.size W2 W2.drew from blw).trans hb3
    go_wp2_with fail
    refine hK.out _ _ (HS2.out w3 hb3') (fun hHeld => ?_)
    clear hK K
    try simp only [Act.put, List.setIfInBounds_toArray, List.set_cons_zero, List.set_cons_succ]
    refine GT.tk1 10 hHeld ?_
    refine GT.tk1 11 hHeld ?_
    refine GT.tk1 12 hHeld ?_
    refine GT.st1 13 (fun K hK => ?_)
    go_simp
    refine hK.out _ _ (HS2.out _ (hb3'.alloc hb3'.size _)) (fun hHeld => ?_)
    clear hK K
    try simp only [Act.put, List.setIfInBounds_toArray, List.set_cons_zero, List.set_cons_succ]
    refine GT.st1 14 (fun K hK => ?_)
    go_simp
    refine hK.out _ _ (HS2.out _ (hb3'.alloc hb3'.size _)) (fun hHeld => ?_)
    clear hK K
    try simp only [Act.put, List.setIfInBounds_toArray, List.set_cons_zero, List.set_cons_succ]
    refine GT.la1 15 ?_
    go_simp
    obtain ⟨W5, hW5⟩ : ∃ W5, w3.alloc (.cells #[.string PX.text, .bool PX.list, .slice ax PX.sub.length bx] 28) = W5 := ⟨_, rfl⟩
    have HB5 : Hid (Below W2.heap.size W2 W5) := Lib.hid (by rw [← hW5]; exact hb3'.alloc hb3'.size _)
    have hT8 : Blk W5 w3.heap.size 28 #[.string PX.text, .bool PX.list, .slice ax PX.sub.length bx] := by rw [← hW5]; exact Blk.new _ _ _
    have HX5 : Hid (ItS W5 (W2.heap.size ≤ ·) PX (.string PX.text) (.bool PX.list) (.slice ax PX.sub.length bx)) := Lib.hid (by rw [← hW5]; exact hX.below ((Below.refl _ _).alloc (Nat.le_refl _) _))
    rw [hW5]
    clear hW5 hb3 hb3' hX hHeld
    have hB15 := HB12.out.keep HB5.out (by omega)
    have hR5 := HR2.out.keep HB5.out (by omega)
    have HB15 := Lib.hid hB15
    have HBE := Lib.hid (HBL.out.trans (HB5.out.mono (by omega)))
    obtain ⟨q0, q1, q2, q3, qf0, qf1, qf2, qf3⟩ := blk4 hB15
    obtain ⟨u0, u1, u2, u3, u4, u5, u6⟩ := blk7 hR5
    obtain ⟨t0, t1, t2⟩ := blk3' hT8
    clear hB15 hR5 hT8
    rcases beq0 PE with ⟨he, z1, z2⟩ | ⟨he, z1, z2⟩
    ·subst he
     rw [if_pos rfl] at HE2
     go_wp2
     obtain ⟨y0, y1, y2, y3⟩ := set4_part HB15.out (.string e.name) (.string PX.text) (.bool PX.list) (.slice ax PX.sub.length bx)
     refine bodyPost_ret (v := .tuple #[.agg #[.string e.name, .string PX.text, .bool PX.list, .slice ax PX.sub.length bx], .int .i64 0]) (by simp [results, Tryz.results13, go_sem, y0, y1, y2, y3]) rfl ?_
     rw [HE2.out]
     exact ⟨HBE.out.trans ((set4_only W5 (w.heap.size + 1) _ _ _ _).below HBE.out.size (by simp)), _, _, _, _, rfl, rfl, by simp only; omega, HX5.out.only (L := [w.heap.size + 1]) (set4_only W5 (w.heap.size + 1) _ _ _ _) (by simp; omega) (fun k _ hk => by have hk : W2.heap.size ≤ k := hk; show w.heap.size ≤ k; omega)⟩
    ·rw [if_neg he] at HE2
     by_cases h2 : PE = 2
     ·have z3 : (PE == 2) = true := beq_iff_eq.2 h2
      rw [if_pos h2] at HE2
      go_wp2
      obtain ⟨y0, y1, y2, y3⟩ := set4_part HB15.out (.string ⟨#[]⟩) (.string ⟨#[]⟩) (.bool false) (.slice none 0 0)
      refine bodyPost_ret (v := .tuple #[.agg #[.string ⟨#[]⟩, .string ⟨#[]⟩, .bool false, .slice none 0 0], .int .i64 3]) (by simp [results, Tryz.results13, go_sem, y0, y1, y2, y3]) rfl ?_
      rw [HE2.out]
      exact ⟨HBE.out.trans ((set4_only W5 (w.heap.size + 1) _ _ _ _).below HBE.out.size (by simp)), _, _, _, _, rfl, noMs_S _ _⟩
     ·have z3 : (PE == 2) = false := beq_eq_false_iff_ne.2 h2
      rw [if_neg h2] at HE2
      go_wp2
      obtain ⟨y0, y1, y2, y3⟩ := set4_part HB15.out (.string ⟨#[]⟩) (.string ⟨#[]⟩) (.bool false) (.slice none 0 0)
      refine bodyPost_ret (v := .tuple #[.agg #[.string ⟨#[]⟩, .string ⟨#[]⟩, .bool false, .slice none 0 0], .int .i64 PE]) (by simp [results, Tryz.results13, go_sem, y0, y1, y2, y3]) rfl ?_
      rw [HE2.out]
      exact ⟨HBE.out.trans ((set4_only W5 (w.heap.size + 1) _ _ _ _).below HBE.out.size (by simp)), _, _, _, _, rfl, noMs_S _ _⟩
   ·go_simp
    have hb4 : Below W2.heap.size W2 (W2.alloc (.cells #[.string ⟨#[]⟩, .bool false, .slice none 0 0] 28)).drew := ((Below.refl W2.heap.size W2).alloc (Nat.le_refl _) _).drew
    have ht4 : Blk (W2.alloc (.cells #[.string ⟨#[]⟩, .bool false, .slice none 0 0] 28)).drew W2.heap.size 28 #[.string ⟨#[]⟩, .bool false, .slice none 0 0] := (Blk.new W2 _ _).drew
    refine hK.out _ _ (HS2.out _ hb4) (fun hHeld => ?_)
    clear hK K
    try simp only [Act.put, List.setIfInBounds_toArray, List.set_cons_zero, List.set_cons_succ]
    refine GT.st1 9 (fun K hK => ?_)
    go_simp
    refine (HPT.out _ hb4).mono ?_
    rintro en w3 ⟨hb3, d0, d1, d2, rfl, hX⟩
    obtain ⟨ax, bx, rfl, rfl, rfl, _⟩ := hX.open_
    have hb3' : Below W2.heap.size W2 w3 := hb4.trans (hb3.mono hb4.size)
    have ht3 := ht4.keep hb3 ht4.lt
    go_wp2_with fail
    refine hK.out _ _ (HS2.out w3 hb3') (fun hHeld => ?_)
    clear hK K
    try simp only [Act.put, List.setIfInBounds_toArray, List.set_cons_zero, List.set_cons_succ]
    refine GT.tk1 10 hHeld ?_
    refine GT.tk1 11 hHeld ?_
    refine GT.tk1 12 hHeld ?_
    obtain ⟨t0, t1, t2, tf0, tf1, tf2⟩ := blk3 ht3
    refine GT.st1 14 (fun K hK => ?_)
    go_simp
    have hb6 : Below W2.heap.size W2 (((w3.setCell ⟨W2.heap.size, 0, none⟩ (.string PX.text)).setCell ⟨W2.heap.size, 1, none⟩ (.bool PX.list)).setCell ⟨W2.heap.size, 2, none⟩ (.slice ax PX.sub.length bx)) := ((hb3'.setCell (by simp) _).setCell (by simp) _).setCell (by simp) _
    refine hK.out _ _ (HS2.out _ hb6) (fun hHeld => ?_)
    clear hK K
    try simp only [Act.put, List.setIfInBounds_toArray, List.set_cons_zero, List.set_cons_succ]
    refine GT.la1 15 ?_
    go_simp
    obtain ⟨W5, hW5⟩ : ∃ W5, (((w3.setCell ⟨W2.heap.size, 0, none⟩ (.string PX.text)).setCell ⟨W2.heap.size, 1, none⟩ (.bool PX.list)).setCell ⟨W2.heap.size, 2, none⟩ (.slice ax PX.sub.length bx)) = W5 := ⟨_, rfl⟩
    have HB5 : Hid (Below W2.heap.size W2 W5) := Lib.hid (by rw [← hW5]; exact hb6)
    have hT8 : Blk W5 W2.heap.size 28 #[.string PX.text, .bool PX.list, .slice ax PX.sub.length bx] := by rw [← hW5]; exact put3 ht3 _ _ _
    have HX5 : Hid (ItS W5 (W2.heap.size ≤ ·) PX (.string PX.text) (.bool PX.list) (.slice ax PX.sub.length bx)) := Lib.hid (by rw [← hW5]; exact hX.only (L := [W2.heap.size]) ((((Only.refl _ w3).setCell (by simp) _).setCell (by simp) _).setCell (by simp) _) (by simp [World.drew]) (fun k _ hk => by have hk : (W2.alloc (.cells #[.string ⟨#[]⟩, .bool false, .slice none 0 0] 28)).heap.size ≤ k := hk; simp at hk; show W2.heap.size ≤ k; omega))
    rw [hW5]
    clear hW5 hb3 hb3' hX hHeld hb4 ht4 hb6 ht3 t0 t1 t2 tf0 tf1 tf2
    have hB15 := HB12.out.keep HB5.out (by omega)
    have hR5 := HR2.out.keep HB5.out (by omega)
    have HB15 := Lib.hid hB15
    have HBE := Lib.hid (HBL.out.trans (HB5.out.mono (by omega)))
    obtain ⟨q0, q1, q2, q3, qf0, qf1, qf2, qf3⟩ := blk4 hB15
    obtain ⟨u0, u1, u2, u3, u4, u5, u6⟩ := blk7 hR5
    obtain ⟨t0, t1, t2⟩ := blk3' hT8
    clear hB15 hR5 hT8
    rcases beq0 PE with ⟨he, z1, z2⟩ | ⟨he, z1, z2⟩
    ·subst he
     rw [if_pos rfl] at HE2
     go_wp2
     obtain ⟨y0, y1, y2, y3⟩ := set4_part HB15.out (.string e.name) (.string PX.text) (.bool PX.list) (.slice ax PX.sub.length bx)
     refine bodyPost_ret (v := .tuple #[.agg #[.string e.name, .string PX.text, .bool PX.list, .slice ax PX.sub.length bx], .int .i64 0]) (by simp [results, Tryz.results13, go_sem, y0, y1, y2, y3]) rfl ?_
     rw [HE2.out]
     exact ⟨HBE.out.trans ((set4_only W5 (w.heap.size + 1) _ _ _ _).below HBE.out.size (by simp)), _, _, _, _, rfl, rfl, by simp only; omega, HX5.out.only (L := [w.heap.size + 1]) (set4_only W5 (w.heap.size + 1) _ _ _ _) (by simp; omega) (fun k _ hk => by have hk : W2.heap.size ≤ k := hk; show w.heap.size ≤ k; omega)⟩
    ·rw [if_neg he] at HE2
     by_cases h2 : PE = 2
     ·have z3 : (PE == 2) = true := beq_iff_eq.2 h2
      rw [if_pos h2] at HE2
      go_wp2
      obtain ⟨y0, y1, y2, y3⟩ := set4_part HB15.out (.string ⟨#[]⟩) (.string ⟨#[]⟩) (.bool false) (.slice none 0 0)
      refine bodyPost_ret (v := .tuple #[.agg #[.string ⟨#[]⟩, .string ⟨#[]⟩, .bool false, .slice none 0 0], .int .i64 3]) (by simp [results, Tryz.results13, go_sem, y0, y1, y2, y3]) rfl ?_
      rw [HE2.out]
      exact ⟨HBE.out.trans ((set4_only W5 (w.heap.size + 1) _ _ _ _).below HBE.out.size (by simp)), _, _, _, _, rfl, noMs_S _ _⟩
     ·have z3 : (PE == 2) = false := beq_eq_false_iff_ne.2 h2
      rw [if_neg h2] at HE2
      go_wp2
      obtain ⟨y0, y1, y2, y3⟩ := set4_part HB15.out (.string ⟨#[]⟩) (.string ⟨#[]⟩) (.bool false) (.slice none 0 0)
      refine bodyPost_ret (v := .tuple #[.agg #[.string ⟨#[]⟩, .string ⟨#[]⟩, .bool false, .slice none 0 0], .int .i64 PE]) (by simp [results, Tryz.results13, go_sem, y0, y1, y2, y3]) rfl ?_
      rw [HE2.out]
      exact ⟨HBE.out.trans ((set4_only W5 (w.heap.size + 1) _ _ _ _).below HBE.out.size (by simp)), _, _, _, _, rfl, noMs_S _ _⟩
  ·have hpv : getV c = .func (.func 28) #[.agg #[.int .i64 c.de, .int .i64 c.it]] #[] := by unfold getV capV; rw [if_neg hc]
   have HPT : Hid (∀ V, Below W2.heap.size W2 V → Calls Tryz.prog 28 #[.agg #[.int .i64 c.de, .int .i64 c.it], .agg #[.int .i64 a3, .int .i64 a4, .slice A n cap, .int .i64 a6], .string body] V fun en w' => GtEnd V w' (rgGet c e.shape body).2 (rgGet c e.shape body).1 en) := Lib.hid (fun V hV => by
    unfold rgGet
    rw [if_neg hc]
    exact getTree_c e.shape body c.de c.it W2.heap.size V _ _ _ _ (HT2.out.below hV) hV.size (HL2.out.below hV HL2.out.pos) (by omega))
   have HS2 : Hid (∀ V, Below W2.heap.size W2 V → V.cell? ⟨g, 9, none⟩ = some (.func (.func 28) #[.agg #[.int .i64 c.de, .int .i64 c.it]] #[]) ∧ V.cell? ⟨w1.heap.size, 3, none⟩ = some (.int .i64 a3) ∧ V.cell? ⟨w1.heap.size, 4, none⟩ = some (.int .i64 a4) ∧ V.cell? ⟨w1.heap.size, 5, none⟩ = some (.slice A n cap) ∧ V.cell? ⟨w1.heap.size, 6, none⟩ = some (.int .i64 a6) ∧ V.cell? ⟨w.heap.size, 2, none⟩ = some (.string body)) := Lib.hid (fun V hV => by
    obtain ⟨_, _, _, y3, y4, y5, y6⟩ := blk7 (HR2.out.keep hV (by omega))
    obtain ⟨_, _, z2, _⟩ := blk3 (HB02.out.keep hV (by omega))
    have hp := (HM2.out.below (hV.mono HM2.out.his)).cells.2.2.2.2
    rw [hpv] at hp
    exact ⟨hp, y3, y4, y5, y6, z2⟩)
   generalize (rgGet c e.shape body).1 = PE at *
   generalize (rgGet c e.shape body).2 = PX at *
   clear hpv hc
   go_wp2_with fail
   rw [HW2.out]
   refine wp_region_last 15 (fun V => V.cell? ⟨g, 9, none⟩ = some (.func (.func 28) #[.agg #[.int .i64 c.de, .int .i64 c.it]] #[]) ∧ V.cell? ⟨w1.heap.size, 3, none⟩ = some (.int .i64 a3) ∧ V.cell? ⟨w1.heap.size, 4, none⟩ = some (.int .i64 a4) ∧ V.cell? ⟨w1.heap.size, 5, none⟩ = some (.slice A n cap) ∧ V.cell? ⟨w1.heap.size, 6, none⟩ = some (.int .i64 a6) ∧ V.cell? ⟨w.heap.size, 2, none⟩ = some (.string body)) (by kernel_rfl) (by kernel_rfl) ?_
   have hHeld := HS2.out W2.drew blw
   refine GT.tk1 0 hHeld ?_
   refine GT.tk1 1 hHeld ?_
   refine GT.tk1 2 hHeld ?_
   refine GT.tk1 3 hHeld ?_
   refine GT.tk1 4 hHeld ?_
   refine GT.tk1 5 hHeld ?_
   refine GT.tk1 6 hHeld ?_
   refine GT.tk1 7 hHeld ?_
   refine GT.tk1 8 hHeld ?_
   refine GT.two (i := 9) (j := 13) (by simp only [List.getElem?_toArray, List.getElem?_cons_zero, List.getElem?_cons_succ]; rfl) (by simp only [List.getElem?_toArray, List.getElem?_cons_zero, List.getElem?_cons_succ]; rfl) (by kernel_rfl) (by kernel_rfl) (by kernel_rfl) (fun K hK => ?_) (fun K hK => ?_)
   ·go_simp
    refine (HPT.out W2.drew blw).mono ?_
    rintro en w3 ⟨hb3, d0, d1, d2, rfl, hX⟩
    obtain ⟨ax, bx, rfl, rfl, rfl, _⟩ := hX.open_
    have hb3' : Below W2.heap.size W2 w3 := (show Below W2.heap.size W2 W2.drew from blw).trans hb3
    go_wp2_with fail
    refine hK.out _ _ (HS2.out w3 hb3') (fun hHeld => ?_)
    clear hK K
    try simp only [Act.put, List.setIfInBounds_toArray, List.set_cons_zero, List.set_cons_succ]
    refine GT.tk1 10 hHeld ?_
    refine GT.tk1 11 hHeld ?_
    refine GT.tk1 12 hHeld ?_
    refine GT.st1 13 (fun K hK => ?_)
    go_simp
    refine hK.out _ _ (HS2.out _ (hb3'.alloc hb3'.size _)) (fun hHeld => ?_)
    clear hK K
    try simp only [Act.put, List.setIfInBounds_toArray, List.set_cons_zero, List.set_cons_succ]
    refine GT.st1 14 (fun K hK => ?_)
    go_simp
    refine hK.out _ _ (HS2.out _ (hb3'.alloc hb3'.size _)) (fun hHeld => ?_)
    clear hK K
    try simp only [Act.put, List.setIfInBounds_toArray, List.set_cons_zero, List.set_cons_succ]
    refine GT.la1 15 ?_
    go_simp
    obtain ⟨W5, hW5⟩ : ∃ W5, w3.alloc (.cells #[.string PX.text, .bool PX.list, .slice ax PX.sub.length bx] 28) = W5 := ⟨_, rfl⟩
    have HB5 : Hid (Below W2.heap.size W2 W5) := Lib.hid (by rw [← hW5]; exact hb3'.alloc hb3'.size _)
    have hT8 : Blk W5 w3.heap.size 28 #[.string PX.text, .bool PX.list, .slice ax PX.sub.length bx] := by rw [← hW5]; exact Blk.new _ _ _
    have HX5 : Hid (ItS W5 (W2.heap.size ≤ ·) PX (.string PX.text) (.bool PX.list) (.slice ax PX.sub.length bx)) := Lib.hid (by rw [← hW5]; exact hX.below ((Below.refl _ _).alloc (Nat.le_refl _) _))
    rw [hW5]
    clear hW5 hb3 hb3' hX hHeld
    have hB15 := HB12.out.keep HB5.out (by omega)
    have hR5 := HR2.out.keep HB5.out (by omega)
    have HB15 := Lib.hid hB15
    have HBE := Lib.hid (HBL.out.trans (HB5.out.mono (by omega)))
    obtain ⟨q0, q1, q2, q3, qf0, qf1, qf2, qf3⟩ := blk4 hB15
    obtain ⟨u0, u1, u2, u3, u4, u5, u6⟩ := blk7 hR5
    obtain ⟨t0, t1, t2⟩ := blk3' hT8
    clear hB15 hR5 hT8
    rcases beq0 PE with ⟨he, z1, z2⟩ | ⟨he, z1, z2⟩
    ·subst he
     rw [if_pos rfl] at HE2
     go_wp2
     obtain ⟨y0, y1, y2, y3⟩ := set4_part HB15.out (.string e.name) (.string PX.text) (.bool PX.list) (.slice ax PX.sub.length bx)
     refine bodyPost_ret (v := .tuple #[.agg #[.string e.name, .string PX.text, .bool PX.list, .slice ax PX.sub.length bx], .int .i64 0]) (by simp [results, Tryz.results13, go_sem, y0, y1, y2, y3]) rfl ?_
     rw [HE2.out]
     exact ⟨HBE.out.trans ((set4_only W5 (w.heap.size + 1) _ _ _ _).below HBE.out.size (by simp)), _, _, _, _, rfl, rfl, by simp only; omega, HX5.out.only (L := [w.heap.size + 1]) (set4_only W5 (w.heap.size + 1) _ _ _ _) (by simp; omega) (fun k _ hk => by have hk : W2.heap.size ≤ k := hk; show w.heap.size ≤ k; omega)⟩
    ·rw [if_neg he] at HE2
     by_cases h2 : PE = 2
     ·have z3 : (PE == 2) = true := beq_iff_eq.2 h2
      rw [if_pos h2] at HE2
      go_wp2
      obtain ⟨y0, y1, y2, y3⟩ := set4_part HB15.out (.string ⟨#[]⟩) (.string ⟨#[]⟩) (.bool false) (.slice none 0 0)
      refine bodyPost_ret (v := .tuple #[.agg #[.string ⟨#[]⟩, .string ⟨#[]⟩, .bool false, .slice none 0 0], .int .i64 3]) (by simp [results, Tryz.results13, go_sem, y0, y1, y2, y3]) rfl ?_
      rw [HE2.out]
      exact ⟨HBE.out.trans ((set4_only W5 (w.heap.size + 1) _ _ _ _).below HBE.out.size (by simp)), _, _, _, _, rfl, noMs_S _ _⟩
     ·have z3 : (PE == 2) = false := beq_eq_false_iff_ne.2 h2
      rw [if_neg h2] at HE2
      go_wp2
      obtain ⟨y0, y1, y2, y3⟩ := set4_part HB15.out (.string ⟨#[]⟩) (.string ⟨#[]⟩) (.bool false) (.slice none 0 0)
      refine bodyPost_ret (v := .tuple #[.agg #[.string ⟨#[]⟩, .string ⟨#[]⟩, .bool false, .slice none 0 0], .int .i64 PE]) (by simp [results, Tryz.results13, go_sem, y0, y1, y2, y3]) rfl ?_
      rw [HE2.out]
      exact ⟨HBE.out.trans ((set4_only W5 (w.heap.size + 1) _ _ _ _).below HBE.out.size (by simp)), _, _, _, _, rfl, noMs_S _ _⟩
   ·go_simp
    have hb4 : Below W2.heap.size W2 (W2.alloc (.cells #[.string ⟨#[]⟩, .bool false, .slice none 0 0] 28)).drew := ((Below.refl W2.heap.size W2).alloc (Nat.le_refl _) _).drew
    have ht4 : Blk (W2.alloc (.cells #[.string ⟨#[]⟩, .bool false, .slice none 0 0] 28)).drew W2.heap.size 28 #[.string ⟨#[]⟩, .bool false, .slice none 0 0] := (Blk.new W2 _ _).drew
    refine hK.out _ _ (HS2.out _ hb4) (fun hHeld => ?_)
    clear hK K
    try simp only [Act.put, List.setIfInBounds_toArray, List.set_cons_zero, List.set_cons_succ]
    refine GT.st1 9 (fun K hK => ?_)
    go_simp
    refine (HPT.out _ hb4).mono ?_
    rintro en w3 ⟨hb3, d0, d1, d2, rfl, hX⟩
    obtain ⟨ax, bx, rfl, rfl, rfl, _⟩ := hX.open_
    have hb3' : Below W2.heap.size W2 w3 := hb4.trans (hb3.mono hb4.size)
    have ht3 := ht4.keep hb3 ht4.lt
    go_wp2_with fail
    refine hK.out _ _ (HS2.out w3 hb3') (fun hHeld => ?_)
    clear hK K
    try simp only [Act.put, List.setIfInBounds_toArray, List.set_cons_zero, List.set_cons_succ]
    refine GT.tk1 10 hHeld ?_
    refine GT.tk1 11 hHeld ?_
    refine GT.tk1 12 hHeld ?_
    obtain ⟨t0, t1, t2, tf0, tf1, tf2⟩ := blk3 ht3
    refine GT.st1 14 (fun K hK => ?_)
    go_simp
    have hb6 : Below W2.heap.size W2 (((w3.setCell ⟨W2.heap.size, 0, none⟩ (.string PX.text)).setCell ⟨W2.heap.size, 1, none⟩ (.bool PX.list)).setCell ⟨W2.heap.size, 2, none⟩ (.slice ax PX.sub.length bx)) := ((hb3'.setCell (by simp) _).setCell (by simp) _).setCell (by simp) _
    refine hK.out _ _ (HS2.out _ hb6) (fun hHeld => ?_)
    clear hK K
    try simp only [Act.put, List.setIfInBounds_toArray, List.set_cons_zero, List.set_cons_succ]
    refine GT.la1 15 ?_
    go_simp
    obtain ⟨W5, hW5⟩ : ∃ W5, (((w3.setCell ⟨W2.heap.size, 0, none⟩ (.string PX.text)).setCell ⟨W2.heap.size, 1, none⟩ (.bool PX.list)).setCell ⟨W2.heap.size, 2, none⟩ (.slice ax PX.sub.length bx)) = W5 := ⟨_, rfl⟩
    have HB5 : Hid (Below W2.heap.size W2 W5) := Lib.hid (by rw [← hW5]; exact hb6)
    have hT8 : Blk W5 W2.heap.size 28 #[.string PX.text, .bool PX.list, .slice ax PX.sub.length bx] := by rw [← hW5]; exact put3 ht3 _ _ _
    have HX5 : Hid (ItS W5 (W2.heap.size ≤ ·) PX (.string PX.text) (.bool PX.list) (.slice ax PX.sub.length bx)) := Lib.hid (by rw [← hW5]; exact hX.only (L := [W2.heap.size]) ((((Only.refl _ w3).setCell (by simp) _).setCell (by simp) _).setCell (by simp) _) (by simp [World.drew]) (fun k _ hk => by have hk : (W2.alloc (.cells #[.string ⟨#[]⟩, .bool false, .slice none 0 0] 28)).heap.size ≤ k := hk; simp at hk; show W2.heap.size ≤ k; omega))
    rw [hW5]
    clear hW5 hb3 hb3' hX hHeld hb4 ht4 hb6 ht3 t0 t1 t2 tf0 tf1 tf2
    have hB15 := HB12.out.keep HB5.out (by omega)
    have hR5 := HR2.out.keep HB5.out (by omega)
    have HB15 := Lib.hid hB15
    have HBE := Lib.hid (HBL.out.trans (HB5.out.mono (by omega)))
    obtain ⟨q0, q1, q2, q3, qf0, qf1, qf2, qf3⟩ := blk4 hB15
    obtain ⟨u0, u1, u2, u3, u4, u5, u6⟩ := blk7 hR5
    obtain ⟨t0, t1, t2⟩ := blk3' hT8
    clear hB15 hR5 hT8
    rcases beq0 PE with ⟨he, z1, z2⟩ | ⟨he, z1, z2⟩
    ·subst he
     rw [if_pos rfl] at HE2
     go_wp2
     obtain ⟨y0, y1, y2, y3⟩ := set4_part HB15.out (.string e.name) (.string PX.text) (.bool PX.list) (.slice ax PX.sub.length bx)
     refine bodyPost_ret (v := .tuple #[.agg #[.string e.name, .string PX.text, .bool PX.list, .slice ax PX.sub.length bx], .int .i64 0]) (by simp [results, Tryz.results13, go_sem, y0, y1, y2, y3]) rfl ?_
     rw [HE2.out]
     exact ⟨HBE.out.trans ((set4_only W5 (w.heap.size + 1) _ _ _ _).below HBE.out.size (by simp)), _, _, _, _, rfl, rfl, by simp only; omega, HX5.out.only (L := [w.heap.size + 1]) (set4_only W5 (w.heap.size + 1) _ _ _ _) (by simp; omega) (fun k _ hk => by have hk : W2.heap.size ≤ k := hk; show w.heap.size ≤ k; omega)⟩
    ·rw [if_neg he] at HE2
     by_cases h2 : PE = 2
     ·have z3 : (PE == 2) = true := beq_iff_eq.2 h2
      rw [if_pos h2] at HE2
      go_wp2
      obtain ⟨y0, y1, y2, y3⟩ := set4_part HB15.out (.string ⟨#[]⟩) (.string ⟨#[]⟩) (.bool false) (.slice none 0 0)
      refine bodyPost_ret (v := .tuple #[.agg #[.string ⟨#[]⟩, .string ⟨#[]⟩, .bool false, .slice none 0 0], .int .i64 3]) (by simp [results, Tryz.results13, go_sem, y0, y1, y2, y3]) rfl ?_
      rw [HE2.out]
      exact ⟨HBE.out.trans ((set4_only W5 (w.heap.size + 1) _ _ _ _).below HBE.out.size (by simp)), _, _, _, _, rfl, noMs_S _ _⟩
     ·have z3 : (PE == 2) = false := beq_eq_false_iff_ne.2 h2
      rw [if_neg h2] at HE2
      go_wp2
      obtain ⟨y0, y1, y2, y3⟩ := set4_part HB15.out (.string ⟨#[]⟩) (.string ⟨#[]⟩) (.bool false) (.slice none 0 0)
      refine bodyPost_ret (v := .tuple #[.agg #[.string ⟨#[]⟩, .string ⟨#[]⟩, .bool false, .slice none 0 0], .int .i64 PE]) (by simp [results, Tryz.results13, go_sem, y0, y1, y2, y3]) rfl ?_
      rw [HE2.out]
      exact ⟨HBE.out.trans ((set4_only W5 (w.heap.size + 1) _ _ _ _).below HBE.out.size (by simp)), _, _, _, _, rfl, noMs_S _ _⟩
theorem put4_blk {w : World} {g : Nat} {t : TypeId} {z0 z1 z2 z3 : Value} (h : Blk w g t #[z0, z1, z2, z3]) (v0 v1 v2 v3 : Value) : Blk ((((w.setCell ⟨g, 0, none⟩ v0).setCell ⟨g, 1, none⟩ v1).setCell ⟨g, 2, none⟩ v2).setCell ⟨g, 3, none⟩ v3) g t #[v0, v1, v2, v3] := by
 have h0 : Blk _ g t #[v0, z1, z2, z3] := h.store (i := 0) (u := v0) rfl
 have h1 : Blk _ g t #[v0, v1, z2, z3] := h0.store (i := 1) (u := v1) rfl
 have h2 : Blk _ g t #[v0, v1, v2, z3] := h1.store (i := 2) (u := v2) rfl
 exact h2.store (i := 3) (u := v3) rfl
def NmEnd (w : World) (o : Option Ent) (e : Ending) (w' : World) : Prop :=
 Below w.heap.size w w' ∧ ((o = none ∧ e = .returned (.tuple #[.agg #[.int .u64 0, .string ⟨#[]⟩, .string ⟨#[]⟩], .agg #[.int .i64 0, .int .i64 0, .slice none 0 0, .int .i64 0], .bool false])) ∨
  ∃ x A cap, o = some x ∧ e = .returned (.tuple #[.agg #[.int .u64 x.id, .string x.name, .string x.ty], .agg #[.int .i64 x.shape.kind, .int .i64 x.shape.size, .slice A x.shape.sub.length cap, .int .i64 x.shape.tail], .bool true]) ∧ TyS w' (w.heap.size ≤ ·) x.shape (.int .i64 x.shape.kind) (.int .i64 x.shape.size) (.slice A x.shape.sub.length cap) (.int .i64 x.shape.tail))
theorem rgByNameNil_c (nm : ByteArray) (w : World) :
 Calls Tryz.prog 16 #[.pointer none, .string nm] w (NmEnd w none) := by
 have hE := (Blk.new w 52 #[.int .u64 0, .string ⟨#[]⟩, .string ⟨#[]⟩]).alloc (.cells #[.int .i64 0, .int .i64 0, .slice none 0 0, .int .i64 0] 55)
 have hT : Blk ((w.alloc (.cells #[.int .u64 0, .string ⟨#[]⟩, .string ⟨#[]⟩] 52)).alloc (.cells #[.int .i64 0, .int .i64 0, .slice none 0 0, .int .i64 0] 55)) (w.heap.size + 1) 55 #[.int .i64 0, .int .i64 0, .slice none 0 0, .int .i64 0] := Blk.at_ (by simp)
 obtain ⟨q0, q1, q2⟩ := blk3' hE
 obtain ⟨p0, p1, p2, p3, _⟩ := blk4 hT
 go_enter Tryz.func16, Tryz.ntmps16
 go_wp2
 refine bodyPost_ret (v := .tuple #[.agg #[.int .u64 0, .string ⟨#[]⟩, .string ⟨#[]⟩], .agg #[.int .i64 0, .int .i64 0, .slice none 0 0, .int .i64 0], .bool false]) (by simp [results, Tryz.results16, go_sem, q0, q1, q2, p0, p1, p2, p3]) rfl ?_
 exact ⟨blw, .inl ⟨rfl, rfl⟩⟩
theorem rgByFrameNil_c (m0 m1 m2 : Value) (w : World) :
 Calls Tryz.prog 17 #[.pointer none, .agg #[m0, m1, m2]] w fun e w' => e = .returned (.tuple #[.agg #[.int .u64 0, .string ⟨#[]⟩, .string ⟨#[]⟩], .bool false]) ∧ Below w.heap.size w w' := by
 have hb := (Blk.new (w.alloc (.cells #[m0, m1, m2] 40)) 52 #[.int .u64 0, .string ⟨#[]⟩, .string ⟨#[]⟩])
 simp only [World.size_alloc] at hb
 obtain ⟨q0, q1, q2⟩ := blk3' hb
 go_enter Tryz.func17, Tryz.ntmps17
 go_wp2
 refine bodyPost_ret (v := .tuple #[.agg #[.int .u64 0, .string ⟨#[]⟩, .string ⟨#[]⟩], .bool false]) (by simp [results, Tryz.results17, go_sem, q0, q1, q2]) rfl ?_
 exact ⟨rfl, blw⟩
theorem rgLenNil_c (w : World) : Calls Tryz.prog 18 #[.pointer none] w fun e w' => e = .returned (.int .i64 0) ∧ w' = w := by
 go_enter Tryz.func18, Tryz.ntmps18
 go_wp2
 go_ret
 exact ⟨rfl, rfl⟩
theorem rgCfgNil_c (w : World) : Calls Tryz.prog 19 #[.pointer none] w fun e w' => e = .returned (.agg #[.int .i64 0, .int .u32 0, .int .i64 0, .int .i64 0, .int .i64 0, .int .i64 0]) ∧ Below w.heap.size w w' := by
 have hb := Blk.new w 24 #[.int .i64 0, .int .u32 0, .int .i64 0, .int .i64 0, .int .i64 0, .int .i64 0]
 go_enter Tryz.func19, Tryz.ntmps19
 go_wp2
 have q0 := hb.cell 0
 have q1 := hb.cell 1
 have q2 := hb.cell 2
 have q3 := hb.cell 3
 have q4 := hb.cell 4
 have q5 := hb.cell 5
 simp at q0 q1 q2 q3 q4 q5
 refine bodyPost_ret (v := .agg #[.int .i64 0, .int .u32 0, .int .i64 0, .int .i64 0, .int .i64 0, .int .i64 0]) (by simp [results, Tryz.results19, go_sem, q0, q1, q2, q3, q4, q5]) rfl ?_
 exact ⟨rfl, blw⟩
theorem rgByFrame_c (lo hi g gn gi : Nat) (c : Cfg) (l : List RgRow) (f : Fr) (w : World) (h : RgM w lo hi g gn gi c l) :
 Calls Tryz.prog 17 #[.pointer (some ⟨g, 0, none⟩), .agg #[.int .u64 f.id, .string f.nm, .string f.body]] w fun e w' => Below w.heap.size w w' ∧ ((byFrame c (entsOf l) f = none ∧ e = .returned (.tuple #[.agg #[.int .u64 0, .string ⟨#[]⟩, .string ⟨#[]⟩], .bool false])) ∨ ∃ x, byFrame c (entsOf l) f = some x ∧ e = .returned (.tuple #[.agg #[.int .u64 x.id, .string x.name, .string x.ty], .bool true])) := by
 obtain ⟨W, hW⟩ : ∃ W, (w.alloc (.cells #[.int .u64 f.id, .string f.nm, .string f.body] 40)).alloc (.cells #[.int .u64 0, .string ⟨#[]⟩, .string ⟨#[]⟩] 52) = W := ⟨_, rfl⟩
 have hbW : Below w.heap.size w W := by rw [← hW]; exact ((Below.refl _ w).alloc (Nat.le_refl _) _).alloc (by simp) _
 have hzW : W.heap.size = w.heap.size + 2 := by rw [← hW]; simp
 have hB0 : Blk W w.heap.size 40 #[.int .u64 f.id, .string f.nm, .string f.body] := by rw [← hW]; exact (Blk.new w _ _).alloc _
 have hB1 : Blk W (w.heap.size + 1) 52 #[.int .u64 0, .string ⟨#[]⟩, .string ⟨#[]⟩] := by rw [← hW]; exact Blk.at_ (by simp)
 have hM := h.below (hbW.mono h.his)
 have HO := Lib.hid (rgOf_c lo hi g gn gi c l f W hM)
 have HM := Lib.hid hM
 have HW := Lib.hid hW
 have HBW := Lib.hid hbW
 have HB1 := Lib.hid hB1
 have HZ := Lib.hid hzW
 obtain ⟨q0, q1, q2⟩ := blk3' hB0
 obtain ⟨O, hO⟩ : ∃ O, byFrame c (entsOf l) f = O := ⟨_, rfl⟩
 unfold OfEnd at HO
 rw [hO] at HO ⊢
 clear h hW hbW hM hB0 hB1 hO hzW
 go_enter Tryz.func17, Tryz.ntmps17
 go_wp2_with fail
 rw [HW.out]
 refine HO.out.mono ?_
 rintro e w1 ⟨hb1, a0, a1, a2, a3, a4, A, n, cap, a6, b, rfl, hrw⟩
 have HRW := Lib.hid (row7_is HM.out hrw)
 have hB11 := HB1.out.keep hb1 (by have := HZ.out; omega)
 have HB11 := Lib.hid hB11
 have HBL := Lib.hid (HBW.out.trans (hb1.mono (by have := HZ.out; omega)))
 have hlt1 : w.heap.size + 1 < w1.heap.size := hB11.lt
 obtain ⟨t0, t1, t2, tf0, tf1, tf2⟩ := blk3 hB11
 clear hb1 hrw hB11 q0 q1 q2
 go_wp2
 have hbe := (put3 HB11.out (.int .u64 a0) (.string a1) (.string a2)).alloc (.cells #[.int .u64 a0, .string a1, .string a2, .int .i64 a3, .int .i64 a4, .slice A n cap, .int .i64 a6] 83)
 obtain ⟨y0, y1, y2⟩ := blk3' hbe
 refine bodyPost_ret (v := .tuple #[.agg #[.int .u64 a0, .string a1, .string a2], .bool b]) (by simp [results, Tryz.results17, go_sem, y0, y1, y2]) rfl ?_
 refine ⟨(((HBL.out.setCell (by simp) _).setCell (by simp) _).setCell (by simp) _).alloc (by have := HBL.out.size; simp; omega) _, ?_⟩
 rcases HRW.out with ⟨h, rfl, rfl, rfl, rfl⟩ | ⟨x, h, rfl, rfl, rfl, rfl, _⟩
 ·exact .inl ⟨h, rfl⟩
 ·exact .inr ⟨x, h, rfl⟩
theorem rgByName_c (lo hi g gn gi : Nat) (c : Cfg) (l : List RgRow) (nm : ByteArray) (w : World) (h : RgM w lo hi g gn gi c l) (hL : Laid w) :
 Calls Tryz.prog 16 #[.pointer (some ⟨g, 0, none⟩), .string nm] w (NmEnd w (byName (entsOf l) nm)) := by
 obtain ⟨_, g6, _, _, _⟩ := h.cells
 have hgw : g < w.heap.size := Nat.lt_of_lt_of_le h.g2 h.his
 have hnw : gn < w.heap.size := h.nm.lt
 have hgw1 : g < w.heap.size + 1 := by omega
 obtain ⟨a0, a1, a2, a3, a4, A, n, cap, a6, b, hrw, hlk⟩ := row7_nm h nm
 have hl := hlk ((w.alloc (.cells #[.int .u64 0, .string ⟨#[]⟩, .string ⟨#[]⟩] 52)).alloc (.cells #[.int .i64 0, .int .i64 0, .slice none 0 0, .int .i64 0] 55)) (h.nm.keep ((heap_alloc_old _ _ (by simp; omega)).trans (heap_alloc_old _ _ hnw)))
 rcases row7_is h hrw with ⟨ho, rfl, rfl, rfl, rfl⟩ | ⟨x, ho, rfl, rfl, rfl, rfl, hty, heo, hrt⟩
 ·rw [ho]
  clear hlk hrw ho h hL
  have hE := ((Blk.new w 52 #[.int .u64 0, .string ⟨#[]⟩, .string ⟨#[]⟩]).alloc (.cells #[.int .i64 0, .int .i64 0, .slice none 0 0, .int .i64 0] 55)).alloc (.cells #[.int .u64 0, .string ⟨#[]⟩, .string ⟨#[]⟩, .int .i64 a3, .int .i64 a4, .slice A n cap, .int .i64 a6] 83)
  have hT : Blk (((w.alloc (.cells #[.int .u64 0, .string ⟨#[]⟩, .string ⟨#[]⟩] 52)).alloc (.cells #[.int .i64 0, .int .i64 0, .slice none 0 0, .int .i64 0] 55)).alloc (.cells #[.int .u64 0, .string ⟨#[]⟩, .string ⟨#[]⟩, .int .i64 a3, .int .i64 a4, .slice A n cap, .int .i64 a6] 83)) (w.heap.size + 1) 55 #[.int .i64 0, .int .i64 0, .slice none 0 0, .int .i64 0] := Blk.alloc (Blk.at_ (by simp)) _
  obtain ⟨q0, q1, q2⟩ := blk3' hE
  obtain ⟨p0, p1, p2, p3, _⟩ := blk4 hT
  go_enter Tryz.func16, Tryz.ntmps16
  go_wp2
  refine bodyPost_ret (v := .tuple #[.agg #[.int .u64 0, .string ⟨#[]⟩, .string ⟨#[]⟩], .agg #[.int .i64 0, .int .i64 0, .slice none 0 0, .int .i64 0], .bool false]) (by simp [results, Tryz.results16, go_sem, q0, q1, q2, p0, p1, p2, p3]) rfl ?_
  exact ⟨blw, .inl ⟨rfl, rfl⟩⟩
 ·rw [ho]
  obtain ⟨W, hW⟩ : ∃ W, ((w.alloc (.cells #[.int .u64 0, .string ⟨#[]⟩, .string ⟨#[]⟩] 52)).alloc (.cells #[.int .i64 0, .int .i64 0, .slice none 0 0, .int .i64 0] 55)).alloc (.cells #[.int .u64 x.id, .string x.name, .string x.ty, .int .i64 a3, .int .i64 a4, .slice A n cap, .int .i64 a6] 83) = W := ⟨_, rfl⟩
  have hbW : Below w.heap.size w W := by rw [← hW]; exact (((Below.refl _ w).alloc (Nat.le_refl _) _).alloc (by simp) _).alloc (by simp; omega) _
  have hzW : W.heap.size = w.heap.size + 3 := by rw [← hW]; simp
  have hE : Blk W w.heap.size 52 #[.int .u64 0, .string ⟨#[]⟩, .string ⟨#[]⟩] := by rw [← hW]; exact ((Blk.new w _ _).alloc _).alloc _
  have hT : Blk W (w.heap.size + 1) 55 #[.int .i64 0, .int .i64 0, .slice none 0 0, .int .i64 0] := by rw [← hW]; exact Blk.alloc (Blk.at_ (by simp)) _
  have hR : Blk W (w.heap.size + 1 + 1) 83 #[.int .u64 x.id, .string x.name, .string x.ty, .int .i64 a3, .int .i64 a4, .slice A n cap, .int .i64 a6] := by rw [← hW]; exact Blk.at_ (by simp)
  have HG := Lib.hid (scGet_c x.ty W (by have := heo.ty; omega) (hL.below hbW hL.pos))
  rw [hrt] at HG
  have HW := Lib.hid hW
  have HBW := Lib.hid hbW
  have HE := Lib.hid hE
  have HT := Lib.hid hT
  have HR := Lib.hid hR
  have HZ := Lib.hid hzW
  clear hlk hrw ho h hL hW hbW hzW hE hT hR hty heo hrt
  go_enter Tryz.func16, Tryz.ntmps16
  go_wp2_with fail
  rw [HW.out]
  refine HG.out.mono ?_
  rintro e w1 ⟨hb1, d0, d1, d2, d3, rfl, hty⟩
  obtain ⟨A1, cap1, rfl, rfl, rfl, rfl, _⟩ := hty.open_
  obtain ⟨W2, hW2⟩ : ∃ W2, w1.alloc (.cells #[.int .i64 x.shape.kind, .int .i64 x.shape.size, .slice A1 x.shape.sub.length cap1, .int .i64 x.shape.tail] 55) = W2 := ⟨_, rfl⟩
  have hb2 : Below w1.heap.size w1 W2 := by rw [← hW2]; exact (Below.refl _ w1).alloc (Nat.le_refl _) _
  have hbb := hb1.trans (hb2.mono hb1.size)
  have hz1 := hb1.size
  have HB2 := Lib.hid (HBW.out.trans (hbb.mono (by have := HZ.out; omega)))
  have HTY := Lib.hid (hty.below hb2)
  have HN : Hid (Blk W2 w1.heap.size 55 #[.int .i64 x.shape.kind, .int .i64 x.shape.size, .slice A1 x.shape.sub.length cap1, .int .i64 x.shape.tail]) := Lib.hid (by rw [← hW2]; exact Blk.new _ _ _)
  have HE2 := Lib.hid (HE.out.keep hbb (by have := HZ.out; omega))
  have HT2 := Lib.hid (HT.out.keep hbb (by have := HZ.out; omega))
  have HR2 := Lib.hid (HR.out.keep hbb (by have := HZ.out; omega))
  have HW2 := Lib.hid hW2
  have hlt1 : w.heap.size + 1 + 1 < w1.heap.size := by have := HZ.out; omega
  clear hb1 hb2 hbb hty hW2 hl
  go_wp2_with fail
  rw [HW2.out]
  have HS : Hid (∀ V, Blk V (w.heap.size + 1 + 1) 83 #[.int .u64 x.id, .string x.name, .string x.ty, .int .i64 a3, .int .i64 a4, .slice A n cap, .int .i64 a6] → Blk V w1.heap.size 55 #[.int .i64 x.shape.kind, .int .i64 x.shape.size, .slice A1 x.shape.sub.length cap1, .int .i64 x.shape.tail] → V.cell? ⟨w.heap.size + 1 + 1, 0, none⟩ = some (.int .u64 x.id) ∧ V.cell? ⟨w.heap.size + 1 + 1, 1, none⟩ = some (.string x.name) ∧ V.cell? ⟨w.heap.size + 1 + 1, 2, none⟩ = some (.string x.ty) ∧ V.cell? ⟨w1.heap.size, 0, none⟩ = some (.int .i64 x.shape.kind) ∧ V.cell? ⟨w1.heap.size, 1, none⟩ = some (.int .i64 x.shape.size) ∧ V.cell? ⟨w1.heap.size, 2, none⟩ = some (.slice A1 x.shape.sub.length cap1) ∧ V.cell? ⟨w1.heap.size, 3, none⟩ = some (.int .i64 x.shape.tail)) := Lib.hid (fun V h1 h2 => ⟨h1.cell 0, h1.cell 1, h1.cell 2, h2.cell 0, h2.cell 1, h2.cell 2, h2.cell 3⟩)
  have hHeld := HS.out W2.drew HR2.out.drew HN.out.drew
  refine wp_region_last 5 (fun V => V.cell? ⟨w.heap.size + 1 + 1, 0, none⟩ = some (.int .u64 x.id) ∧ V.cell? ⟨w.heap.size + 1 + 1, 1, none⟩ = some (.string x.name) ∧ V.cell? ⟨w.heap.size + 1 + 1, 2, none⟩ = some (.string x.ty) ∧ V.cell? ⟨w1.heap.size, 0, none⟩ = some (.int .i64 x.shape.kind) ∧ V.cell? ⟨w1.heap.size, 1, none⟩ = some (.int .i64 x.shape.size) ∧ V.cell? ⟨w1.heap.size, 2, none⟩ = some (.slice A1 x.shape.sub.length cap1) ∧ V.cell? ⟨w1.heap.size, 3, none⟩ = some (.int .i64 x.shape.tail)) (by kernel_rfl) (by kernel_rfl) ?_
  refine GT.tk1 0 hHeld ?_
  refine GT.tk1 1 hHeld ?_
  refine GT.tk1 2 hHeld ?_
  refine GT.st1 3 (fun K hK => ?_)
  obtain ⟨m0, m1, m2, mf0, mf1, mf2⟩ := blk3 HE2.out
  go_simp
  obtain ⟨W3, hW3⟩ : ∃ W3, ((W2.setCell ⟨w.heap.size, 0, none⟩ (.int .u64 x.id)).setCell ⟨w.heap.size, 1, none⟩ (.string x.name)).setCell ⟨w.heap.size, 2, none⟩ (.string x.ty) = W3 := ⟨_, rfl⟩
  have ho3 : Only [w.heap.size] W2 W3 := by rw [← hW3]; exact (((Only.refl _ W2).setCell (by simp) _).setCell (by simp) _).setCell (by simp) _
  have HE3 : Hid (Blk W3 w.heap.size 52 #[.int .u64 x.id, .string x.name, .string x.ty]) := Lib.hid (by rw [← hW3]; exact put3 HE2.out _ _ _)
  have HT3 := Lib.hid (HT2.out.only ho3 (by simp))
  have HR3 := Lib.hid (HR2.out.only ho3 (by simp; omega))
  have HN3 := Lib.hid (HN.out.only ho3 (by simp; omega))
  have HTY3 := Lib.hid (HTY.out.only ho3 (by simp; have := HZ.out; omega) (fun _ _ h => h))
  have HB3 := Lib.hid (HB2.out.trans (ho3.below HB2.out.size (by simp)))
  rw [hW3]
  clear hW3 ho3 m0 m1 m2 mf0 mf1 mf2 hHeld
  refine hK.out _ _ (HS.out W3.drew HR3.out.drew HN3.out.drew) (fun hHeld => ?_)
  clear hK K
  try simp only [Act.put, List.setIfInBounds_toArray, List.set_cons_zero, List.set_cons_succ]
  refine GT.st1 4 (fun K hK => ?_)
  obtain ⟨m0, m1, m2, m3, mf0, mf1, mf2, mf3⟩ := blk4 HT3.out
  go_simp
  have ho4 := set4_only W3 (w.heap.size + 1) (.int .i64 x.shape.kind) (.int .i64 x.shape.size) (.slice A1 x.shape.sub.length cap1) (.int .i64 x.shape.tail)
  obtain ⟨y0, y1, y2, y3⟩ := set4_part HT3.out (.int .i64 x.shape.kind) (.int .i64 x.shape.size) (.slice A1 x.shape.sub.length cap1) (.int .i64 x.shape.tail)
  have hT4 := put4_blk HT3.out (.int .i64 x.shape.kind) (.int .i64 x.shape.size) (.slice A1 x.shape.sub.length cap1) (.int .i64 x.shape.tail)
  obtain ⟨W4, hW4⟩ : ∃ W4, (((W3.setCell ⟨w.heap.size + 1, 0, none⟩ (.int .i64 x.shape.kind)).setCell ⟨w.heap.size + 1, 1, none⟩ (.int .i64 x.shape.size)).setCell ⟨w.heap.size + 1, 2, none⟩ (.slice A1 x.shape.sub.length cap1)).setCell ⟨w.heap.size + 1, 3, none⟩ (.int .i64 x.shape.tail) = W4 := ⟨_, rfl⟩
  rw [hW4] at ho4 hT4 ⊢
  clear hW4 y0 y1 y2 y3 m0 m1 m2 m3 mf0 mf1 mf2 mf3 hHeld
  refine hK.out _ _ (HS.out W4.drew (HR3.out.only ho4 (by simp)).drew (HN3.out.only ho4 (by simp; omega)).drew) (fun hHeld => ?_)
  clear hK K
  try simp only [Act.put, List.setIfInBounds_toArray, List.set_cons_zero, List.set_cons_succ]
  refine GT.la1 5 ?_
  go_simp
  clear hHeld
  obtain ⟨q0, q1, q2⟩ := blk3' (HE3.out.only ho4 (by simp)).drew
  obtain ⟨p0, p1, p2, p3, _⟩ := blk4 hT4.drew
  go_wp2
  refine bodyPost_ret (v := .tuple #[.agg #[.int .u64 x.id, .string x.name, .string x.ty], .agg #[.int .i64 x.shape.kind, .int .i64 x.shape.size, .slice A1 x.shape.sub.length cap1, .int .i64 x.shape.tail], .bool true]) (by simp [results, Tryz.results16, go_sem, q0, q1, q2, p0, p1, p2, p3]) rfl ?_
  exact ⟨(HB3.out.trans (ho4.below HB3.out.size (by simp))).drew, .inr ⟨x, A1, cap1, rfl, rfl, ((HTY3.out.only ho4 (by simp; have := HZ.out; omega) (fun _ _ h => h)).below (Below.refl _ _).drew).weak (fun k _ hk => by have hk : W.heap.size ≤ k := hk; show w.heap.size ≤ k; have := HZ.out; omega)⟩⟩
end Go.Proofs.YtnfpgadegpmhkaaGreatDoor
