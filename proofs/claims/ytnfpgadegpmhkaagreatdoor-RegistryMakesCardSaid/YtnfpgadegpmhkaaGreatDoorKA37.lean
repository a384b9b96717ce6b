/- package schema: a type is read: a List. -/
import Derived.Test.YtnfpgadegpmhkaaGreatDoorKA10
import Derived.Test.YtnfpgadegpmhkaaGreatDoorKA9
set_option linter.unusedVariables false
set_option linter.unusedSimpArgs false
set_option maxRecDepth 100000
set_option maxHeartbeats 3200000
namespace Go.Proofs.YtnfpgadegpmhkaaGreatDoor
open Go.RowKit
theorem scRead_l (f d : Nat) (hd : d ≤ 8) (IH : Hid (∀ (g : Nat) (s : ByteArray) (p L : Nat) (w : World), Scr w g s p L → p ≤ s.size → s.size ≤ 100000 → L ≤ 64 →
 Calls Tryz.prog 59 #[.pointer (some ⟨g, 0, none⟩), .int .i64 ((d : Int) + 1)] w fun e w' => ScEnd w g s f L p e w')) (g : Nat) (s : ByteArray) (p L : Nat) (w : World) (h : Scr w g s p L) (hp : p < s.size) (hs : s.size ≤ 100000) (hL : 0 < L) (hL2 : L ≤ 64) (hc : s[p].toNat = 91) :
 Calls Tryz.prog 59 #[.pointer (some ⟨g, 0, none⟩), .int .i64 d] w fun e w' => ScEnd w g s (f + 1) L p e w' := by
 have e1 : ((s[p].toNat : Int) == 117) = false := beq_eq_false_iff_ne.2 (by omega)
 have e2 : ((s[p].toNat : Int) == 98) = false := beq_eq_false_iff_ne.2 (by omega)
 have e3 : ((s[p].toNat : Int) == 115) = false := beq_eq_false_iff_ne.2 (by omega)
 have e4 : ((s[p].toNat : Int) == 91) = true := beq_iff_eq.2 (by omega)
 have ed : IntKind.i64.wrap ((d : Int) + 1) = (d : Int) + 1 := IntWalk.i64_in _ (by omega)
 have HTI : Hid (tItem (f + 1) (s.data.toList.drop p) = tList (tItem f (s.data.toList.drop (p + 1)))) := Lib.hid (by rw [numR_u8 (c := 91) hp hc, tItem_l])
 have HW0 := Lib.hid (ScW.start h)
 generalize hW : ((w.alloc (.cells #[.pointer (some ⟨g, 0, none⟩)] 105)).alloc (.cells #[.int .i64 0, .int .i64 0, .slice none 0 0, .int .i64 0] 55)) = W at *
 obtain ⟨g0, g1, g2, f0, f1, f2, hgl⟩ := HW0.out.rd.cells
 have b0 : W.cell? ⟨w.heap.size, 0, none⟩ = some (.pointer (some ⟨g, 0, none⟩)) := HW0.out.box.cell 0
 have hgw := HW0.out.glt
 have d1 : decide ((8 : Int) < (d : Int)) = false := decide_eq_false (by omega)
 have dL : ((L : Int) == 0) = false := beq_eq_false_iff_ne.2 (by omega)
 have dp : ((p : Int) == (s.size : Int)) = false := beq_eq_false_iff_ne.2 (by omega)
 have ew : IntKind.i64.wrap ((L : Int) - 1) = (L : Int) - 1 := IntWalk.i64_in _ (by omega)
 have hb256 := s[p].toNat_lt
 clear h
 go_enter Tryz.func59, Tryz.ntmps59
 go_wp2_with fail
 go_quiet (fail)
 obtain ⟨nqa, rfl⟩ : ∃ nqa, nqa = nq := ⟨nq, rfl⟩
 go_wp2_with fail
 go_quiet (fail)
 have HWQ := Lib.hid (HW0.out.step ((L : Int) - 1) ((p : Int) + 1) nqa nq (L' := L - 1) (p' := p + 1) (by omega) (by omega))
 have HI := Lib.hid (IH.out g s (p + 1) (L - 1) _ HWQ.out.rd (by omega) hs (by omega))
 clear IH
 go_wp2_with fail
 refine HI.out.mono ?_
 rintro e w1 ⟨x, ok, q, L1, k, z, ta, A, n, cap, rfl, hr, ho, hle, hn, htx⟩
 have HW1 := Lib.hid (HWQ.out.turn ho hr)
 have HSC := Lib.hid hn
 have HTX := Lib.hid htx
 have hsz1 := HW1.out.siz
 have hq := hn.2.2
 clear hr ho hn htx HI
 have HW2 := Lib.hid (HW1.out.below (V' := w1.alloc (.cells #[.int .i64 k, .int .i64 z, .slice A n cap, .int .i64 ta] 55)) blw)
 obtain ⟨n0, n1, n2, n3, m0, m1, m2, m3⟩ := blk4 HW2.out.res
 have b2 : (w1.alloc (.cells #[.int .i64 k, .int .i64 z, .slice A n cap, .int .i64 ta] 55)).cell? ⟨w.heap.size, 0, none⟩ = some (.pointer (some ⟨g, 0, none⟩)) := HW2.out.box.cell 0
 have hlt1 : w.heap.size + 1 < w1.heap.size := by omega
 cases ok with
 | false =>
  obtain ⟨k0, k1, k2, k3, l0, l1, l2, l3⟩ := blk4 HW1.out.res
  have hne1 : ¬ w1.heap.size = w.heap.size + 1 := by omega
  go_wp2
  obtain ⟨E1, E2, y0, y1, y2, y3⟩ := HW1.out.ends (.int .i64 0) (.int .i64 0) (.slice none 0 0) (.int .i64 0)
  refine bodyPost_ret (v := .tuple #[.agg #[.int .i64 0, .int .i64 0, .slice none 0 0, .int .i64 0], .bool false]) (by simp [results, Tryz.results59, go_sem, y0, y1, y2, y3, World.cell?_alloc_lt, hlt1]) rfl ?_
  exact ⟨.mk 0 0 [] 0, false, q, L1, _, _, _, _, _, _, rfl, Blk.alloc (show Blk _ g _ _ from E1) _, E2.alloc _, by omega, scIs_l_sub hL HTI.out HSC.out hq, (by intro h; cases h)⟩
 | true =>
  go_wp2_with fail
  by_cases hco : ∃ hq : q < s.size, s[q].toNat = 58
  ·obtain ⟨hqs, h58⟩ := hco
   refine (passes_yes g s q L1 58 _ HW2.out.rd hqs hs h58).mono ?_
   rintro e w2 ⟨rfl, hr2, ho2⟩
   have HW3 := Lib.hid (HW2.out.turn ho2 hr2)
   have hsz2 := HW3.out.siz
   have b3 : w2.cell? ⟨w.heap.size, 0, none⟩ = some (.pointer (some ⟨g, 0, none⟩)) := HW3.out.box.cell 0
   have HNU := Lib.hid (scSized_c g w.heap.size s (q + 1) L1 1024 4 _ HW3.out.rd HW3.out.box (by omega) hs (by omega))
   clear n0 n1 n2 n3 m0 m1 m2 m3 b2
   go_wp2_with fail
   refine HNU.out.mono ?_
   rintro e w3 ⟨n4, ok4, q4, rfl, hr3, ho3, hn3⟩
   have HW4 := Lib.hid (HW3.out.turn ho3 hr3)
   have HNI := Lib.hid hn3
   have hgl2 := HW1.out.glt
   have HT := Lib.hid (((Blk.new w1 55 #[.int .i64 k, .int .i64 z, .slice A n cap, .int .i64 ta]).only ho2 (by simp; omega)).only ho3 (by simp; omega))
   have hsz3 : w1.heap.size < w3.heap.size := HT.out.lt
   obtain ⟨t0, t1, t2, t3, _, _, _, _⟩ := blk4 HT.out
   have HT1 := Lib.hid (HT.out.alloc (.cells #[.int .i64 4, .int .i64 n4, .slice none 0 0, .int .i64 0] 55))
   obtain ⟨u0, u1, u2, u3, _, _, _, _⟩ := blk4 HT1.out
   have HXL : Hid (TyS w3 (w.heap.size + 2 ≤ ·) x (.int .i64 k) (.int .i64 z) (.slice A n cap) (.int .i64 ta)) := Lib.hid ((HTX.out (by first | rfl | trivial)).only ((((Only.refl [g] w1).alloc _).trans ho2).trans ho3) (by simp [World.setCell] <;> (have := HW0.out.siz; omega)) (fun k _ hk => by simp [World.setCell] at hk; have := HW0.out.siz; omega))
   obtain ⟨W5, hW5⟩ : ∃ W5, ((w3.alloc (.cells #[.int .i64 4, .int .i64 n4, .slice (some ⟨w3.heap.size + 1, 0, none⟩) 1 1, .int .i64 0] 55)).alloc (.cells #[.int .i64 k, .int .i64 z, .slice A n cap, .int .i64 ta] 55)) = W5 := ⟨_, rfl⟩
   have HT5 : Hid (Blk W5 w3.heap.size 55 #[.int .i64 4, .int .i64 n4, .slice (some ⟨w3.heap.size + 1, 0, none⟩) 1 1, .int .i64 0]) := Lib.hid (by rw [← hW5]; exact (Blk.new w3 _ _).alloc _)
   have HN5 : Hid (Blk W5 (w3.heap.size + 1) 55 #[.int .i64 k, .int .i64 z, .slice A n cap, .int .i64 ta]) := Lib.hid (by rw [← hW5]; exact Blk.at_ (by simp))
   have HW5 : Hid (ScW w g s q4 L1 W5) := Lib.hid (by rw [← hW5]; exact HW4.out.below blw)
   have HL5 : Hid (n4 ≤ 1024 → TyS W5 (w.heap.size + 2 ≤ ·) (.mk 4 n4 [x] 0) (.int .i64 4) (.int .i64 n4) (.slice (some ⟨w3.heap.size + 1, 0, none⟩) 1 1) (.int .i64 0)) := Lib.hid (by
    intro hn4
    obtain ⟨x0, x1, x2, x3, _⟩ := blk4 HN5.out
    refine ⟨rfl, rfl, rfl, okI_small (by omega) (by omega), okI_small (by omega) (by omega), okI_small (by omega) (by omega), by simp, _, _, rfl, by simp, by simp, ⟨_, _, _, _, _, _, rfl, ?_, x0, x1, x2, x3, ?_⟩, trivial⟩
    ·show w.heap.size + 2 ≤ w3.heap.size + 1
     omega
    ·exact HXL.out.below (by rw [← hW5]; exact blw))
   have HK : Hid (∀ V, Blk V w3.heap.size 55 #[.int .i64 4, .int .i64 n4, .slice (some ⟨w3.heap.size + 1, 0, none⟩) 1 1, .int .i64 0] → Blk V w.heap.size 105 #[.pointer (some ⟨g, 0, none⟩)] → V.cell? ⟨w3.heap.size, 0, none⟩ = some (.int .i64 4) ∧ V.cell? ⟨w3.heap.size, 1, none⟩ = some (.int .i64 n4) ∧ V.cell? ⟨w3.heap.size, 2, none⟩ = some (.slice (some ⟨w3.heap.size + 1, 0, none⟩) 1 1) ∧ V.cell? ⟨w3.heap.size, 3, none⟩ = some (.int .i64 0) ∧ V.cell? ⟨w.heap.size, 0, none⟩ = some (.pointer (some ⟨g, 0, none⟩))) := Lib.hid (fun V h1 h2 => by
    obtain ⟨a0, a1, a2, a3, _⟩ := blk4 h1
    exact ⟨a0, a1, a2, a3, h2.cell 0⟩)
   have HW5e := Lib.hid hW5
   clear hn3 hr3 ho3 hr2 ho2 HNU b3 hW5
   go_wp2_with fail
   rw [HW5e.out]
   clear t0 t1 t2 t3 u0 u1 u2 u3
   have hHeld := HK.out W5.drew HT5.out.drew HW5.out.box.drew
   cases ok4 with
   | false =>
    refine wp_region_last 7 (fun V => V.cell? ⟨w3.heap.size, 0, none⟩ = some (.int .i64 4) ∧ V.cell? ⟨w3.heap.size, 1, none⟩ = some (.int .i64 n4) ∧ V.cell? ⟨w3.heap.size, 2, none⟩ = some (.slice (some ⟨w3.heap.size + 1, 0, none⟩) 1 1) ∧ V.cell? ⟨w3.heap.size, 3, none⟩ = some (.int .i64 0) ∧ V.cell? ⟨w.heap.size, 0, none⟩ = some (.pointer (some ⟨g, 0, none⟩))) (by kernel_rfl) (by kernel_rfl) ?_
    refine GT.tk1 0 hHeld ?_
    refine GT.tk1 1 hHeld ?_
    refine GT.tk1 2 hHeld ?_
    refine GT.tk1 3 (v := undef) hHeld ?_
    refine GT.tk1 4 (v := undef) hHeld ?_
    refine GT.tk1 5 hHeld ?_
    obtain ⟨n0, n1, n2, n3, m0, m1, m2, m3⟩ := blk4 HW5.out.res
    refine GT.st1 6 (fun K hK => ?_)
    go_simp
    have ho4 : Only [w.heap.size + 1] W5 ((((W5.setCell ⟨w.heap.size + 1, 0, none⟩ (.int .i64 4)).setCell ⟨w.heap.size + 1, 1, none⟩ (.int .i64 n4)).setCell ⟨w.heap.size + 1, 2, none⟩ (.slice (some ⟨w3.heap.size + 1, 0, none⟩) 1 1)).setCell ⟨w.heap.size + 1, 3, none⟩ (.int .i64 0)) := ((((Only.refl _ _).setCell (by simp) _).setCell (by simp) _).setCell (by simp) _).setCell (by simp) _
    refine hK.out _ _ (HK.out _ (HT5.out.only ho4 (by simp; omega)).drew (HW5.out.box.only ho4 (by simp)).drew) (fun hHeld => ?_)
    clear hK K
    try simp only [Act.put, List.setIfInBounds_toArray, List.set_cons_zero, List.set_cons_succ]
    refine GT.la1 7 ?_
    go_simp
    obtain ⟨e1, e2, y0, y1, y2, y3⟩ := HW5.out.ends (.int .i64 4) (.int .i64 n4) (.slice (some ⟨w3.heap.size + 1, 0, none⟩) 1 1) (.int .i64 0)
    go_wp2
    refine bodyPost_ret (v := .tuple #[.agg #[.int .i64 4, .int .i64 n4, .slice (some ⟨w3.heap.size + 1, 0, none⟩) 1 1, .int .i64 0], .bool false]) (by simp [results, Tryz.results59, go_sem, y0, y1, y2, y3]) rfl ?_
    exact ⟨.mk 0 0 [] 0, false, q4, L1, _, _, _, _, _, _, rfl, Blk.drew (show Blk _ g _ _ from e1), e2.drew, by omega, scIs_l_bad HTI.out HSC.out (tail_num x hqs h58 HNI.out L) HNI.out.2.2.1, (by intro h; cases h)⟩
   | true =>
    by_cases hcl : ∃ hq4 : q4 < s.size, s[q4].toNat = 93
    ·obtain ⟨hq4, h93⟩ := hcl
     have HPA := Lib.hid (passes_yes g s q4 L1 93 _ (Blk.drew (show Blk W5 g _ _ from HW5.out.rd)) hq4 hs h93)
     refine wp_region_last 7 (fun V => V.cell? ⟨w3.heap.size, 0, none⟩ = some (.int .i64 4) ∧ V.cell? ⟨w3.heap.size, 1, none⟩ = some (.int .i64 n4) ∧ V.cell? ⟨w3.heap.size, 2, none⟩ = some (.slice (some ⟨w3.heap.size + 1, 0, none⟩) 1 1) ∧ V.cell? ⟨w3.heap.size, 3, none⟩ = some (.int .i64 0) ∧ V.cell? ⟨w.heap.size, 0, none⟩ = some (.pointer (some ⟨g, 0, none⟩))) (by kernel_rfl) (by kernel_rfl) ?_
     refine GT.tk1 0 hHeld ?_
     refine GT.tk1 1 hHeld ?_
     refine GT.tk1 2 hHeld ?_
     refine GT.tk1 3 hHeld ?_
     refine GT.st1 4 (fun K hK => ?_)
     go_simp
     refine HPA.out.mono ?_
     rintro e w6 ⟨rfl, hr6, ho5⟩
     have ho6 : Only [g] W5 w6 := (Only.refl [g] W5).drew.trans ho5
     clear ho5
     have HW6 := Lib.hid (HW5.out.turn ho6 hr6)
     have HO6 := Lib.hid ho6
     have HT6 := Lib.hid (HT5.out.only ho6 (by simp; omega))
     clear hHeld hr6 ho6
     go_wp2_with fail
     refine hK.out _ _ (HK.out w6 HT6.out HW6.out.box) (fun hHeld => ?_)
     clear hK K
     try simp only [Act.put, List.setIfInBounds_toArray, List.set_cons_zero, List.set_cons_succ]
     refine GT.tk1 5 hHeld ?_
     obtain ⟨n0, n1, n2, n3, m0, m1, m2, m3⟩ := blk4 HW6.out.res
     refine GT.st1 6 (fun K hK => ?_)
     go_simp
     have ho4 : Only [w.heap.size + 1] w6 ((((w6.setCell ⟨w.heap.size + 1, 0, none⟩ (.int .i64 4)).setCell ⟨w.heap.size + 1, 1, none⟩ (.int .i64 n4)).setCell ⟨w.heap.size + 1, 2, none⟩ (.slice (some ⟨w3.heap.size + 1, 0, none⟩) 1 1)).setCell ⟨w.heap.size + 1, 3, none⟩ (.int .i64 0)) := ((((Only.refl _ _).setCell (by simp) _).setCell (by simp) _).setCell (by simp) _).setCell (by simp) _
     refine hK.out _ _ (HK.out _ (HT6.out.only ho4 (by simp; omega)) (HW6.out.box.only ho4 (by simp))) (fun hHeld => ?_)
     clear hK K
     try simp only [Act.put, List.setIfInBounds_toArray, List.set_cons_zero, List.set_cons_succ]
     refine GT.la1 7 ?_
     go_simp
     obtain ⟨e1, e2, y0, y1, y2, y3⟩ := HW6.out.ends (.int .i64 4) (.int .i64 n4) (.slice (some ⟨w3.heap.size + 1, 0, none⟩) 1 1) (.int .i64 0)
     go_wp2
     refine bodyPost_ret (v := .tuple #[.agg #[.int .i64 4, .int .i64 n4, .slice (some ⟨w3.heap.size + 1, 0, none⟩) 1 1, .int .i64 0], .bool true]) (by simp [results, Tryz.results59, go_sem, y0, y1, y2, y3]) rfl ?_
     exact ⟨.mk 4 n4 [x] 0, true, q4 + 1, L1, _, _, _, _, _, _, rfl, e1, e2, by omega, scIs_l_yes hL HTI.out HSC.out (tail_yes x hqs h58 HNI.out hq4 h93) (by have := (HNI.out.1 rfl).2.2; omega) (by omega), fun _ => ((HL5.out HNI.out.2.2.2).only HO6.out (by simp; omega) (fun _ _ h => h)).only (L := [w.heap.size + 1]) (((((Only.refl _ w6).setCell (by simp) _).setCell (by simp) _).setCell (by simp) _).setCell (by simp) _) (by simp) (fun _ _ h => by omega)⟩
    ·have HPA := Lib.hid (passes_no g s q4 L1 93 _ (Blk.drew (show Blk W5 g _ _ from HW5.out.rd)) HNI.out.2.2.1 hs (fun h1 h2 => hcl ⟨h1, h2⟩))
     refine wp_region_last 7 (fun V => V.cell? ⟨w3.heap.size, 0, none⟩ = some (.int .i64 4) ∧ V.cell? ⟨w3.heap.size, 1, none⟩ = some (.int .i64 n4) ∧ V.cell? ⟨w3.heap.size, 2, none⟩ = some (.slice (some ⟨w3.heap.size + 1, 0, none⟩) 1 1) ∧ V.cell? ⟨w3.heap.size, 3, none⟩ = some (.int .i64 0) ∧ V.cell? ⟨w.heap.size, 0, none⟩ = some (.pointer (some ⟨g, 0, none⟩))) (by kernel_rfl) (by kernel_rfl) ?_
     refine GT.tk1 0 hHeld ?_
     refine GT.tk1 1 hHeld ?_
     refine GT.tk1 2 hHeld ?_
     refine GT.tk1 3 hHeld ?_
     refine GT.st1 4 (fun K hK => ?_)
     go_simp
     refine HPA.out.mono ?_
     rintro e w6 ⟨rfl, n6, hw6⟩
     have hr6 : Scr w6 g s q4 L1 := by rw [hw6]; exact HW5.out.rd
     have ho6 : Only [g] W5 w6 := by rw [hw6]; exact (Only.refl [g] W5).drew.drewN _
     clear hw6
     have HW6 := Lib.hid (HW5.out.turn ho6 hr6)
     have HO6 := Lib.hid ho6
     have HT6 := Lib.hid (HT5.out.only ho6 (by simp; omega))
     clear hHeld hr6 ho6
     go_wp2_with fail
     refine hK.out _ _ (HK.out w6 HT6.out HW6.out.box) (fun hHeld => ?_)
     clear hK K
     try simp only [Act.put, List.setIfInBounds_toArray, List.set_cons_zero, List.set_cons_succ]
     refine GT.tk1 5 hHeld ?_
     obtain ⟨n0, n1, n2, n3, m0, m1, m2, m3⟩ := blk4 HW6.out.res
     refine GT.st1 6 (fun K hK => ?_)
     go_simp
     have ho4 : Only [w.heap.size + 1] w6 ((((w6.setCell ⟨w.heap.size + 1, 0, none⟩ (.int .i64 4)).setCell ⟨w.heap.size + 1, 1, none⟩ (.int .i64 n4)).setCell ⟨w.heap.size + 1, 2, none⟩ (.slice (some ⟨w3.heap.size + 1, 0, none⟩) 1 1)).setCell ⟨w.heap.size + 1, 3, none⟩ (.int .i64 0)) := ((((Only.refl _ _).setCell (by simp) _).setCell (by simp) _).setCell (by simp) _).setCell (by simp) _
     refine hK.out _ _ (HK.out _ (HT6.out.only ho4 (by simp; omega)) (HW6.out.box.only ho4 (by simp))) (fun hHeld => ?_)
     clear hK K
     try simp only [Act.put, List.setIfInBounds_toArray, List.set_cons_zero, List.set_cons_succ]
     refine GT.la1 7 ?_
     go_simp
     obtain ⟨e1, e2, y0, y1, y2, y3⟩ := HW6.out.ends (.int .i64 4) (.int .i64 n4) (.slice (some ⟨w3.heap.size + 1, 0, none⟩) 1 1) (.int .i64 0)
     go_wp2
     refine bodyPost_ret (v := .tuple #[.agg #[.int .i64 4, .int .i64 n4, .slice (some ⟨w3.heap.size + 1, 0, none⟩) 1 1, .int .i64 0], .bool false]) (by simp [results, Tryz.results59, go_sem, y0, y1, y2, y3]) rfl ?_
     exact ⟨.mk 0 0 [] 0, false, q4, L1, _, _, _, _, _, _, rfl, e1, e2, by omega, scIs_l_bad HTI.out HSC.out (tail_open x hqs h58 HNI.out (fun h1 h2 => hcl ⟨h1, h2⟩) L) HNI.out.2.2.1, (by intro h; cases h)⟩
  ·refine (passes_no g s q L1 58 _ HW2.out.rd hq hs (fun h1 h2 => hco ⟨h1, h2⟩)).mono ?_
   rintro e w2 ⟨rfl, n5, rfl⟩
   go_wp2
   obtain ⟨E1, E2, y0, y1, y2, y3⟩ := (HW2.out.below (V' := (w1.alloc (.cells #[.int .i64 k, .int .i64 z, .slice A n cap, .int .i64 ta] 55)).drewN n5) blw).ends (.int .i64 0) (.int .i64 0) (.slice none 0 0) (.int .i64 0)
   refine bodyPost_ret (v := .tuple #[.agg #[.int .i64 0, .int .i64 0, .slice none 0 0, .int .i64 0], .bool false]) (by simp [results, Tryz.results59, go_sem, y0, y1, y2, y3]) rfl ?_
   exact ⟨.mk 0 0 [] 0, false, q, L1, _, _, _, _, _, _, rfl, E1, E2, by omega, scIs_l_bad HTI.out HSC.out (tail_not x (fun h1 h2 => hco ⟨h1, h2⟩) L) hq, (by intro h; cases h)⟩
def FsEnd (w : World) (g : Nat) (s : ByteArray) (L : Nat) (R : Option (Ty × List UInt8)) (e : Ending) (w' : World) : Prop :=
 ∃ (t : Ty) (ok : Bool) (q L' : Nat) (k z ta : Int) (A : Option Addr) (n cap : Nat), e = .returned (.tuple #[.agg #[.int .i64 k, .int .i64 z, .slice A n cap, .int .i64 ta], .bool ok]) ∧ Scr w' g s q L' ∧ Only [g] w w' ∧ L' ≤ L ∧ ScFs (1 + L) s R t ok q L' ∧ (ok = true → TyS w' (w.heap.size ≤ ·) t (.int .i64 k) (.int .i64 z) (.slice A n cap) (.int .i64 ta))
structure FsW (w : World) (g : Nat) (s : ByteArray) (p L : Nat) (acc : List Ty) (tl : Nat) (v : Value) (V : World) : Prop where
 res : Blk V w.heap.size 55 #[.int .i64 0, .int .i64 0, .slice none 0 0, .int .i64 0]
 bx : Blk V (w.heap.size + 1) 55 #[.int .i64 5, .int .i64 0, v, .int .i64 tl]
 acc : AccT V (w.heap.size + 2) acc v
 rd : Scr V g s p L
 only : Only [g] w V
 siz : w.heap.size + 2 ≤ V.heap.size
 glt : g < w.heap.size
theorem FsW.start {w : World} {g : Nat} {s : ByteArray} {p L : Nat} (h : Scr w g s p L) : FsW w g s p L [] 0 (.slice none 0 0) ((w.alloc (.cells #[.int .i64 0, .int .i64 0, .slice none 0 0, .int .i64 0] 55)).alloc (.cells #[.int .i64 5, .int .i64 0, .slice none 0 0, .int .i64 0] 55)) where
 res := (Blk.new w _ _).alloc _
 bx := Blk.at_ (by simp)
 acc := AccT.nil _ _
 rd := (Blk.alloc (show Blk w g _ _ from h) _).alloc _
 only := ((Only.refl _ w).alloc _).alloc _
 siz := by simp
 glt := Blk.lt (show Blk w g _ _ from h)
theorem FsW.turn {w V V' : World} {g : Nat} {s : ByteArray} {p p' L L' tl : Nat} {acc : List Ty} {v : Value} (h : FsW w g s p L acc tl v V) (ho : Only [g] V V') (hr : Scr V' g s p' L') : FsW w g s p' L' acc tl v V' where
 res := h.res.only ho (by have := h.glt; simp; omega)
 bx := h.bx.only ho (by have := h.glt; simp; omega)
 acc := h.acc.only ho (by have := h.glt; simp; omega)
 rd := hr
 only := h.only.trans ho
 siz := Nat.le_trans h.siz ho.size
 glt := h.glt
theorem FsW.below {w V V' : World} {g : Nat} {s : ByteArray} {p L tl : Nat} {acc : List Ty} {v : Value} (h : FsW w g s p L acc tl v V) (hb : Below V.heap.size V V') : FsW w g s p L acc tl v V' := h.turn ((Only.of_below hb (Nat.le_refl _)).mono (by simp)) ((hb.block _ (Blk.lt (show Blk V g _ _ from h.rd))).trans h.rd)
theorem FsW.mark {w V : World} {g : Nat} {s : ByteArray} {p L tl : Nat} {acc : List Ty} {v : Value} (h : FsW w g s p L acc tl v V) {n : Int} (hn : n = (tl + 1 : Nat)) : FsW w g s p L acc (tl + 1) v (V.setCell ⟨w.heap.size + 1, 3, none⟩ (.int .i64 n)) where
 res := h.res.far (by simp) _
 bx := by subst hn; exact h.bx.store rfl
 acc := h.acc.only ((Only.refl [w.heap.size + 1] V).setCell (by simp) _) (by simp)
 rd := Blk.far (show Blk V g _ _ from h.rd) (by have := h.glt; simp; omega) _
 only := h.only.setCell (by simp) _
 siz := by simp [World.setCell]; exact h.siz
 glt := h.glt
theorem FsW.more {w V V' : World} {g : Nat} {s : ByteArray} {p L tl : Nat} {acc acc' : List Ty} {v v' : Value} (h : FsW w g s p L acc tl v V) (hg : V.grownBy V' v.ownBlock) (ha : AccT V' (w.heap.size + 2) acc' v') : FsW w g s p L acc' tl v' (V'.setCell ⟨w.heap.size + 1, 2, none⟩ v') :=
 have hno : ∀ k, k < w.heap.size + 2 → v.ownBlock ≠ some k := fun k hk e => by have := (h.acc.ge k e).1; omega
 ⟨(h.res.grown hg (hno _ (by omega))).far (by simp) _,
  (h.bx.grown hg (hno _ (by omega))).store rfl,
  ha.only ((Only.refl [w.heap.size + 1] V').setCell (by simp) _) (by simp),
  (Blk.grown (show Blk V g _ _ from h.rd) hg (hno _ (by have := h.glt; omega))).far (by have := h.glt; simp; omega) _,
  (h.only.grown hg (fun k hk => .inr (by have := (h.acc.ge k hk).1; omega))).setCell (by simp) _,
  (by simp [World.setCell]; exact Nat.le_trans h.siz hg.size),
  h.glt⟩
theorem FsW.ends {w V : World} {g : Nat} {s : ByteArray} {p L tl : Nat} {acc : List Ty} {v : Value} (h : FsW w g s p L acc tl v V) (u0 u1 u2 u3 : Value) :
 Scr ((((V.setCell ⟨w.heap.size, 0, none⟩ u0).setCell ⟨w.heap.size, 1, none⟩ u1).setCell ⟨w.heap.size, 2, none⟩ u2).setCell ⟨w.heap.size, 3, none⟩ u3) g s p L ∧ Only [g] w ((((V.setCell ⟨w.heap.size, 0, none⟩ u0).setCell ⟨w.heap.size, 1, none⟩ u1).setCell ⟨w.heap.size, 2, none⟩ u2).setCell ⟨w.heap.size, 3, none⟩ u3) ∧
 (V.setCell ⟨w.heap.size, 0, none⟩ u0).cell? ⟨w.heap.size, 0, none⟩ = some u0 ∧ ((V.setCell ⟨w.heap.size, 0, none⟩ u0).setCell ⟨w.heap.size, 1, none⟩ u1).cell? ⟨w.heap.size, 1, none⟩ = some u1 ∧ (((V.setCell ⟨w.heap.size, 0, none⟩ u0).setCell ⟨w.heap.size, 1, none⟩ u1).setCell ⟨w.heap.size, 2, none⟩ u2).cell? ⟨w.heap.size, 2, none⟩ = some u2 ∧ ((((V.setCell ⟨w.heap.size, 0, none⟩ u0).setCell ⟨w.heap.size, 1, none⟩ u1).setCell ⟨w.heap.size, 2, none⟩ u2).setCell ⟨w.heap.size, 3, none⟩ u3).cell? ⟨w.heap.size, 3, none⟩ = some u3 :=
 have n1 : g ≠ w.heap.size := by have := h.glt; omega
 ⟨(((Blk.far (show Blk V g _ _ from h.rd) (p := ⟨w.heap.size, 0, none⟩) n1 _).far (p := ⟨w.heap.size, 1, none⟩) n1 _).far (p := ⟨w.heap.size, 2, none⟩) n1 _).far (p := ⟨w.heap.size, 3, none⟩) n1 _, (((h.only.setCell (by simp) _).setCell (by simp) _).setCell (by simp) _).setCell (by simp) _, by have := (h.res.set 0 u0).cell 0; simpa using this, by have := ((h.res.set 0 u0).set 1 u1).cell 1; simpa using this, by have := (((h.res.set 0 u0).set 1 u1).set 2 u2).cell 2; simpa using this, by have := ((((h.res.set 0 u0).set 1 u1).set 2 u2).set 3 u3).cell 3; simpa using this⟩
theorem FsW.ty {w V : World} {g : Nat} {s : ByteArray} {p L tl : Nat} {acc : List Ty} {v : Value} (h : FsW w g s p L acc tl v V) (h1 : acc.length ≤ 200000) (h2 : tl ≤ 200000) (u0 u1 u2 u3 : Value) : TyS ((((V.setCell ⟨w.heap.size, 0, none⟩ u0).setCell ⟨w.heap.size, 1, none⟩ u1).setCell ⟨w.heap.size, 2, none⟩ u2).setCell ⟨w.heap.size, 3, none⟩ u3) (w.heap.size ≤ ·) (.mk 5 0 acc tl) (.int .i64 5) (.int .i64 0) v (.int .i64 tl) := by
 have ha : AccT _ (w.heap.size + 2) acc v := h.acc.only (L := [w.heap.size]) (w' := (((V.setCell ⟨w.heap.size, 0, none⟩ u0).setCell ⟨w.heap.size, 1, none⟩ u1).setCell ⟨w.heap.size, 2, none⟩ u2).setCell ⟨w.heap.size, 3, none⟩ u3) (((((Only.refl _ _).setCell (by simp) _).setCell (by simp) _).setCell (by simp) _).setCell (by simp) _) (by simp)
 refine TyS.weak (ha.ty (by omega) (okI_small (by omega) (by omega)) (okI_small (by omega) (by omega)) (okI_small (by omega) (by omega))) fun k _ hk => ?_
 have hk : w.heap.size + 2 ≤ k := hk
 show w.heap.size ≤ k
 omega
theorem scFields_c (f d : Nat) (hd : d ≤ 8) (IH : Hid (∀ (g : Nat) (s : ByteArray) (p L : Nat) (w : World), Scr w g s p L → p ≤ s.size → s.size ≤ 100000 → L ≤ 64 →
 Calls Tryz.prog 59 #[.pointer (some ⟨g, 0, none⟩), .int .i64 ((d : Int) + 1)] w fun e w' => ScEnd w g s f L p e w')) (g : Nat) (s : ByteArray) (p L : Nat) (R : Option (Ty × List UInt8)) (w : World) (h : Scr w g s p L) (hT : Hid (TLoop f s R p [] 0)) (hp : p ≤ s.size) (hs : s.size ≤ 100000) (hL2 : L ≤ 64) :
 Calls Tryz.prog 95 #[.pointer (some ⟨g, 0, none⟩), .int .i64 d] w fun e w' => FsEnd w g s L R e w' := by
 have ed : IntKind.i64.wrap ((d : Int) + 1) = (d : Int) + 1 := IntWalk.i64_in _ (by omega)
 have HW0 := Lib.hid (FsW.start h)
 have hgl := HW0.out.glt
 clear h
 go_enter Tryz.func95, Tryz.ntmps95
 go_wp2_with fail
 by_cases hco : ∃ hq : p < s.size, s[p].toNat = 125
 ·obtain ⟨hqs, h125⟩ := hco
  refine (passes_yes g s p L 125 _ HW0.out.rd hqs hs h125).mono ?_
  rintro e w1 ⟨rfl, hr1, ho1⟩
  have HW1 := Lib.hid (HW0.out.turn ho1 hr1)
  clear hr1 ho1
  obtain ⟨r0, r1, r2, r3, rf0, rf1, rf2, rf3⟩ := blk4 HW1.out.res
  obtain ⟨b0, b1, b2, b3, bf0, bf1, bf2, bf3⟩ := blk4 HW1.out.bx
  go_wp2
  obtain ⟨e1, e2, y0, y1, y2, y3⟩ := HW1.out.ends (.int .i64 5) (.int .i64 0) (.slice none 0 0) (.int .i64 0)
  refine bodyPost_ret (v := .tuple #[.agg #[.int .i64 5, .int .i64 0, (.slice none 0 0), .int .i64 0], .bool true]) (by simp [results, Tryz.results95, go_sem, y0, y1, y2, y3]) rfl ?_
  exact ⟨.mk 5 0 [] 0, true, p + 1, L, _, _, _, _, _, _, rfl, e1, e2, Nat.le_refl _, fs_yes (hT.out.ends hqs h125) (by simp [countT]) (by omega), fun _ => HW1.out.ty (by simp) (by omega) _ _ _ _⟩
 ·have HTS := Lib.hid (tsep_start hT.out (fun h1 h2 => hco ⟨h1, h2⟩))
  refine (passes_no g s p L 125 _ HW0.out.rd hp hs (fun h1 h2 => hco ⟨h1, h2⟩)).mono ?_
  rintro e w1 ⟨rfl, n1, hw1⟩
  have HW1 : Hid (FsW w g s p L [] 0 (.slice none 0 0) w1) := Lib.hid (by rw [hw1]; exact HW0.out.below blw)
  clear hw1 hco
  go_wp2_with fail
  go_loopw [7] (fun _ wr => ∃ (q Lc : Nat) (acc : List Ty) (tl : Nat) (vv : Value), q ≤ s.size ∧ Hid (TSep f s R q acc tl) ∧ Hid (Lc + countT acc = L) ∧ Lc ≤ L ∧ acc.length ≤ q ∧ tl ≤ q ∧ Hid (FsW w g s q Lc acc tl vv wr)) (fun _ wr => s.size - atOf (wr.cell? ⟨g, 1, none⟩))
  case atStart => exact ⟨p, L, [], 0, _, hp, HTS, Lib.hid (by simp [countT]), Nat.le_refl _, by simp, by omega, HW1⟩
  case round =>
   clear HW0 HW1 HTS
   obtain ⟨q, Lc, acc, tl, vv, hq, HTS, HLC, hle, hal, htl, HW⟩ := hrel
   obtain ⟨c0, c1, c2, cf0, cf1, cf2, hcl⟩ := HW.out.rd.cells
   obtain ⟨A2, n2, cap2, rfl, hn2, hc3, hc4⟩ := HW.out.acc.form'
   obtain ⟨r0, r1, r2, r3, rf0, rf1, rf2, rf3⟩ := blk4 HW.out.res
   obtain ⟨b0, b1, b2, b3, bf0, bf1, bf2, bf3⟩ := blk4 HW.out.bx
   clear c0 c2 cf0 cf1 cf2
   by_cases h63 : ∃ hq : q < s.size, s[q].toNat = 63
   ·obtain ⟨hqs, h63⟩ := h63
    have etl : IntKind.i64.wrap ((tl : Int) + 1) = (tl : Int) + 1 := IntWalk.i64_in _ (by omega)
    clear r0 r1 r2 r3 rf0 rf1 rf2 rf3 b0 b1 b2 b3 bf0 bf1 bf2 bf3
    go_wp2_with fail
    refine (passes_yes g s q Lc 63 _ HW.out.rd hqs hs h63).mono ?_
    rintro e w2 ⟨rfl, hr2, ho2⟩
    have HW2 := Lib.hid (HW.out.turn ho2 hr2)
    clear hr2 ho2
    obtain ⟨r0, r1, r2, r3, rf0, rf1, rf2, rf3⟩ := blk4 HW2.out.res
    obtain ⟨b0, b1, b2, b3, bf0, bf1, bf2, bf3⟩ := blk4 HW2.out.bx
    obtain ⟨W3, hW3⟩ : ∃ W3, w2.setCell ⟨w.heap.size + 1, 3, none⟩ (.int .i64 ((tl : Int) + 1)) = W3 := ⟨_, rfl⟩
    obtain ⟨T, hTT⟩ : ∃ T, tl + 1 = T := ⟨_, rfl⟩
    have HW3 : Hid (FsW w g s (q + 1) Lc acc T (.slice A2 n2 cap2) W3) := Lib.hid (by rw [← hW3, ← hTT]; exact HW2.out.mark (by omega))
    have HAT : Hid (TAt f s R (q + 1) acc T) := Lib.hid (by rw [← hTT]; exact HTS.out.mark hqs h63)
    have HWe := Lib.hid hW3
    have hQ : q + 1 ≤ s.size := by omega
    have hTq : T ≤ q + 1 := by omega
    clear hW3 hTT
    go_wp2_with fail
    rw [HWe.out]
    refine (IH.out g s ((q + 1)) Lc W3 HW3.out.rd hQ hs (by omega)).mono ?_
    rintro e w4 ⟨y, ok, q4, L4, k, z, ta, A, n, cap, rfl, hr, ho, hle4, hn, hty⟩
    have HW4 := Lib.hid (HW3.out.turn ho hr)
    have HSC := Lib.hid hn
    have HTY := Lib.hid hty
    have hq4 := hn.2.2
    have hsz3 := HW3.out.siz
    have hsz4 := HW4.out.siz
    have hlt4 : w.heap.size < w4.heap.size := by omega
    have hlt5 : w.heap.size + 1 < w4.heap.size := by omega
    clear hr ho hn hty r0 r1 r2 r3 rf0 rf1 rf2 rf3 b0 b1 b2 b3 bf0 bf1 bf2 bf3
    obtain ⟨r0, r1, r2, r3, rf0, rf1, rf2, rf3⟩ := blk4 HW4.out.res
    obtain ⟨b0, b1, b2, b3, bf0, bf1, bf2, bf3⟩ := blk4 HW4.out.bx
    cases ok with
    | false =>
     go_wp2
     obtain ⟨e1, e2, y0, y1, y2, y3⟩ := HW4.out.ends (.int .i64 0) (.int .i64 0) (.slice none 0 0) (.int .i64 0)
     refine bodyPost_ret (v := .tuple #[.agg #[.int .i64 0, .int .i64 0, .slice none 0 0, .int .i64 0], .bool false]) (by simp [results, Tryz.results95, go_sem, y0, y1, y2, y3, World.cell?_alloc_lt, hlt4]) rfl ?_
     exact ⟨.mk 0 0 [] 0, false, q4, L4, _, _, _, _, _, _, rfl, Blk.alloc (show Blk _ g _ _ from e1) _, e2.alloc _, by omega, fs_bad _ HAT.out HSC.out HLC.out, (by intro h; cases h)⟩
    | true =>
     have HLP := Lib.hid (tat_yes HAT.out hQ HSC.out)
     obtain ⟨_, hct, hqq⟩ := HSC.out.1 rfl
     have HL4 : Hid (L4 + countT (acc ++ [y]) = L) := Lib.hid (by rw [countT_snoc]; have := HLC.out; omega)
     have HW5 : Hid (∀ o o', FsW w g s q4 L4 acc (T) (.slice A2 n2 cap2) ((w4.alloc o).alloc o')) := Lib.hid (fun o o' => HW4.out.below blw)
     have HY : Hid (∀ o o', TyS ((w4.alloc o).alloc o') (fun k => w.heap.size + 2 ≤ k ∧ (Value.slice A2 n2 cap2).ownBlock ≠ some k) y (.int .i64 k) (.int .i64 z) (.slice A n cap) (.int .i64 ta)) := Lib.hid (fun o o' => ((HTY.out (by first | rfl | trivial)).weak (fun k _ hk => ⟨by have hk : W3.heap.size ≤ k := hk; omega, fun e => by have := (HW3.out.acc.ge k e).2; have hk : W3.heap.size ≤ k := hk; omega⟩)).below blw)
     have hl6 : acc.length ≤ 1000000 := by omega
     clear hct
     go_wp2_with (at_builtin; refine wpList_append_type (by rfl) (.tmp 34) (.tmp 36) (by rfl) (w.heap.size + 2) acc (by rfl) (HW5.out _ _).acc y (HY.out _ _) _ (by rfl) (by simp) (by simp) (by simp) (by simp) hl6 (by simp only [World.size_alloc]; omega) ?_)
     intro g' n' cap' w6 hn' hacc6 hgr hlo6
     have hbx6 := Blk.grown (HW5.out _ _).bx hgr (fun e => by have := ((HW5.out (.cells #[] 0) (.cells #[] 0)).acc.ge _ e).1; omega)
     clear r0 r1 r2 r3 rf0 rf1 rf2 rf3 b0 b1 b2 b3 bf0 bf1 bf2 bf3
     obtain ⟨b0, b1, b2, b3, bf0, bf1, bf2, bf3⟩ := blk4 hbx6
     obtain ⟨W7, hW7⟩ : ∃ W7, w6.setCell ⟨w.heap.size + 1, 2, none⟩ (.slice (some ⟨g', 0, none⟩) n' cap') = W7 := ⟨_, rfl⟩
     have HW7 : Hid (FsW w g s q4 L4 (acc ++ [y]) (T) (.slice (some ⟨g', 0, none⟩) n' cap') W7) := Lib.hid (by rw [← hW7]; exact (HW5.out _ _).more hgr hacc6)
     have HWf := Lib.hid hW7
     clear hW7 hbx6 hgr hacc6
     go_wp2_with fail
     rw [HWf.out]
     clear b0 b1 b2 b3 bf0 bf1 bf2 bf3
     by_cases h125 : ∃ hq : q4 < s.size, s[q4].toNat = 125
     ·obtain ⟨hqs4, h125⟩ := h125
      refine (passes_yes g s q4 L4 125 _ HW7.out.rd hqs4 hs h125).mono ?_
      rintro e w8 ⟨rfl, hr8, ho8⟩
      have HW8 := Lib.hid (HW7.out.turn ho8 hr8)
      clear hr8 ho8
      obtain ⟨r0, r1, r2, r3, rf0, rf1, rf2, rf3⟩ := blk4 HW8.out.res
      obtain ⟨b0, b1, b2, b3, bf0, bf1, bf2, bf3⟩ := blk4 HW8.out.bx
      go_wp2
      obtain ⟨e1, e2, y0, y1, y2, y3⟩ := HW8.out.ends (.int .i64 5) (.int .i64 0) (.slice (some ⟨g', 0, none⟩) n' cap') (.int .i64 ((T : Nat) : Int))
      refine bodyPost_ret (v := .tuple #[.agg #[.int .i64 5, .int .i64 0, (.slice (some ⟨g', 0, none⟩) n' cap'), .int .i64 ((T : Nat) : Int)], .bool true]) (by simp [results, Tryz.results95, go_sem, y0, y1, y2, y3]) rfl ?_
      exact ⟨.mk 5 0 (acc ++ [y]) ((T : Nat) : Int), true, q4 + 1, L4, _, _, _, _, _, _, rfl, e1, e2, by omega, fs_yes (HLP.out.ends hqs4 h125) HL4.out (by omega), fun _ => HW8.out.ty (by simp; omega) (by omega) _ _ _ _⟩
     ·refine (passes_no g s q4 L4 125 _ HW7.out.rd hq4 hs (fun h1 h2 => h125 ⟨h1, h2⟩)).mono ?_
      rintro e w8 ⟨rfl, n8, hw8⟩
      have HW8 : Hid (FsW w g s q4 L4 (acc ++ [y]) (T) (.slice (some ⟨g', 0, none⟩) n' cap') w8) := Lib.hid (by rw [hw8]; exact HW7.out.below blw)
      clear hw8
      go_wp2_with fail
      by_cases h44 : ∃ hq : q4 < s.size, s[q4].toNat = 44
      ·obtain ⟨hqs4, h44⟩ := h44
       refine (passes_yes g s q4 L4 44 _ HW8.out.rd hqs4 hs h44).mono ?_
       rintro e w9 ⟨rfl, hr9, ho9⟩
       have HW9 := Lib.hid (HW8.out.turn ho9 hr9)
       have c9 := HW9.out.rd.cells.2.1
       clear hr9 ho9
       go_wp2
       go_roundw
       case rel => exact ⟨q4 + 1, L4, acc ++ [y], T, _, by omega, Lib.hid (HLP.out.more hqs4 h44 (by simp)), HL4, by omega, by simp; omega, by omega, HW9⟩
       case measure =>
        rw [c1, c9]
        simp only [atOf]
        omega
      ·refine (passes_no g s q4 L4 44 _ HW8.out.rd hq4 hs (fun h1 h2 => h44 ⟨h1, h2⟩)).mono ?_
       rintro e w9 ⟨rfl, n9, hw9⟩
       have HW9 : Hid (FsW w g s q4 L4 (acc ++ [y]) (T) (.slice (some ⟨g', 0, none⟩) n' cap') w9) := Lib.hid (by rw [hw9]; exact HW8.out.below blw)
       clear hw9
       obtain ⟨r0, r1, r2, r3, rf0, rf1, rf2, rf3⟩ := blk4 HW9.out.res
       obtain ⟨b0, b1, b2, b3, bf0, bf1, bf2, bf3⟩ := blk4 HW9.out.bx
       go_wp2
       obtain ⟨e1, e2, y0, y1, y2, y3⟩ := HW9.out.ends (.int .i64 0) (.int .i64 0) (.slice none 0 0) (.int .i64 0)
       refine bodyPost_ret (v := .tuple #[.agg #[.int .i64 0, .int .i64 0, .slice none 0 0, .int .i64 0], .bool false]) (by simp [results, Tryz.results95, go_sem, y0, y1, y2, y3]) rfl ?_
       exact ⟨.mk 0 0 [] 0, false, q4, L4, _, _, _, _, _, _, rfl, e1, e2, by omega, fs_none _ (tloop_bad HLP.out (by simp) (fun h1 h2 => h125 ⟨h1, h2⟩) (fun h1 h2 => h44 ⟨h1, h2⟩)) hq4, (by intro h; cases h)⟩
   ·go_wp2_with fail
    refine (passes_no g s q Lc 63 _ HW.out.rd hq hs (fun h1 h2 => h63 ⟨h1, h2⟩)).mono ?_
    rintro e w2 ⟨rfl, n2', hw2⟩
    have HW3 : Hid (FsW w g s q Lc acc tl (.slice A2 n2 cap2) w2) := Lib.hid (by rw [hw2]; exact HW.out.below blw)
    clear hw2 r0 r1 r2 r3 rf0 rf1 rf2 rf3 b0 b1 b2 b3 bf0 bf1 bf2 bf3
    obtain ⟨r0, r1, r2, r3, rf0, rf1, rf2, rf3⟩ := blk4 HW3.out.res
    obtain ⟨b0, b1, b2, b3, bf0, bf1, bf2, bf3⟩ := blk4 HW3.out.bx
    by_cases ht0 : 0 < tl
    ·have hti : (0 : Int) < (tl : Int) := by omega
     go_wp2
     obtain ⟨e1, e2, y0, y1, y2, y3⟩ := HW3.out.ends (.int .i64 0) (.int .i64 0) (.slice none 0 0) (.int .i64 0)
     refine bodyPost_ret (v := .tuple #[.agg #[.int .i64 0, .int .i64 0, .slice none 0 0, .int .i64 0], .bool false]) (by simp [results, Tryz.results95, go_sem, y0, y1, y2, y3]) rfl ?_
     exact ⟨.mk 0 0 [] 0, false, q, Lc, _, _, _, _, _, _, rfl, e1, e2, by omega, fs_none _ (HTS.out.none_ (fun h1 h2 => h63 ⟨h1, h2⟩) ht0) hq, (by intro h; cases h)⟩
    ·have HAT : Hid (TAt f s R q acc tl) := Lib.hid (by
      obtain rfl : tl = 0 := by omega
      exact HTS.out.plain (fun h1 h2 => h63 ⟨h1, h2⟩))
     obtain ⟨W3, rfl⟩ : ∃ W3, W3 = w2 := ⟨w2, rfl⟩
     have hQ := hq
     have hti : ¬ (0 : Int) < (tl : Int) := by omega
     go_wp2_with fail
     refine (IH.out g s (q) Lc W3 HW3.out.rd hQ hs (by omega)).mono ?_
     rintro e w4 ⟨y, ok, q4, L4, k, z, ta, A, n, cap, rfl, hr, ho, hle4, hn, hty⟩
     have HW4 := Lib.hid (HW3.out.turn ho hr)
     have HSC := Lib.hid hn
     have HTY := Lib.hid hty
     have hq4 := hn.2.2
     have hsz3 := HW3.out.siz
     have hsz4 := HW4.out.siz
     have hlt4 : w.heap.size < w4.heap.size := by omega
     have hlt5 : w.heap.size + 1 < w4.heap.size := by omega
     clear hr ho hn hty r0 r1 r2 r3 rf0 rf1 rf2 rf3 b0 b1 b2 b3 bf0 bf1 bf2 bf3
     obtain ⟨r0, r1, r2, r3, rf0, rf1, rf2, rf3⟩ := blk4 HW4.out.res
     obtain ⟨b0, b1, b2, b3, bf0, bf1, bf2, bf3⟩ := blk4 HW4.out.bx
     cases ok with
     | false =>
      go_wp2
      obtain ⟨e1, e2, y0, y1, y2, y3⟩ := HW4.out.ends (.int .i64 0) (.int .i64 0) (.slice none 0 0) (.int .i64 0)
      refine bodyPost_ret (v := .tuple #[.agg #[.int .i64 0, .int .i64 0, .slice none 0 0, .int .i64 0], .bool false]) (by simp [results, Tryz.results95, go_sem, y0, y1, y2, y3, World.cell?_alloc_lt, hlt4]) rfl ?_
      exact ⟨.mk 0 0 [] 0, false, q4, L4, _, _, _, _, _, _, rfl, Blk.alloc (show Blk _ g _ _ from e1) _, e2.alloc _, by omega, fs_bad _ HAT.out HSC.out HLC.out, (by intro h; cases h)⟩
     | true =>
      have HLP := Lib.hid (tat_yes HAT.out hQ HSC.out)
      obtain ⟨_, hct, hqq⟩ := HSC.out.1 rfl
      have HL4 : Hid (L4 + countT (acc ++ [y]) = L) := Lib.hid (by rw [countT_snoc]; have := HLC.out; omega)
      have HW5 : Hid (∀ o o', FsW w g s q4 L4 acc (tl) (.slice A2 n2 cap2) ((w4.alloc o).alloc o')) := Lib.hid (fun o o' => HW4.out.below blw)
      have HY : Hid (∀ o o', TyS ((w4.alloc o).alloc o') (fun k => w.heap.size + 2 ≤ k ∧ (Value.slice A2 n2 cap2).ownBlock ≠ some k) y (.int .i64 k) (.int .i64 z) (.slice A n cap) (.int .i64 ta)) := Lib.hid (fun o o' => ((HTY.out (by first | rfl | trivial)).weak (fun k _ hk => ⟨by have hk : W3.heap.size ≤ k := hk; omega, fun e => by have := (HW3.out.acc.ge k e).2; have hk : W3.heap.size ≤ k := hk; omega⟩)).below blw)
      have hl6 : acc.length ≤ 1000000 := by omega
      clear hct
      go_wp2_with (at_builtin; refine wpList_append_type (by rfl) (.tmp 34) (.tmp 36) (by rfl) (w.heap.size + 2) acc (by rfl) (HW5.out _ _).acc y (HY.out _ _) _ (by rfl) (by simp) (by simp) (by simp) (by simp) hl6 (by simp only [World.size_alloc]; omega) ?_)
      intro g' n' cap' w6 hn' hacc6 hgr hlo6
      have hbx6 := Blk.grown (HW5.out _ _).bx hgr (fun e => by have := ((HW5.out (.cells #[] 0) (.cells #[] 0)).acc.ge _ e).1; omega)
      clear r0 r1 r2 r3 rf0 rf1 rf2 rf3 b0 b1 b2 b3 bf0 bf1 bf2 bf3
      obtain ⟨b0, b1, b2, b3, bf0, bf1, bf2, bf3⟩ := blk4 hbx6
      obtain ⟨W7, hW7⟩ : ∃ W7, w6.setCell ⟨w.heap.size + 1, 2, none⟩ (.slice (some ⟨g', 0, none⟩) n' cap') = W7 := ⟨_, rfl⟩
      have HW7 : Hid (FsW w g s q4 L4 (acc ++ [y]) (tl) (.slice (some ⟨g', 0, none⟩) n' cap') W7) := Lib.hid (by rw [← hW7]; exact (HW5.out _ _).more hgr hacc6)
      have HWf := Lib.hid hW7
      clear hW7 hbx6 hgr hacc6
      go_wp2_with fail
      rw [HWf.out]
      clear b0 b1 b2 b3 bf0 bf1 bf2 bf3
      by_cases h125 : ∃ hq : q4 < s.size, s[q4].toNat = 125
      ·obtain ⟨hqs4, h125⟩ := h125
       refine (passes_yes g s q4 L4 125 _ HW7.out.rd hqs4 hs h125).mono ?_
       rintro e w8 ⟨rfl, hr8, ho8⟩
       have HW8 := Lib.hid (HW7.out.turn ho8 hr8)
       clear hr8 ho8
       obtain ⟨r0, r1, r2, r3, rf0, rf1, rf2, rf3⟩ := blk4 HW8.out.res
       obtain ⟨b0, b1, b2, b3, bf0, bf1, bf2, bf3⟩ := blk4 HW8.out.bx
       go_wp2
       obtain ⟨e1, e2, y0, y1, y2, y3⟩ := HW8.out.ends (.int .i64 5) (.int .i64 0) (.slice (some ⟨g', 0, none⟩) n' cap') (.int .i64 ((tl : Nat) : Int))
       refine bodyPost_ret (v := .tuple #[.agg #[.int .i64 5, .int .i64 0, (.slice (some ⟨g', 0, none⟩) n' cap'), .int .i64 ((tl : Nat) : Int)], .bool true]) (by simp [results, Tryz.results95, go_sem, y0, y1, y2, y3]) rfl ?_
       exact ⟨.mk 5 0 (acc ++ [y]) ((tl : Nat) : Int), true, q4 + 1, L4, _, _, _, _, _, _, rfl, e1, e2, by omega, fs_yes (HLP.out.ends hqs4 h125) HL4.out (by omega), fun _ => HW8.out.ty (by simp; omega) (by omega) _ _ _ _⟩
      ·refine (passes_no g s q4 L4 125 _ HW7.out.rd hq4 hs (fun h1 h2 => h125 ⟨h1, h2⟩)).mono ?_
       rintro e w8 ⟨rfl, n8, hw8⟩
       have HW8 : Hid (FsW w g s q4 L4 (acc ++ [y]) (tl) (.slice (some ⟨g', 0, none⟩) n' cap') w8) := Lib.hid (by rw [hw8]; exact HW7.out.below blw)
       clear hw8
       go_wp2_with fail
       by_cases h44 : ∃ hq : q4 < s.size, s[q4].toNat = 44
       ·obtain ⟨hqs4, h44⟩ := h44
        refine (passes_yes g s q4 L4 44 _ HW8.out.rd hqs4 hs h44).mono ?_
        rintro e w9 ⟨rfl, hr9, ho9⟩
        have HW9 := Lib.hid (HW8.out.turn ho9 hr9)
        have c9 := HW9.out.rd.cells.2.1
        clear hr9 ho9
        go_wp2
        go_roundw
        case rel => exact ⟨q4 + 1, L4, acc ++ [y], tl, _, by omega, Lib.hid (HLP.out.more hqs4 h44 (by simp)), HL4, by omega, by simp; omega, by omega, HW9⟩
        case measure =>
         rw [c1, c9]
         simp only [atOf]
         omega
       ·refine (passes_no g s q4 L4 44 _ HW8.out.rd hq4 hs (fun h1 h2 => h44 ⟨h1, h2⟩)).mono ?_
        rintro e w9 ⟨rfl, n9, hw9⟩
        have HW9 : Hid (FsW w g s q4 L4 (acc ++ [y]) (tl) (.slice (some ⟨g', 0, none⟩) n' cap') w9) := Lib.hid (by rw [hw9]; exact HW8.out.below blw)
        clear hw9
        obtain ⟨r0, r1, r2, r3, rf0, rf1, rf2, rf3⟩ := blk4 HW9.out.res
        obtain ⟨b0, b1, b2, b3, bf0, bf1, bf2, bf3⟩ := blk4 HW9.out.bx
        go_wp2
        obtain ⟨e1, e2, y0, y1, y2, y3⟩ := HW9.out.ends (.int .i64 0) (.int .i64 0) (.slice none 0 0) (.int .i64 0)
        refine bodyPost_ret (v := .tuple #[.agg #[.int .i64 0, .int .i64 0, .slice none 0 0, .int .i64 0], .bool false]) (by simp [results, Tryz.results95, go_sem, y0, y1, y2, y3]) rfl ?_
        exact ⟨.mk 0 0 [] 0, false, q4, L4, _, _, _, _, _, _, rfl, e1, e2, by omega, fs_none _ (tloop_bad HLP.out (by simp) (fun h1 h2 => h125 ⟨h1, h2⟩) (fun h1 h2 => h44 ⟨h1, h2⟩)) hq4, (by intro h; cases h)⟩
theorem scRead_f (f d : Nat) (hd : d ≤ 8) (IH : Hid (∀ (g : Nat) (s : ByteArray) (p L : Nat) (w : World), Scr w g s p L → p ≤ s.size → s.size ≤ 100000 → L ≤ 64 →
 Calls Tryz.prog 59 #[.pointer (some ⟨g, 0, none⟩), .int .i64 ((d : Int) + 1)] w fun e w' => ScEnd w g s f L p e w')) (g : Nat) (s : ByteArray) (p L : Nat) (w : World) (h : Scr w g s p L) (hp : p < s.size) (hs : s.size ≤ 100000) (hL : 0 < L) (hL2 : L ≤ 64) (hc : s[p].toNat = 123) :
 Calls Tryz.prog 59 #[.pointer (some ⟨g, 0, none⟩), .int .i64 d] w fun e w' => ScEnd w g s (f + 1) L p e w' := by
 have e1 : ((s[p].toNat : Int) == 117) = false := beq_eq_false_iff_ne.2 (by omega)
 have e2 : ((s[p].toNat : Int) == 98) = false := beq_eq_false_iff_ne.2 (by omega)
 have e3 : ((s[p].toNat : Int) == 115) = false := beq_eq_false_iff_ne.2 (by omega)
 have e4 : ((s[p].toNat : Int) == 91) = false := beq_eq_false_iff_ne.2 (by omega)
 have e5 : ((s[p].toNat : Int) == 123) = true := beq_iff_eq.2 (by omega)
 have HTL := Lib.hid (fs_start (f := f) hp hc)
 have HW0 := Lib.hid (ScW.start h)
 generalize hW : ((w.alloc (.cells #[.pointer (some ⟨g, 0, none⟩)] 105)).alloc (.cells #[.int .i64 0, .int .i64 0, .slice none 0 0, .int .i64 0] 55)) = W at *
 obtain ⟨g0, g1, g2, f0, f1, f2, hgl⟩ := HW0.out.rd.cells
 have b0 : W.cell? ⟨w.heap.size, 0, none⟩ = some (.pointer (some ⟨g, 0, none⟩)) := HW0.out.box.cell 0
 have hgw := HW0.out.glt
 have d1 : decide ((8 : Int) < (d : Int)) = false := decide_eq_false (by omega)
 have dL : ((L : Int) == 0) = false := beq_eq_false_iff_ne.2 (by omega)
 have dp : ((p : Int) == (s.size : Int)) = false := beq_eq_false_iff_ne.2 (by omega)
 have ew : IntKind.i64.wrap ((L : Int) - 1) = (L : Int) - 1 := IntWalk.i64_in _ (by omega)
 have hb256 := s[p].toNat_lt
 clear h
 go_enter Tryz.func59, Tryz.ntmps59
 go_wp2_with fail
 go_quiet (fail)
 obtain ⟨nqa, rfl⟩ : ∃ nqa, nqa = nq := ⟨nq, rfl⟩
 go_wp2_with fail
 go_quiet (fail)
 have HWQ := Lib.hid (HW0.out.step ((L : Int) - 1) ((p : Int) + 1) nqa nq (L' := L - 1) (p' := p + 1) (by omega) (by omega))
 have HF := Lib.hid (scFields_c f d hd IH g s (p + 1) (L - 1) _ _ HWQ.out.rd HTL (by omega) hs (by omega))
 clear IH HTL
 go_wp2_with fail
 refine HF.out.mono ?_
 rintro e w1 ⟨t, ok, q, L1, k, z, ta, A, n, cap, rfl, hr, ho, hle, hn, hty⟩
 have HW1 := Lib.hid (HWQ.out.turn ho hr)
 have HN := Lib.hid hn
 have HTY : Hid (ok = true → TyS w1 (w.heap.size + 2 ≤ ·) t (.int .i64 k) (.int .i64 z) (.slice A n cap) (.int .i64 ta)) := Lib.hid (fun h => (hty h).weak (fun k _ hk => by simp [World.setCell] at hk; have := HW0.out.siz; omega))
 clear hr ho hn hty HF
 obtain ⟨n0, n1, n2, n3, m0, m1, m2, m3⟩ := blk4 HW1.out.res
 go_wp2
 obtain ⟨e1', e2', y0, y1, y2, y3⟩ := HW1.out.ends (.int .i64 k) (.int .i64 z) (.slice A n cap) (.int .i64 ta)
 refine bodyPost_ret (v := .tuple #[.agg #[.int .i64 k, .int .i64 z, .slice A n cap, .int .i64 ta], .bool ok]) (by simp [results, Tryz.results59, go_sem, y0, y1, y2, y3]) rfl ?_
 refine ⟨t, ok, q, L1, _, _, _, _, _, _, rfl, e1', e2', by omega, ?_, fun hok => (HTY.out hok).only (L := [w.heap.size + 1]) (((((Only.refl _ w1).setCell (by simp) _).setCell (by simp) _).setCell (by simp) _).setCell (by simp) _) (by simp) (fun k _ hk => by have hk : w.heap.size + 2 ≤ k := hk; show w.heap.size ≤ k; omega)⟩
 have := fs_is HN.out
 rwa [show 1 + (L - 1) = L from by omega] at this
theorem tyCount_pos (t : Ty) : 0 < t.count := by
 cases t with
 | mk k s l ta => simp only [Ty.count]; omega
theorem scStop_d (f d : Nat) (hd : d = 9) (hf : f = 0) (g : Nat) (s : ByteArray) (p L : Nat) (w : World) (h : Scr w g s p L) (hp : p ≤ s.size) (hs : s.size ≤ 100000) (hL2 : L ≤ 64) (hL0 : True) :
 Calls Tryz.prog 59 #[.pointer (some ⟨g, 0, none⟩), .int .i64 d] w fun e w' => ScEnd w g s f L p e w' := by
 have d1 : decide ((8 : Int) < (d : Int)) = true := decide_eq_true (by omega)
 have HW0 := Lib.hid (ScW.start h)
 generalize hW : ((w.alloc (.cells #[.pointer (some ⟨g, 0, none⟩)] 105)).alloc (.cells #[.int .i64 0, .int .i64 0, .slice none 0 0, .int .i64 0] 55)) = W at *
 obtain ⟨g0, g1, g2, f0, f1, f2, hgl⟩ := HW0.out.rd.cells
 have b0 : W.cell? ⟨w.heap.size, 0, none⟩ = some (.pointer (some ⟨g, 0, none⟩)) := HW0.out.box.cell 0
 clear h
 go_enter Tryz.func59, Tryz.ntmps59
 go_wp2_with fail
 go_quiet (fail)
 obtain ⟨nqa, rfl⟩ : ∃ nqa, nqa = nq := ⟨nq, rfl⟩
 have HW1 : Hid (ScW w g s p L (W.drewN nqa)) := Lib.hid (HW0.out.below blw)
 obtain ⟨n0, n1, n2, n3, m0, m1, m2, m3⟩ := blk4 HW0.out.res
 go_wp2
 obtain ⟨e1', e2', y0, y1, y2, y3⟩ := HW1.out.ends (.int .i64 0) (.int .i64 0) (.slice none 0 0) (.int .i64 0)
 refine bodyPost_ret (v := .tuple #[.agg #[.int .i64 0, .int .i64 0, .slice none 0 0, .int .i64 0], .bool false]) (by simp [results, Tryz.results59, go_sem, y0, y1, y2, y3]) rfl ?_
 exact ⟨.mk 0 0 [] 0, false, p, L, _, _, _, _, _, _, rfl, e1', e2', Nat.le_refl _, ⟨(by intro h; cases h), (by intro _ t' r htr; subst hf; cases htr), hp⟩, (by intro h; cases h)⟩
theorem scStop_l (f d : Nat) (hd : d ≤ 8) (g : Nat) (s : ByteArray) (p L : Nat) (w : World) (h : Scr w g s p L) (hp : p ≤ s.size) (hs : s.size ≤ 100000) (hL2 : L ≤ 64) (hL0 : L = 0) :
 Calls Tryz.prog 59 #[.pointer (some ⟨g, 0, none⟩), .int .i64 d] w fun e w' => ScEnd w g s f L p e w' := by
 have d1 : decide ((8 : Int) < (d : Int)) = false := decide_eq_false (by omega); have dL : ((L : Int) == 0) = true := beq_iff_eq.2 (by omega)
 have HW0 := Lib.hid (ScW.start h)
 generalize hW : ((w.alloc (.cells #[.pointer (some ⟨g, 0, none⟩)] 105)).alloc (.cells #[.int .i64 0, .int .i64 0, .slice none 0 0, .int .i64 0] 55)) = W at *
 obtain ⟨g0, g1, g2, f0, f1, f2, hgl⟩ := HW0.out.rd.cells
 have b0 : W.cell? ⟨w.heap.size, 0, none⟩ = some (.pointer (some ⟨g, 0, none⟩)) := HW0.out.box.cell 0
 clear h
 go_enter Tryz.func59, Tryz.ntmps59
 go_wp2_with fail
 go_quiet (fail)
 obtain ⟨nqa, rfl⟩ : ∃ nqa, nqa = nq := ⟨nq, rfl⟩
 have HW1 : Hid (ScW w g s p L (W.drewN nqa)) := Lib.hid (HW0.out.below blw)
 obtain ⟨n0, n1, n2, n3, m0, m1, m2, m3⟩ := blk4 HW0.out.res
 go_wp2
 obtain ⟨e1', e2', y0, y1, y2, y3⟩ := HW1.out.ends (.int .i64 0) (.int .i64 0) (.slice none 0 0) (.int .i64 0)
 refine bodyPost_ret (v := .tuple #[.agg #[.int .i64 0, .int .i64 0, .slice none 0 0, .int .i64 0], .bool false]) (by simp [results, Tryz.results59, go_sem, y0, y1, y2, y3]) rfl ?_
 exact ⟨.mk 0 0 [] 0, false, p, L, _, _, _, _, _, _, rfl, e1', e2', Nat.le_refl _, ⟨(by intro h; cases h), (by intro _ t' r htr; right; have := tyCount_pos t'; omega), hp⟩, (by intro h; cases h)⟩
theorem scStop_p (f d : Nat) (hd : d ≤ 8) (g : Nat) (s : ByteArray) (p L : Nat) (w : World) (h : Scr w g s p L) (hp : p ≤ s.size) (hs : s.size ≤ 100000) (hL2 : L ≤ 64) (hL0 : 0 < L) (hpe : s.size ≤ p) :
 Calls Tryz.prog 59 #[.pointer (some ⟨g, 0, none⟩), .int .i64 d] w fun e w' => ScEnd w g s f L p e w' := by
 have d1 : decide ((8 : Int) < (d : Int)) = false := decide_eq_false (by omega); have dL : ((L : Int) == 0) = false := beq_eq_false_iff_ne.2 (by omega); have dp : ((p : Int) == (s.size : Int)) = true := beq_iff_eq.2 (by omega)
 have HW0 := Lib.hid (ScW.start h)
 generalize hW : ((w.alloc (.cells #[.pointer (some ⟨g, 0, none⟩)] 105)).alloc (.cells #[.int .i64 0, .int .i64 0, .slice none 0 0, .int .i64 0] 55)) = W at *
 obtain ⟨g0, g1, g2, f0, f1, f2, hgl⟩ := HW0.out.rd.cells
 have b0 : W.cell? ⟨w.heap.size, 0, none⟩ = some (.pointer (some ⟨g, 0, none⟩)) := HW0.out.box.cell 0
 clear h
 go_enter Tryz.func59, Tryz.ntmps59
 go_wp2_with fail
 go_quiet (fail)
 obtain ⟨nqa, rfl⟩ : ∃ nqa, nqa = nq := ⟨nq, rfl⟩
 have HW1 : Hid (ScW w g s p L (W.drewN nqa)) := Lib.hid (HW0.out.below blw)
 obtain ⟨n0, n1, n2, n3, m0, m1, m2, m3⟩ := blk4 HW0.out.res
 go_wp2
 obtain ⟨e1', e2', y0, y1, y2, y3⟩ := HW1.out.ends (.int .i64 0) (.int .i64 0) (.slice none 0 0) (.int .i64 0)
 refine bodyPost_ret (v := .tuple #[.agg #[.int .i64 0, .int .i64 0, .slice none 0 0, .int .i64 0], .bool false]) (by simp [results, Tryz.results59, go_sem, y0, y1, y2, y3]) rfl ?_
 exact ⟨.mk 0 0 [] 0, false, p, L, _, _, _, _, _, _, rfl, e1', e2', Nat.le_refl _, ⟨(by intro h; cases h), (by intro _ t' r htr; rw [tItem_end f hpe] at htr; cases htr), hp⟩, (by intro h; cases h)⟩
theorem scRead_c : ∀ (f d : Nat), f + d = 9 → ∀ (g : Nat) (s : ByteArray) (p L : Nat) (w : World), Scr w g s p L → p ≤ s.size → s.size ≤ 100000 → L ≤ 64 →
 Calls Tryz.prog 59 #[.pointer (some ⟨g, 0, none⟩), .int .i64 d] w fun e w' => ScEnd w g s f L p e w'
 | 0, d, hfd, g, s, p, L, w, h, hp, hs, hL => scStop_d 0 d (by omega) rfl g s p L w h hp hs hL trivial
 | f + 1, d, hfd, g, s, p, L, w, h, hp, hs, hL => by
  have IH : Hid (∀ (g : Nat) (s : ByteArray) (p L : Nat) (w : World), Scr w g s p L → p ≤ s.size → s.size ≤ 100000 → L ≤ 64 →
   Calls Tryz.prog 59 #[.pointer (some ⟨g, 0, none⟩), .int .i64 ((d : Int) + 1)] w fun e w' => ScEnd w g s f L p e w') := Lib.hid (fun g s p L w h hp hs hL => by
   have := scRead_c f (d + 1) (by omega) g s p L w h hp hs hL
   rwa [show (((d + 1 : Nat)) : Int) = (d : Int) + 1 from by omega] at this)
  have hd : d ≤ 8 := by omega
  by_cases hL0 : L = 0
  ·exact scStop_l (f + 1) d hd g s p L w h hp hs hL hL0
  by_cases hpe : s.size ≤ p
  ·exact scStop_p (f + 1) d hd g s p L w h hp hs hL (by omega) hpe
  have hlt : p < s.size := by omega
  have hL1 : 0 < L := by omega
  by_cases h1 : s[p].toNat = 117
  ·exact scRead_u f d hd g s p L w h hlt hs hL1 hL h1
  by_cases h2 : s[p].toNat = 98
  ·exact scRead_b f d hd g s p L w h hlt hs hL1 hL h2
  by_cases h3 : s[p].toNat = 115
  ·exact scRead_s f d hd g s p L w h hlt hs hL1 hL h3
  by_cases h4 : s[p].toNat = 91
  ·exact scRead_l f d hd IH g s p L w h hlt hs hL1 hL h4
  by_cases h5 : s[p].toNat = 123
  ·exact scRead_f f d hd IH g s p L w h hlt hs hL1 hL h5
  ·exact scRead_no f d hd g s p L w h hlt hs hL1 hL h1 h2 h3 h4 h5
end Go.Proofs.YtnfpgadegpmhkaaGreatDoor
