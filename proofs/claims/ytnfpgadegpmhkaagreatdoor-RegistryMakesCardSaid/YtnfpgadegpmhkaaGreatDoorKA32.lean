/- rlp.Put. -/
import Derived.Test.YtnfpgadegpmhkaaGreatDoorKA31
import Derived.Test.YtnfpgadegpmhkaaGreatDoorKA22
import Derived.Deep.LoopGhost
import Derived.Deep.RegionLaw
import Derived.Deep.DeepCutAuto
set_option linter.unusedVariables false
set_option linter.unusedSimpArgs false
set_option maxRecDepth 100000
set_option maxHeartbeats 4000000
namespace Go.Proofs.YtnfpgadegpmhkaaGreatDoor
open Go.RowKit
def layN : List (List It × List UInt8) → Nat
 | [] => 0
 | f :: fs => 1 + 2 * countL f.1 + layN fs
theorem closeL_cons (xs : List It) (b : List UInt8) (f : List It × List UInt8) (rest : List (List It × List UInt8)) : closeL xs b (f :: rest) = closeL f.1 (f.2 ++ listB (b ++ rlpL xs)) rest := by simp [closeL]
theorem closeL_len : ∀ (rest : List (List It × List UInt8)) (xs : List It) (b : List UInt8), b.length + (rlpL xs).length ≤ (closeL xs b rest).length
 | [], xs, b => by simp [closeL]
 | f :: rest, xs, b => by
  rw [closeL_cons]
  have := closeL_len rest f.1 (f.2 ++ listB (b ++ rlpL xs))
  simp only [List.length_append, listB] at this ⊢
  omega
theorem closeL_depth : ∀ (rest : List (List It × List UInt8)) (xs : List It) (b : List UInt8), rest.length ≤ (closeL xs b rest).length
 | [], _, _ => by simp
 | f :: rest, xs, b => by
  have h : ∀ (r : List (List It × List UInt8)) (ys : List It) (c : List UInt8), c.length + r.length ≤ (closeL ys c r).length := by
   intro r
   induction r with
   | nil => intro ys c; have := closeL_len [] ys c; simp at this ⊢; omega
   | cons g r ih =>
    intro ys c
    rw [closeL_cons]
    have h1 := ih g.1 (g.2 ++ listB (c ++ rlpL ys))
    have h2 := rHead_length 192 (c ++ rlpL ys).length
    have h3 : 1 ≤ (rHead 192 (c ++ rlpL ys).length).length := by rw [h2]; split <;> omega
    simp only [List.length_append, listB, List.length_cons] at h1 h2 h3 ⊢
    omega
  have := h (f :: rest) xs b
  omega
theorem rlp_text_some (t : ByteArray) (s : List It) (h : t.size = 1 ∧ (t.data.toList.getD 0 0).toNat < 128) : (It.mk t false s).rlp = t.data.toList := by rw [It.rlp, if_neg (by simp), if_pos h]
theorem rlp_text_head (t : ByteArray) (s : List It) (h : ¬ (t.size = 1 ∧ (t.data.toList.getD 0 0).toNat < 128)) : (It.mk t false s).rlp = rHead 128 t.size ++ t.data.toList := by
 rw [It.rlp, if_neg (by simp), if_neg h]
theorem Lay.first {w : World} {g : Nat} {x0 : Value} (h : w.heap[g]? = some (.cells #[x0, .slice none 0 0] 155)) {S : Nat} (hS : S ≤ g) {xs : List It} {A : Option Addr} {c : Nat} (e : x0 = .slice A xs.length c) (hc : xs.length ≤ c) (hc2 : c ≤ 9223372036854775807) (hI : ItsIn w S xs A 0) :
 Lay w S g 1 [(xs, [])] [(x0, .slice none 0 0)] :=
 ⟨⟨rfl, .inr ⟨g, 1, _, rfl, hS, h, by simp, by simp [maxLen], rfl, rfl⟩⟩, ⟨⟨⟨A, c, e, hc, hc2, hI⟩, Buf.nil _ _ _⟩, (fun u hu => by cases hu), trivial⟩⟩
theorem rlpPut_c (x : It) (B : Nat) (w : World) (c0 c1 c2 : Value) (h : ItIn w B x c0 c1 c2) (hB : B ≤ w.heap.size) (hm : x.may = true) (hl : x.rlp.length ≤ 1099511627776) :
 Calls Tryz.prog 71 #[.agg #[c0, c1, c2]] w fun e w' => e = .returned (.tuple #[.string ⟨x.rlp.toArray⟩, .int .i64 0]) ∧ Below w.heap.size w w' := by
 have HC := Lib.hid (may_c x B (w.alloc (.cells #[c0, c1, c2] 28)) c0 c1 c2 (h.below blw) (by simp; omega))
 rw [hm] at HC
 have HI := Lib.hid h
 obtain ⟨A, cap, rfl, rfl, rfl, _⟩ := h.open_
 obtain ⟨i0, hi, hz0, hz1, hz2⟩ := info_parts info_byteL
 obtain ⟨i1, hi1, hzz0, hzz1, hzz2⟩ := info_parts info_lay
 clear h hm
 go_enter Tryz.func71, Tryz.ntmps71
 go_wp2_with fail
 refine HC.out.mono ?_
 rintro e w1 ⟨rfl, hb⟩
 have hz := hb.size
 simp only [World.size_alloc] at hz
 have HB1 : Hid (Below w.heap.size w w1) := Lib.hid (((Below.refl w.heap.size w).alloc (Nat.le_refl _) _).trans (hb.mono (by simp)))
 obtain ⟨g0, g1, g2, _⟩ := blk3 ((Blk.new w 28 #[.string x.text, .bool x.list, .slice A x.sub.length cap]).keep hb (by simp))
 clear hb HC
 go_wp2_with fail
 obtain ⟨W0, hW0⟩ : ∃ W0, (w1.alloc (.cells #[.string x.text, .bool x.list, .slice A x.sub.length cap] 28)).alloc (.cells #[.slice (some ⟨w1.heap.size, 0, none⟩) 1 1, .slice none 0 0] 155) = W0 := ⟨_, rfl⟩
 have HW0 : Hid (Below w.heap.size w W0) := Lib.hid (by rw [← hW0]; exact (HB1.out.alloc (by omega) _).alloc (by simp; omega) _)
 have HBLK := Blk.new w1 28 #[.string x.text, .bool x.list, .slice A x.sub.length cap]
 have HBLK2 := HBLK.alloc (.cells #[.slice (some ⟨w1.heap.size, 0, none⟩) 1 1, .slice none 0 0] 155)
 rw [hW0] at HBLK2
 obtain ⟨q0, q1, q2, _⟩ := blk3 HBLK2
 have HL0 : Hid (Lay W0 (w1.heap.size + 1) (w1.heap.size + 1) 1 [([x], [])] [(.slice (some ⟨w1.heap.size, 0, none⟩) 1 1, .slice none 0 0)]) := Lib.hid (by
  refine Lay.first (by rw [← hW0]; have := heap_alloc_new (w1.alloc (.cells #[.string x.text, .bool x.list, .slice A x.sub.length cap] 28)) (.cells #[.slice (some ⟨w1.heap.size, 0, none⟩) 1 1, .slice none 0 0] 155); simpa using this) (Nat.le_refl _) (xs := [x]) rfl (by simp) (by omega) ?_
  exact ⟨⟨w1.heap.size, 0, _, _, _, rfl, by omega, by simpa using q0, by simpa using q1, by simpa using q2, (HI.out.below (HW0.out.mono hB)).mono (by omega)⟩, trivial⟩)
 have HS0 : Hid (w1.heap.size + 1 ≤ W0.heap.size) := Lib.hid (by rw [← hW0]; simp)
 rw [hW0]
 have HT := Lib.hid hl
 clear hW0 HBLK HBLK2 q0 q1 q2 g0 g1 g2 HI hl
 obtain ⟨S, hS⟩ : ∃ S, w1.heap.size + 1 = S := ⟨_, rfl⟩
 have HSW : Hid (w.heap.size ≤ S) := Lib.hid (by omega)
 rw [hS] at HL0 HS0 ⊢
 obtain ⟨X, hXX⟩ : ∃ X, x.rlp = X := ⟨_, rfl⟩
 rw [hXX] at HT
 have HXX := Lib.hid hXX
 clear hXX
 go_loopg [5] (layN [([x], [])]) (fun k v wr => ∃ (g cp : Nat) (xs : List It) (b : List UInt8) (fs : List (List It × List UInt8)) (v0 v1 : Value) (vs : List (Value × Value)), v = .slice (some ⟨g, 0, none⟩) (fs.length + 1) cp ∧ Hid (Lay wr S g cp ((xs, b) :: fs) ((v0, v1) :: vs)) ∧ Hid (closeL xs b fs = X) ∧ Hid (layN ((xs, b) :: fs) ≤ k) ∧ Hid (Below S W0 wr))
 case atStart => exact ⟨S, 1, [x], [], [], _, _, [], rfl, HL0, Lib.hid (by rw [← HXX.out]; simp [closeL, rlpL]), Lib.hid (Nat.le_refl _), Lib.hid (Below.refl _ _)⟩
 case round =>
  obtain ⟨g, cp, xs, b, fs, v0, v1, vs, rfl, HL, HX, HN, HBW⟩ := hrel
  have hwz := HBW.out.size
  have hSw : S ≤ wr.heap.size := Nat.le_trans HS0.out hwz
  obtain ⟨t0, t1, tf0, tf1, tne⟩ := HL.out.top
  have hgb := HL.out.block
  obtain ⟨hgS, hgw, hcp, hcpm, _⟩ := hgb
  obtain ⟨⟨A1, k1, rfl, hk1, hk1m, hits⟩, hbuf⟩ := HL.out.lays.1
  have HBF := Lib.hid hbuf
  have HIT := Lib.hid hits
  obtain ⟨A2, n2, cp2, rfl, hn2, hc2, hc2m⟩ := hbuf.form'
  clear hbuf hits
  dsimp only at t0 t1 tne HBF hn2 HIT hk1
  simp only [List.length_cons] at hcp
  obtain ⟨r, hr⟩ : ∃ r, fs.length = r := ⟨_, rfl⟩
  rw [hr] at t0 t1 tf0 tf1 hcp ⊢
  have HRR := Lib.hid hr
  clear hr
  have hk0 : k1 < 9223372036854775808 := by omega
  cases xs with
  | nil =>
   simp only [List.length_nil] at t0
   cases fs with
   | nil =>
    obtain rfl : r = 0 := HRR.out.symm
    have hst := HBF.out.str' (P := Tryz.prog) Tryz.underlying117 Tryz.underlying5 Tryz.underlying9
    have t0' : wr.cell? ⟨g, 0, none⟩ = some (.slice A1 0 k1) := t0
    have t1' : wr.cell? ⟨g, 1, none⟩ = some (.slice A2 n2 cp2) := t1
    go_wp2
    go_ret2
    refine ⟨?_, HW0.out.trans (HBW.out.mono HSW.out)⟩
    have := HX.out
    rw [HXX.out, ← this]
    simp [closeL, rlpL]
   | cons f rest =>
    obtain ⟨r, rfl⟩ : ∃ r', r = r' + 1 := ⟨r - 1, by have := HRR.out; simp at this; omega⟩
    have HR1 : Hid (rest.length = r) := Lib.hid (by have := HRR.out; simp at this; omega)
    obtain ⟨⟨u0, u1⟩, us, rfl⟩ : ∃ u us, vs = u :: us := by
     cases vs with
     | nil => exact absurd HL.out.lays.length (by simp)
     | cons u us => exact ⟨u, us, rfl⟩
    obtain ⟨zs, c⟩ := f
    have HP := Lib.hid HL.out.pop
    obtain ⟨t2, t3, tf2, tf3, tne3⟩ := HP.out.top
    have HBC := Lib.hid HP.out.lays.1.2
    have hDN : ∀ i, Value.ownBlock (.slice A2 n2 cp2) = some i → u1.ownBlock ≠ some i := HL.out.lays.2.1 (u0, u1) (by simp)
    rw [HR1.out] at t2 t3 tf2 tf3
    dsimp only at t2 t3 HBC
    obtain ⟨A3, n3, cp3, rfl, hn3, hc3, hc3m⟩ := HBC.out.form'
    have hX1 := closeL_len rest zs (c ++ listB b)
    rw [← closeL_pop, HX.out] at hX1
    simp only [List.length_append, listB] at hX1
    have hX2 := HT.out
    have hb2 : b.length = n2 := hn2.out.symm
    have HH := Lib.hid (head_c 192 n2 S _ c wr HBC.out hSw (by omega) (by omega) (by omega))
    have HDN := Lib.hid hDN
    have HT3 := Lib.hid tne3
    clear tne tne3 hDN hb2 hX1 hX2
    go_wp2_with fail
    refine HH.out.mono ?_
    rintro e w2 ⟨v', rfl, hbh, hg2⟩
    obtain ⟨A4, n4, cp4, rfl, hn4, hc4, hc4m⟩ := hbh.form'
    have HBH := Lib.hid hbh
    have HG2 := Lib.hid hg2
    have HIN : Hid (Buf w2 S 5 (.slice A2 n2 cp2) b) := Lib.hid (HBF.out.keep fun k hk ho => hg2.block hk (HDN.out k ho))
    have hw2 := hg2.size
    have hl3 : (c ++ rHead 192 n2).length + b.length ≤ 1099511627776 := by
     have hX1 := closeL_len rest zs (c ++ listB b)
     rw [← closeL_pop, HX.out] at hX1
     have hX2 := HT.out
     simp only [List.length_append, listB] at hX1 ⊢
     rw [hn2.out]; omega
    have HL3 := Lib.hid hl3
    clear hbh hg2 hl3
    go_wp2_with (at_builtin; refine wpList_append_bufO (by rfl) (.tmp 57) (.tmp 58) 117 117 (by rfl) S 5 i0 Tryz.underlying117 hi hz0 hz1 hz2 (by rfl) HBH.out _ b (by rfl) (src_buf Tryz.underlying117 HIN.out) (by omega) (Nat.le_trans HL3.out (by omega)) ?_)
    intro A5 n5 cp5 w3 hb5 hg5
    have HB5 := Lib.hid hb5
    have hg35 := HG2.out.trans hg5
    have hg2g : g < wr.heap.size := hgw
    have hne3 : Value.ownBlock (.slice A3 n3 cp3) ≠ some g := by
     rcases HT3.out g with h | h
     ·exact h
     ·exact absurd rfl h
    have e3 : w3.cell? ⟨g, r * 2 + 1, none⟩ = some (.slice A3 n3 cp3) := (hg35.grown.cell_far ⟨g, r * 2 + 1, none⟩ hgw (Ne.symm hne3)).trans t3
    have e4 : w3.frozen? ⟨g, r * 2 + 1, none⟩ = false := (hg35.grown.frozen_far ⟨g, r * 2 + 1, none⟩ hgw (Ne.symm hne3)).trans tf3
    have HLN : Hid (Lay (w3.setCell ⟨g, r * 2 + 1, none⟩ (.slice A5 n5 cp5)) S g cp ((zs, c ++ (rHead 192 n2 ++ b)) :: rest) ((u0, .slice A5 n5 cp5) :: us)) := Lib.hid (by have := HP.out.bytes hSw hg35 hb5; rwa [HR1.out] at this)
    have HBN : Hid (Below S W0 (w3.setCell ⟨g, r * 2 + 1, none⟩ (.slice A5 n5 cp5))) := Lib.hid ((hg35.below HBW.out hSw (fun i hi => (HBC.out.ge i hi).1)).setCell (by simpa using hgS) _)
    clear hb5 hg5 hg35 hne3
    go_wp2
    go_roundg (gk - 1)
    case measure => have := HN.out; simp [layN] at this; omega
    case rel =>
     refine ⟨g, cp, zs, c ++ (rHead 192 n2 ++ b), rest, u0, .slice A5 n5 cp5, us, by rw [HR1.out], HLN, Lib.hid ?_, Lib.hid ?_, HBN⟩
     ·have := HX.out
      rw [closeL_pop, listB, ← hn2.out] at this
      exact this
     ·have := HN.out; simp [layN, countL] at this ⊢; omega
  | cons y ys =>
   obtain ⟨q, hq⟩ : ∃ q, ys.length = q := ⟨_, rfl⟩
   obtain ⟨⟨ab, ao, d0, d1, d2, rfl, hab, e0, e1, e2, hy⟩, hys⟩ := HIT.out
   have HYS := Lib.hid hys.tail
   obtain ⟨ty, ly, sy⟩ := y
   obtain ⟨rfl, rfl, hty, hsy, AA, ck, rfl, hck, hckm, hsub⟩ := hy
   have HSUB := Lib.hid hsub
   simp only [Nat.zero_mul, Nat.add_zero] at e0 e1 e2
   rw [List.length_cons, hq] at t0 hk1
   have HQ := Lib.hid hq
   have hq62 : q + 1 ≤ 9223372036854775807 := by omega
   have habw : ab < wr.heap.size := by omega
   have habg : ab ≠ g := by omega
   clear hys hsub hq
   have hfl : fs.length ≤ 1099511627776 := by
    have h1 := closeL_depth fs (It.mk ty ly sy :: ys) b
    rw [HX.out] at h1
    have h2 := HT.out
    omega
   rw [HRR.out] at hfl
   go_upto_region 14 with fail
   go_cut [] (fun wx => ∃ v0', Hid (Lay wx S g cp ((ys, b) :: fs) ((v0', .slice A2 n2 cp2) :: vs)) ∧ Hid (Below S W0 wx) ∧ Hid (Blk wx wr.heap.size 28 #[.string ty, .bool ly, .slice AA sy.length ck]) ∧ Hid (ItsIn wx S sy AA 0) ∧ Hid (wx.heap.size = wr.heap.size + 1))
   case first =>
    by_cases hk1' : k1 = 1
    ·subst hk1'
     obtain rfl : q = 0 := by omega
     have HLI : Hid (Lay (wr.setCell ⟨g, r * 2, none⟩ (.slice (some ⟨ab, ao, none⟩) 0 0)) S g cp ((ys, b) :: fs) ((.slice (some ⟨ab, ao, none⟩) 0 0, .slice A2 n2 cp2) :: vs)) := Lib.hid (by
      obtain rfl : ys = [] := List.eq_nil_of_length_eq_zero HQ.out
      have := HL.out.items hSw (xs' := []) (A := some ⟨ab, ao, none⟩) (c := 0) (by simp) (by simp) trivial
      rwa [HRR.out] at this)
     go_wp2_with fail
     go_meet
     case rel =>
      have hzw : (wr.setCell ⟨g, r * 2, none⟩ (.slice (some ⟨ab, ao, none⟩) 0 0)).heap.size = wr.heap.size := by simp [World.setCell]
      refine ⟨.slice (some ⟨ab, ao, none⟩) 0 0, Lib.hid (HLI.out.below (by omega) ((Below.refl _ _).alloc (Nat.le_refl _) _)), Lib.hid ((HBW.out.setCell (by simpa using hgS) _).alloc (by omega) _), Lib.hid ?_, Lib.hid ?_, Lib.hid (by simp [World.setCell])⟩
      ·have := Blk.new (wr.setCell ⟨g, r * 2, none⟩ (.slice (some ⟨ab, ao, none⟩) 0 0)) 28 #[.string ty, .bool ly, .slice AA sy.length ck]
       rwa [hzw] at this
      ·refine ItsIn.below (w := wr.setCell ⟨g, r * 2, none⟩ (.slice (some ⟨ab, ao, none⟩) 0 0)) (HSUB.out.keep fun p hp => World.cell?_of_block (setCell_block (by simp; omega))) (((Below.refl _ _).alloc (Nat.le_refl _) _).mono (by omega))
    ·have HLI : Hid (Lay (wr.setCell ⟨g, r * 2, none⟩ (.slice (some ⟨ab, ao + 3, none⟩) q (k1 - 1))) S g cp ((ys, b) :: fs) ((.slice (some ⟨ab, ao + 3, none⟩) q (k1 - 1), .slice A2 n2 cp2) :: vs)) := Lib.hid (by
      have := HL.out.items hSw (xs' := ys) (A := some ⟨ab, ao + 3, none⟩) (c := k1 - 1) (by rw [HQ.out]; omega) (by omega) HYS.out
      rwa [HRR.out, HQ.out] at this)
     go_wp2_with fail
     go_meet
     case rel =>
      have hzw : (wr.setCell ⟨g, r * 2, none⟩ (.slice (some ⟨ab, ao + 3, none⟩) q (k1 - 1))).heap.size = wr.heap.size := by simp [World.setCell]
      refine ⟨.slice (some ⟨ab, ao + 3, none⟩) q (k1 - 1), Lib.hid (HLI.out.below (by omega) ((Below.refl _ _).alloc (Nat.le_refl _) _)), Lib.hid ((HBW.out.setCell (by simpa using hgS) _).alloc (by omega) _), Lib.hid ?_, Lib.hid ?_, Lib.hid (by simp [World.setCell])⟩
      ·have := Blk.new (wr.setCell ⟨g, r * 2, none⟩ (.slice (some ⟨ab, ao + 3, none⟩) q (k1 - 1))) 28 #[.string ty, .bool ly, .slice AA sy.length ck]
       rwa [hzw] at this
      ·refine ItsIn.below (w := wr.setCell ⟨g, r * 2, none⟩ (.slice (some ⟨ab, ao + 3, none⟩) q (k1 - 1))) (HSUB.out.keep fun p hp => World.cell?_of_block (setCell_block (by simp; omega))) (((Below.refl _ _).alloc (Nat.le_refl _) _).mono (by omega))
   case rest =>
    obtain ⟨v0', HLI, HB2, HIB, HSU, HZ⟩ := hcut
    obtain ⟨i0', i1', i2', if0, if1, if2⟩ := blk3 HIB.out
    have hibw := HIB.out.lt
    have hgc : g < wc.heap.size := by have := HZ.out; omega
    have hSc : S ≤ wc.heap.size := by omega
    have hgne : g ≠ wr.heap.size := by omega
    clear hSw hgw hwz
    clear t0 t1 tf0 tf1 e0 e1 e2 HIT HYS HSUB HL HBF
    cases ly with
    | true =>
     have HLL : Hid (∀ o, Lay (wc.alloc o) S g cp ((ys, b) :: fs) ((v0', .slice A2 n2 cp2) :: vs)) := Lib.hid (fun o => HLI.out.below (by omega) ((Below.refl _ _).alloc (Nat.le_refl _) _))
     have HNL : Hid (r + 1 = ((ys, b) :: fs).length) := Lib.hid (by simp [HRR.out])
     have HS3 : Hid (∀ o, ItsIn (wc.alloc o) S sy AA 0) := Lib.hid (fun o => HSU.out.below (((Below.refl wc.heap.size wc).alloc (Nat.le_refl _) o).mono (by omega)))
     have HCX : Hid (Blk (wc.alloc (.cells #[.slice AA sy.length ck, .slice none 0 0] 155)) wc.heap.size 155 #[.slice AA sy.length ck, .slice none 0 0]) := Lib.hid (Blk.new wc _ _)
     have HB3 : Hid (∀ o, Below S W0 (wc.alloc o)) := Lib.hid (fun o => HB2.out.alloc (by omega) o)
     have HSZ : Hid (∀ o, S ≤ (wc.alloc o).heap.size) := Lib.hid (fun o => by simp; omega)
     go_wp2_with (at_builtin; refine Hid.out ?_)
     refine Lib.hid ?_
     refine wpList_append_lay (by rfl) (.tmp 78) (.tmp 82) (by rfl) (HLL.out _) (HSZ.out _) HNL.out (by rfl) hck hckm (HS3.out _) wc.heap.size (by rfl) (HCX.out.cell 0) (HCX.out.cell 1) (by rw [← HNL.out]; omega) ?_
     intro g' n' cap' w' HN' HL' HG'
     have HBN : Hid (Below S W0 w') := Lib.hid ((HB3.out _).grown HG'.out (HSZ.out _) (fun k hk => by injection hk with hk; omega))
     go_wp2
     go_roundg (gk - 1)
     case measure => have := HN.out; simp [layN] at this; omega
     case rel =>
      refine ⟨g', cap', sy, [], (ys, b) :: fs, .slice AA sy.length ck, .slice none 0 0, (v0', .slice A2 n2 cp2) :: vs, by rw [HN'.out], HL', Lib.hid ?_, Lib.hid ?_, HBN⟩
      ·have := HX.out
       rw [closeL_list] at this
       exact this
      ·have := HN.out; simp [layN, countL, It.count] at this ⊢; omega
    | false =>
     go_upto_region 17 with fail
     go_cut [93] (fun s wx => ∃ bb : Bool, s = .bool bb ∧ Hid (bb = false ↔ (ty.size = 1 ∧ (ty.data.toList.getD 0 0).toNat < 128)) ∧ wx = wc)
     case first =>
      by_cases hs1 : ty.size = 1
      ·have hs2 : ((ty.size : Int) != 1) = false := by simp [hs1]
       have hs3 : ((ty.size : Int) == 1) = true := by simp [hs1]
       have hs0 : 0 < ty.size := by omega
       have HGD : Hid (ty.data.toList.getD 0 0 = ty[0]) := Lib.hid (by rw [List.getD_eq_getElem?_getD, byte_at ty 0 hs0]; rfl)
       go_wp2_with fail
       go_meet
       case rel =>
        rw [HGD.out]
        refine ⟨_, rfl, Lib.hid ?_, rfl⟩
        simp [hs1]
        omega
      ·have hs2 : ((ty.size : Int) != 1) = true := by simp; omega
       have hs3 : ((ty.size : Int) == 1) = false := by simp; omega
       go_wp2_with fail
       go_meet
       case rel => exact ⟨_, rfl, Lib.hid (by simp [hs1]), rfl⟩
     case rest =>
      obtain ⟨bb, rfl, HBB, rfl⟩ := hcut
      go_upto_if 93 with fail
      go_cut [] (fun wx => ∃ b4 A4 n4 cp4, Hid (Lay wx S g cp ((ys, b4) :: fs) ((v0', .slice A4 n4 cp4) :: vs)) ∧ Hid (Below S W0 wx) ∧ Hid (Blk wx wr.heap.size 28 #[.string ty, .bool false, .slice AA sy.length ck]) ∧ Hid (b4 ++ ty.data.toList = b ++ (It.mk ty false sy).rlp))
      case first =>
       cases bb with
       | false =>
        have HRL : Hid ((It.mk ty false sy).rlp = ty.data.toList) := Lib.hid (rlp_text_some ty sy (HBB.out.1 rfl))
        go_wp2_with fail
        go_meet
        case rel => exact ⟨b, A2, n2, cp2, HLI, HB2, HIB, Lib.hid (by rw [HRL.out])⟩
       | true =>
        have HRL : Hid ((It.mk ty false sy).rlp = rHead 128 ty.size ++ ty.data.toList) := Lib.hid (rlp_text_head ty sy (fun h => by have := HBB.out.2 h; cases this))
        obtain ⟨_, s1, _, sf1, tn1⟩ := HLI.out.top
        rw [HRR.out] at s1 sf1
        have HNE : Hid (some g ≠ Value.ownBlock (.slice A2 n2 cp2)) := Lib.hid (by
         rcases tn1 g with h | h
         ·exact Ne.symm h
         ·exact absurd rfl h)
        have HBF := Lib.hid HLI.out.lays.1.2
        have hn2e := hn2.out
        have hcl := closeL_len fs ys (b ++ (It.mk ty false sy).rlp)
        rw [← closeL_text, HX.out, HRL.out] at hcl
        simp only [List.length_append, toList_size] at hcl
        have htt := HT.out
        have HHD := Lib.hid (head_c 128 ty.size S (.slice A2 n2 cp2) b wc.drew HBF.out hSc (by omega) (by omega) (by omega))
        clear hn2e hcl htt tn1
        go_wp2_with fail
        go_region_law (first | (go_simp; go_at_call 103; refine HHD.out.mono ?_; rintro e wx ⟨v', rfl, hbh, hgx⟩; obtain ⟨A4, n4, cp4, rfl, hn4, hc4, hc4m⟩ := hbh.form'; have e3 : wx.cell? ⟨g, r * 2 + 1, none⟩ = some (.slice A2 n2 cp2) := (hgx.grown.cell_far ⟨g, r * 2 + 1, none⟩ hgc HNE.out).trans s1; have e4 : wx.frozen? ⟨g, r * 2 + 1, none⟩ = false := (hgx.grown.frozen_far ⟨g, r * 2 + 1, none⟩ hgc HNE.out).trans sf1))
        all_goals
         go_wp2_with fail
         go_meet
         case rel =>
          refine ⟨b ++ rHead 128 ty.size, A4, n4, cp4, Lib.hid ?_, Lib.hid ?_, Lib.hid ?_, Lib.hid ?_⟩
          ·have := Lay.bytes (w := wc.drew) (HLI.out.below hSc (Below.refl _ _).drew) hSc hgx hbh
           rwa [HRR.out] at this
          ·exact (hgx.below HB2.out.drew hSc (fun i hi => (HBF.out.ge i hi).1)).setCell (by simpa using hgS) _
          ·exact Blk.far (Blk.grB (w := wc.drew) HIB.out hgx (fun e => by
            obtain ⟨_, _, cu, fr, h2⟩ := HBF.out.ge _ e
            have h3 := HIB.out
            rw [Blk, h2] at h3
            injection h3 with h3
            injection h3 with _ h3
            exact absurd h3 (by decide))) (by intro e; dsimp only at e; omega) _
          ·rw [HRL.out, List.append_assoc]
      case rest =>
       obtain ⟨b4, A4, n4, cp4, HL4, HBW4, HIB4, HX4⟩ := hcut
       have hS4 : S ≤ wc.heap.size := Nat.le_trans HS0.out HBW4.out.size
       have hg4 : g < wc.heap.size := HL4.out.block.2.1
       obtain ⟨_, s4, _, sf4, tn4⟩ := HL4.out.top
       rw [HRR.out] at s4 sf4
       have HNE4 : Hid (some g ≠ Value.ownBlock (.slice A4 n4 cp4)) := Lib.hid (by
        rcases tn4 g with h | h
        ·exact Ne.symm h
        ·exact absurd rfl h)
       obtain ⟨i4, _, _, _, _, _⟩ := blk3 HIB4.out
       have HB4 := Lib.hid HL4.out.lays.1.2
       have hcl := closeL_len fs ys (b ++ (It.mk ty false sy).rlp)
       rw [← closeL_text, HX.out, ← HX4.out] at hcl
       simp only [List.length_append] at hcl
       have htt := HT.out
       have HLC : Hid (b4.length + ty.data.toList.length ≤ 140737488355328) := Lib.hid (by omega)
       clear hcl htt tn4
       go_wp2_with fail
       go_region_law (refine step_append_bufO (by rfl) (.tmp 110) (.tmp 112) 117 9 (by rfl) S 5 i0 Tryz.underlying117 hi hz0 hz1 hz2 (by rfl) (show Buf wc.drew S 5 (.slice A4 n4 cp4) b4 from HB4.out) _ ty.data.toList (by rfl) (src_str Tryz.underlying9 _ ty) hS4 HLC.out ?_; intro A6 n6 cp6 w6 hb6 hg6; have e5 : w6.cell? ⟨g, r * 2 + 1, none⟩ = some (.slice A4 n4 cp4) := (hg6.grown.cell_far ⟨g, r * 2 + 1, none⟩ hg4 HNE4.out).trans s4; have e6 : w6.frozen? ⟨g, r * 2 + 1, none⟩ = false := (hg6.grown.frozen_far ⟨g, r * 2 + 1, none⟩ hg4 HNE4.out).trans sf4)
       all_goals
        have HL6 : Hid (Lay (w6.setCell ⟨g, r * 2 + 1, none⟩ (.slice A6 n6 cp6)) S g cp ((ys, b4 ++ ty.data.toList) :: fs) ((v0', .slice A6 n6 cp6) :: vs)) := Lib.hid (by
         have := Lay.bytes (w := wc.drew) (HL4.out.below hS4 (Below.refl _ _).drew) hS4 hg6 hb6
         rwa [HRR.out] at this)
        have HB6 : Hid (Below S W0 (w6.setCell ⟨g, r * 2 + 1, none⟩ (.slice A6 n6 cp6))) := Lib.hid ((hg6.below HBW4.out.drew hS4 (fun i hi => (HB4.out.ge i hi).1)).setCell (by simpa using hgS) _)
        clear hb6 hg6
        go_wp2
        go_roundg (gk - 1)
        case measure => have := HN.out; simp [layN] at this; omega
        case rel =>
         refine ⟨g, cp, ys, b4 ++ ty.data.toList, fs, v0', .slice A6 n6 cp6, vs, by rw [HRR.out], HL6, Lib.hid ?_, Lib.hid ?_, HB6⟩
         ·rw [HX4.out, ← closeL_text]; exact HX.out
         ·have := HN.out; have := count_pos (It.mk ty false sy); simp [layN, countL] at this ⊢; have h5 := HN.out; simp [layN, countL] at h5; omega
end Go.Proofs.YtnfpgadegpmhkaaGreatDoor
