/- layout.lay: a value's layout is written. -/
import Derived.Test.YtnfpgadegpmhkaaGreatDoorKA13
import Derived.Test.YtnfpgadegpmhkaaGreatDoorKA24
import Derived.Test.YtnfpgadegpmhkaaGreatDoorKA27
import Derived.Test.YtnfpgadegpmhkaaGreatDoorKA25
import Derived.Test.YtnfpgadegpmhkaaGreatDoorKA3
import Derived.Test.YtnfpgadegpmhkaaGreatDoorKA22
import Derived.Test.YtnfpgadegpmhkaaGreatDoorKA1
set_option linter.unusedVariables false
set_option linter.unusedSimpArgs false
set_option maxRecDepth 100000
set_option maxHeartbeats 3200000
namespace Go.Proofs.YtnfpgadegpmhkaaGreatDoor
open Go.RowKit
theorem Bld.keepL {w w' : World} {base b : Nat} {l : List UInt8} (h : Bld w base b l) (hb : Below w.heap.size w w') : Bld w' base b l := by
 obtain ⟨h1, p, v, h2, h3, h4, h5⟩ := h
 exact ⟨h1, p, v, (hb.block b h2.lt).trans h2, h3, h4.below hb, h5⟩
theorem KeptB.moreL {E : TypeId} {base b : Nat} {w0 w w' : World} (h : KeptB E base b w0 w) (hb : Below w.heap.size w w') (hB : base ≤ w.heap.size) : KeptB E base b w0 w' :=
 h.trans ⟨hb.os, hb.tape, hb.output, hb.size, fun k hk _ => hb.block k (by omega), fun k o hk _ _ => (hb.block k (Array.getElem?_eq_some_iff.1 hk).1).trans hk⟩
structure LyW (w : World) (base b : Nat) (lb : List UInt8) (k1 k2 : Array Value) (g : Nat) (wr : World) (l : List UInt8) : Prop where
 ty : Blk wr g 55 k1
 it : Blk wr (g + 1) 28 k2
 bld : Bld wr base b (lb ++ l)
 kept : KeptB 5 base b w wr
 siz : g + 1 < wr.heap.size
theorem LyW.start {w : World} {base b : Nat} {lb : List UInt8} {k1 k2 : Array Value} (h : Bld w base b lb) (hbs : base ≤ w.heap.size) : LyW w base b lb k1 k2 w.heap.size ((w.alloc (.cells k1 55)).alloc (.cells k2 28)) [] where
 ty := (Blk.new w _ _).alloc _
 it := by have := Blk.new (w.alloc (.cells k1 55)) 28 k2; simpa using this
 bld := by
  have hb : Below w.heap.size w ((w.alloc (.cells k1 55)).alloc (.cells k2 28)) := ((Below.refl _ w).alloc (Nat.le_refl _) _).alloc (by simp) _
  rw [List.append_nil]; exact h.keepL hb
 kept := by
  have hb : Below w.heap.size w ((w.alloc (.cells k1 55)).alloc (.cells k2 28)) := ((Below.refl _ w).alloc (Nat.le_refl _) _).alloc (by simp) _
  exact (KeptB.refl _ _ _ _).moreL hb hbs
 siz := by simp
theorem LyW.more {w wr w' : World} {base b g : Nat} {lb l : List UInt8} {k1 k2 : Array Value} (h : LyW w base b lb k1 k2 g wr l) (hb : Below wr.heap.size wr w') (hbs : base ≤ w.heap.size) : LyW w base b lb k1 k2 g w' l where
 ty := (hb.block _ h.ty.lt).trans h.ty
 it := (hb.block _ h.it.lt).trans h.it
 bld := h.bld.keepL hb
 kept := h.kept.moreL hb (by have := h.kept.size; omega)
 siz := by have := hb.size; have := h.siz; omega
theorem LyW.put {w wr w' : World} {base b g : Nat} {lb l m : List UInt8} {k1 k2 : Array Value} (h : LyW w base b lb k1 k2 g wr l) (hb : Bld w' base b ((lb ++ l) ++ m)) (hk : KeptB 5 base b wr w') (hg : b < g) : LyW w base b lb k1 k2 g w' (l ++ m) where
 ty := hk.blk h.ty (by omega) (by decide)
 it := hk.blk h.it (by omega) (by decide)
 bld := by rw [← List.append_assoc]; exact hb
 kept := h.kept.trans hk
 siz := by have := hk.size; have := h.siz; omega
theorem LaidC.keptB {w w' : World} {E : TypeId} {base b : Nat} (h : LaidC w) (hk : KeptB E base b w w') (h1 : 0 < base) (h2 : 0 < b) : LaidC w' := h.same (hk.block _ h1 (by omega))
theorem ofN_eq {t : ByteArray} (h8 : t.size ≤ 8) (hl : lead0 t.data.toList = false) : ofN t false = beL t.data.toList := by
 have hE : glE t = 0 := by
  unfold glE
  by_cases h0 : t.size = 0
  ·rw [if_pos h0]
  ·rw [if_neg h0, if_neg (by omega), hl]; rfl
 simp [ofN, glN, hE]
theorem layL_take_le (s : List It) (k : Nat) (t : Ty) : (layL (s.take k) t 0).length ≤ (layL s t 0).length := by
 have := congrArg List.length (layL_append (s.take k) (s.drop k) t 0)
 rw [List.take_append_drop, List.length_append] at this
 omega
theorem lay_c : ∀ (x : It) (B : Nat) (w : World) (c0 c1 c2 : Value), ItIn w B x c0 c1 c2 → B ≤ w.heap.size → x.right = true → ∀ (ty : Ty) (t0 t1 t2 t3 : Value), TyIn w B ty t0 t1 t2 t3 → ty.right = true → x.isOf ty = true →
 ∀ (b base : Nat) (lb : List UInt8), Bld w base b lb → B ≤ b → base ≤ w.heap.size → LaidC w → 0 < B → lb.length + (x.lay ty).length ≤ 1099511627776 →
 Calls Tryz.prog 77 #[.pointer (some ⟨b, 0, none⟩), .agg #[t0, t1, t2, t3], .agg #[c0, c1, c2]] w fun e w' => e = .returned (.tuple #[]) ∧ Bld w' base b (lb ++ x.lay ty) ∧ KeptB 5 base b w w' := by
 intro x
 induction x using It.ind with
 | h t l s ih =>
  intro B w c0 c1 c2 h hB hr ty t0 t1 t2 t3 hT htr hio b base lb hbd hBb hbs hLC hlB hlen
  obtain ⟨rfl, rfl, ht, hs, A, cap, rfl, hcap, hcm, hsub⟩ := h
  have IH := Lib.hid ih
  have HS := Lib.hid hsub
  clear ih hsub
  obtain ⟨k, z, tl, ta⟩ := ty
  obtain ⟨rfl, rfl, rfl, hk, hz, hta, htl, A', cap', rfl, htc, htm, htys⟩ := hT
  obtain ⟨hok, hrt⟩ := right_ok htr
  have hbb : b < base := hbd.1
  have HST := Lib.hid (LyW.start (k1 := #[.int .i64 k, .int .i64 z, .slice A' tl.length cap', .int .i64 ta]) (k2 := #[.string t, .bool l, .slice A s.length cap]) hbd hbs)
  simp only [It.isOf, Bool.and_eq_true] at hio
  obtain ⟨hi1, hi2⟩ := hio
  have HRT := Lib.hid hr
  have HTS := Lib.hid htys
  have HTR := Lib.hid hrt
  have HI2 := Lib.hid hi2
  have HLC := Lib.hid hLC
  unfold okI at hk hz hta
  clear hr htys hrt htr hbd hi2 hLC
  rcases ok_ways hok with ⟨rfl, h3, hn, rfl⟩ | ⟨rfl, h3, h4, hn, rfl⟩ | ⟨rfl, h3, h4, hn, rfl⟩ | ⟨rfl, h3, h4, hn, rfl⟩ | ⟨rfl, rfl, h4, h5, h6⟩
  ·obtain ⟨zn, rfl⟩ : ∃ zn : Nat, z = zn := ⟨z.toNat, by omega⟩
   obtain ⟨rfl, hsz, hl0⟩ := is1_one hi1
   obtain rfl : tl = [] := List.eq_nil_of_length_eq_zero hn
   have HL : Hid ((It.mk t false s).lay (Ty.mk 1 zn [] 0) = leD (beL t.data.toList) zn) := Lib.hid (lay_one _ _ _ _ _ _)
   rw [HL.out] at hlen ⊢
   have hof := ofN_eq (t := t) (by omega) hl0
   have HO := Lib.hid (fun w' => of_c t false (.slice A s.length cap) w' (by omega))
   rw [hof] at HO
   have hb8 := beL_lt t.data.toList
   rw [toList_size] at hb8
   have hb9 : beL t.data.toList < 2 ^ (8 * zn) := Nat.lt_of_lt_of_le hb8 (Nat.pow_le_pow_right (by omega) (by omega))
   have HD := Lib.hid (fun w' => little_c (beL t.data.toList) zn w' hb9 (by omega) (by omega))
   rw [leD_length] at hlen
   have hDl : (leD (beL t.data.toList) zn).length = zn := leD_length _ _
   generalize ofE t false = E at *
   generalize leD (beL t.data.toList) zn = D at *
   generalize beL t.data.toList = n at *
   clear hok IH HS HTS hi1 hof hb8 hb9 HL
   go_enter Tryz.func77, Tryz.ntmps77
   go_wp2_with fail
   refine (HO.out _).mono ?_
   rintro e w2 ⟨rfl, hb2⟩
   have HS2 := Lib.hid (HST.out.more hb2 hbs)
   clear hb2
   have q1 : w2.cell? ⟨w.heap.size, 1, none⟩ = some (.int .i64 zn) := HS2.out.ty.cell 1
   go_wp2_with fail
   refine (HD.out _).mono ?_
   rintro e w3 ⟨rfl, hb3⟩
   have HS3 := Lib.hid (HS2.out.more hb3 hbs)
   clear hb3
   go_wp2_with fail
   refine (writeStr_c b base w3 (lb ++ []) _ HS3.out.bld (by show D ≠ []; intro e; rw [e] at hDl; simp at hDl; omega) (by have := HS3.out.kept.size; omega) (by rw [size_of, List.append_nil, hDl]; exact hlen)).mono ?_
   rintro e w4 ⟨rfl, hbd4, hk4⟩
   have HS4 := Lib.hid (HS3.out.put hbd4 hk4 (by omega))
   clear hbd4 hk4
   go_wp2
   go_end0
   exact ⟨rfl, by simpa using HS4.out.bld, HS4.out.kept⟩
  ·obtain ⟨rfl, hsz⟩ := is1_two hi1
   obtain rfl : tl = [] := List.eq_nil_of_length_eq_zero hn
   have HL : Hid ((It.mk t false s).lay (Ty.mk 2 z [] 0) = t.data.toList) := Lib.hid (lay_two _ _ _ _ _ _)
   rw [HL.out] at hlen ⊢
   rw [toList_size] at hlen
   clear hok IH HS HTS hi1 HL
   go_enter Tryz.func77, Tryz.ntmps77
   go_wp2_with fail
   refine (writeStr_c b base _ (lb ++ []) t HST.out.bld (by intro e; have := congrArg List.length e; rw [toList_size, List.length_nil] at this; omega) (by have := HST.out.kept.size; omega) (by rw [List.append_nil]; exact hlen)).mono ?_
   rintro e w4 ⟨rfl, hbd4, hk4⟩
   have HS4 := Lib.hid (HST.out.put hbd4 hk4 (by omega))
   clear hbd4 hk4
   go_wp2
   go_end0
   exact ⟨rfl, by simpa using HS4.out.bld, HS4.out.kept⟩
  ·obtain ⟨rfl, hsz⟩ := is1_three hi1
   obtain rfl : tl = [] := List.eq_nil_of_length_eq_zero hn
   have HL : Hid ((It.mk t false s).lay (Ty.mk 3 z [] 0) = cpPut t.size ++ t.data.toList) := Lib.hid (lay_three _ _ _ _ _ _)
   rw [HL.out] at hlen ⊢
   have HP := Lib.hid (fun w' (h : LaidC w') => cpPut_c t.size w' (by omega) h)
   have hpl := (cpPut_length t.size).1
   generalize cpPut t.size = D at *
   rw [List.length_append, toList_size] at hlen
   have hnn : D ++ t.data.toList ≠ [] := fun e => by have := congrArg List.length e; rw [List.length_append, List.length_nil] at this; omega
   clear hok IH HS HTS hi1 HL
   go_enter Tryz.func77, Tryz.ntmps77
   go_wp2_with fail
   refine (HP.out _ (HLC.out.keptB HST.out.kept (by omega) (by omega))).mono ?_
   rintro e w2 ⟨rfl, hb2⟩
   have HS2 := Lib.hid (HST.out.more hb2 hbs)
   clear hb2
   go_wp2_with fail
   refine (writeStr_c b base w2 (lb ++ []) _ HS2.out.bld (by show D ≠ []; intro e; rw [e] at hpl; simp at hpl) (by have := HS2.out.kept.size; omega) (by rw [size_of, List.append_nil]; omega)).mono ?_
   rintro e w3 ⟨rfl, hbd3, hk3⟩
   have HS3 := Lib.hid (HS2.out.put hbd3 hk3 (by omega))
   clear hbd3 hk3
   have q1 : w3.cell? ⟨w.heap.size + 1, 0, none⟩ = some (.string t) := HS3.out.it.cell 0
   go_wp2_with fail
   refine (writeStr_g b base w3 _ t HS3.out.bld (by intro e; have := congrArg List.length e; simp only [List.length_append, List.length_nil] at this; omega) (by have := HS3.out.kept.size; omega) (by simp only [List.length_append, List.length_nil]; omega)).mono ?_
   rintro e w4 ⟨rfl, hbd4, hk4⟩
   have HS4 := Lib.hid (HS3.out.put hbd4 hk4 (by omega))
   clear hbd4 hk4
   go_wp2
   go_end0
   exact ⟨rfl, by simpa using HS4.out.bld, HS4.out.kept⟩
  ·obtain ⟨rfl, hsz⟩ := is1_four hi1
   have HNL := Lib.hid hn
   have HL : Hid ((It.mk t true s).lay (Ty.mk 4 z tl 0) = cpPut s.length ++ layL s (Ty.mk 4 z tl 0) 0) := Lib.hid (lay_four _ _ _ _ _ _)
   rw [HL.out] at hlen ⊢
   have HP := Lib.hid (fun w' (h : LaidC w') => cpPut_c s.length w' (by omega) h)
   have hpl := (cpPut_length s.length).1
   generalize cpPut s.length = D at *
   rw [List.length_append] at hlen
   clear hok hi1 HL hn
   go_enter Tryz.func77, Tryz.ntmps77
   go_wp2_with fail
   refine (HP.out _ (HLC.out.keptB HST.out.kept (by omega) (by omega))).mono ?_
   rintro e w2 ⟨rfl, hb2⟩
   have HS2 := Lib.hid (HST.out.more hb2 hbs)
   clear hb2
   go_wp2_with fail
   refine (writeStr_c b base w2 (lb ++ []) _ HS2.out.bld (by show D ≠ []; intro e; rw [e] at hpl; simp at hpl) (by have := HS2.out.kept.size; omega) (by rw [size_of, List.append_nil]; omega)).mono ?_
   rintro e w3 ⟨rfl, hbd3, hk3⟩
   have HS3 := Lib.hid (HS2.out.put hbd3 hk3 (by omega))
   clear hbd3 hk3
   have q1 : w3.cell? ⟨w.heap.size + 1, 2, none⟩ = some (.slice A s.length cap) := HS3.out.it.cell 2
   go_wp2_with fail
   go_loopw [64] (fun i wr => ∃ kk : Nat, kk ≤ s.length ∧ i = .int .i64 kk ∧ Hid (LyW w base b lb #[.int .i64 4, .int .i64 z, .slice A' tl.length cap', .int .i64 0] #[.string t, .bool true, .slice A s.length cap] w.heap.size wr (D ++ layL (s.take kk) (Ty.mk 4 z tl 0) 0))) (fun i _ => s.length - (intOf i).toNat)
   case atStart => exact ⟨0, by omega, rfl, Lib.hid (by have := HS3.out; simpa [layL] using this)⟩
   case round =>
    obtain ⟨kk, hkk, rfl, HW⟩ := hrel
    by_cases hlt : kk < s.length
    ·have hbB : Below B w wr := HW.out.kept.below (by omega) hBb
     have hbz := hbB.size
     have q2 : wr.cell? ⟨w.heap.size, 2, none⟩ = some (.slice A' tl.length cap') := HW.out.ty.cell 2
     obtain ⟨b1, o, d0, d1, d2, rfl, hbl, e0, e1, e2, hi⟩ := HS.out.at_ kk hlt
     simp only [Nat.zero_add] at e0 e1 e2
     replace e0 := (hbB.cell (p := ⟨b1, o + kk * 3, none⟩) hbl).trans e0
     replace e1 := (hbB.cell (p := ⟨b1, o + kk * 3 + 1, none⟩) hbl).trans e1
     replace e2 := (hbB.cell (p := ⟨b1, o + kk * 3 + 2, none⟩) hbl).trans e2
     have hjl : 0 < tl.length := (by have := HNL.out; omega)
     obtain ⟨b2, o', f0, f1, f2, f3, rfl, hbl', k0, k1, k2, k3, hti⟩ := HTS.out.at_ (0) hjl
     simp only [Nat.zero_add, Nat.zero_mul, Nat.add_zero] at k0 k1 k2 k3
     replace k0 := (hbB.cell (p := ⟨b2, _, none⟩) hbl').trans k0
     replace k1 := (hbB.cell (p := ⟨b2, _, none⟩) hbl').trans k1
     replace k2 := (hbB.cell (p := ⟨b2, _, none⟩) hbl').trans k2
     replace k3 := (hbB.cell (p := ⟨b2, _, none⟩) hbl').trans k3
     have hat : (Ty.mk 4 z tl 0).at kk = tl[0] := by show (tl[atI 4 kk]?).getD (.mk 0 0 [] 0) = tl[0]; rw [show atI 4 kk = 0 from rfl, List.getElem?_eq_getElem hjl]; rfl
     have hio := isOfL_at s (Ty.mk 4 z tl 0) 0 HI2.out kk hlt
     rw [Nat.zero_add, hat] at hio
     have htk : layL (s.take (kk + 1)) (Ty.mk 4 z tl 0) 0 = layL (s.take kk) (Ty.mk 4 z tl 0) 0 ++ s[kk].lay tl[0] := by rw [layL_take hlt, hat]
     have hle := layL_take_le s (kk + 1) (Ty.mk 4 z tl 0)
     rw [htk, List.length_append] at hle
     have HTK := Lib.hid htk
     have HC : Hid (∀ V, Below wr.heap.size wr V → Calls Tryz.prog 77 #[.pointer (some ⟨b, 0, none⟩), .agg #[f0, f1, f2, f3], .agg #[d0, d1, d2]] V fun e w' => e = .returned (.tuple #[]) ∧ Bld w' base b ((lb ++ (D ++ layL (s.take kk) (Ty.mk 4 z tl 0) 0)) ++ s[kk].lay tl[0]) ∧ KeptB 5 base b V w') := Lib.hid (fun V hV => by
      have hV2 : Below B w V := hbB.trans (hV.mono (by omega))
      exact IH.out _ (List.getElem_mem hlt) B V d0 d1 d2 (hi.below hV2) (by have := hV.size; omega) (itright_at HRT.out kk hlt) tl[0] f0 f1 f2 f3 (hti.below hV2) (rightT_at HTR.out (0) hjl) hio b base _ (HW.out.bld.keepL hV) hBb (by have := hV.size; omega) (HLC.out.below hV2 hlB) hlB (by rw [List.length_append, List.length_append]; omega))
     have HJL := Lib.hid hjl
     obtain ⟨A2, cap2, rfl, rfl, rfl, _⟩ := hi.open_
     generalize s[kk].text = xt at *
     generalize s[kk].list = xl at *
     generalize s[kk].sub.length = xn at *
     generalize s[kk].lay tl[0] = LX at *
     have hV1 : Below wr.heap.size wr (wr.alloc (.cells #[.string xt, .bool xl, .slice A2 xn cap2] 28)) := (Below.refl _ _).alloc (Nat.le_refl _) _
     have hnew := Blk.new wr 28 #[.string xt, .bool xl, .slice A2 xn cap2]
     have n0 := hnew.cell 0
     have n1 := hnew.cell 1
     have n2 := hnew.cell 2
     have hsz := HW.out.siz
     have Q2 := (hV1.cell (p := ⟨w.heap.size, 2, none⟩) (by simp; omega)).trans q2
     have K0 := (hV1.cell (p := ⟨b2, _, none⟩) (by simp; omega)).trans k0
     have K1 := (hV1.cell (p := ⟨b2, _, none⟩) (by simp; omega)).trans k1
     have K2 := (hV1.cell (p := ⟨b2, _, none⟩) (by simp; omega)).trans k2
     have K3 := (hV1.cell (p := ⟨b2, _, none⟩) (by simp; omega)).trans k3
     have HV1 := Lib.hid hV1
     clear hi hti hbB hat hio htk hle hV1 hnew
     go_wp2_with fail
     generalize hW1 : wr.alloc (.cells #[.string xt, .bool xl, .slice A2 xn cap2] 28) = W1 at *
     clear hW1 q2 e0 e1 e2 k0 k1 k2 k3
     go_still_tail 6, (by kernel_rfl)
     change wpList _ _ _ _ _ W1.drew
     go_wp2_with fail
     refine (HC.out W1.drew HV1.out.drew).mono ?_
     rintro e w5 ⟨rfl, hbd5, hk5⟩
     have HS5 := Lib.hid ((HW.out.more HV1.out.drew hbs).put hbd5 hk5 (by omega))
     clear hbd5 hk5
     rw [List.append_assoc, ← HTK.out] at HS5
     go_wp2
     go_roundw
     case rel => exact ⟨kk + 1, by omega, by go_num, HS5⟩
     case measure => simp [intOf]; omega
    ·have h1 := HW.out
     rw [List.take_of_length_le (by omega)] at h1
     have HM := Lib.hid h1
     clear h1
     go_wp2
     go_end0
     exact ⟨rfl, HM.out.bld, HM.out.kept⟩
  ·obtain ⟨rfl, hsz1, hsz2⟩ := is1_five hi1
   have HL : Hid ((It.mk t true s).lay (Ty.mk 5 0 tl ta) = [] ++ layL s (Ty.mk 5 0 tl ta) 0) := Lib.hid (lay_five _ _ _ _ _ _)
   rw [HL.out] at hlen ⊢
   rw [List.length_append] at hlen
   clear hok hi1 HL
   go_enter Tryz.func77, Tryz.ntmps77
   go_wp2_with fail
   go_loopw [81] (fun i wr => ∃ kk : Nat, kk ≤ s.length ∧ i = .int .i64 kk ∧ Hid (LyW w base b lb #[.int .i64 5, .int .i64 0, .slice A' tl.length cap', .int .i64 ta] #[.string t, .bool true, .slice A s.length cap] w.heap.size wr ([] ++ layL (s.take kk) (Ty.mk 5 0 tl ta) 0))) (fun i _ => s.length - (intOf i).toNat)
   case atStart => exact ⟨0, by omega, rfl, Lib.hid (by have := HST.out; simpa [layL] using this)⟩
   case round =>
    obtain ⟨kk, hkk, rfl, HW⟩ := hrel
    by_cases hlt : kk < s.length
    ·have hbB : Below B w wr := HW.out.kept.below (by omega) hBb
     have hbz := hbB.size
     have q2 : wr.cell? ⟨w.heap.size, 2, none⟩ = some (.slice A' tl.length cap') := HW.out.ty.cell 2
     obtain ⟨b1, o, d0, d1, d2, rfl, hbl, e0, e1, e2, hi⟩ := HS.out.at_ kk hlt
     simp only [Nat.zero_add] at e0 e1 e2
     replace e0 := (hbB.cell (p := ⟨b1, o + kk * 3, none⟩) hbl).trans e0
     replace e1 := (hbB.cell (p := ⟨b1, o + kk * 3 + 1, none⟩) hbl).trans e1
     replace e2 := (hbB.cell (p := ⟨b1, o + kk * 3 + 2, none⟩) hbl).trans e2
     have hjl : kk < tl.length := (by omega)
     obtain ⟨b2, o', f0, f1, f2, f3, rfl, hbl', k0, k1, k2, k3, hti⟩ := HTS.out.at_ (kk) hjl
     simp only [Nat.zero_add, Nat.zero_mul, Nat.add_zero] at k0 k1 k2 k3
     replace k0 := (hbB.cell (p := ⟨b2, _, none⟩) hbl').trans k0
     replace k1 := (hbB.cell (p := ⟨b2, _, none⟩) hbl').trans k1
     replace k2 := (hbB.cell (p := ⟨b2, _, none⟩) hbl').trans k2
     replace k3 := (hbB.cell (p := ⟨b2, _, none⟩) hbl').trans k3
     have hat : (Ty.mk 5 0 tl ta).at kk = tl[kk] := by show (tl[atI 5 kk]?).getD (.mk 0 0 [] 0) = tl[kk]; rw [show atI 5 kk = kk from rfl, List.getElem?_eq_getElem hjl]; rfl
     have hio := isOfL_at s (Ty.mk 5 0 tl ta) 0 HI2.out kk hlt
     rw [Nat.zero_add, hat] at hio
     have htk : layL (s.take (kk + 1)) (Ty.mk 5 0 tl ta) 0 = layL (s.take kk) (Ty.mk 5 0 tl ta) 0 ++ s[kk].lay tl[kk] := by rw [layL_take hlt, hat]
     have hle := layL_take_le s (kk + 1) (Ty.mk 5 0 tl ta)
     rw [htk, List.length_append] at hle
     have HTK := Lib.hid htk
     have HC : Hid (∀ V, Below wr.heap.size wr V → Calls Tryz.prog 77 #[.pointer (some ⟨b, 0, none⟩), .agg #[f0, f1, f2, f3], .agg #[d0, d1, d2]] V fun e w' => e = .returned (.tuple #[]) ∧ Bld w' base b ((lb ++ ([] ++ layL (s.take kk) (Ty.mk 5 0 tl ta) 0)) ++ s[kk].lay tl[kk]) ∧ KeptB 5 base b V w') := Lib.hid (fun V hV => by
      have hV2 : Below B w V := hbB.trans (hV.mono (by omega))
      exact IH.out _ (List.getElem_mem hlt) B V d0 d1 d2 (hi.below hV2) (by have := hV.size; omega) (itright_at HRT.out kk hlt) tl[kk] f0 f1 f2 f3 (hti.below hV2) (rightT_at HTR.out (kk) hjl) hio b base _ (HW.out.bld.keepL hV) hBb (by have := hV.size; omega) (HLC.out.below hV2 hlB) hlB (by rw [List.length_append, List.length_append]; omega))
     have HJL := Lib.hid hjl
     obtain ⟨A2, cap2, rfl, rfl, rfl, _⟩ := hi.open_
     generalize s[kk].text = xt at *
     generalize s[kk].list = xl at *
     generalize s[kk].sub.length = xn at *
     generalize s[kk].lay tl[kk] = LX at *
     have hV1 : Below wr.heap.size wr (wr.alloc (.cells #[.string xt, .bool xl, .slice A2 xn cap2] 28)) := (Below.refl _ _).alloc (Nat.le_refl _) _
     have hnew := Blk.new wr 28 #[.string xt, .bool xl, .slice A2 xn cap2]
     have n0 := hnew.cell 0
     have n1 := hnew.cell 1
     have n2 := hnew.cell 2
     have hsz := HW.out.siz
     have Q2 := (hV1.cell (p := ⟨w.heap.size, 2, none⟩) (by simp; omega)).trans q2
     have K0 := (hV1.cell (p := ⟨b2, _, none⟩) (by simp; omega)).trans k0
     have K1 := (hV1.cell (p := ⟨b2, _, none⟩) (by simp; omega)).trans k1
     have K2 := (hV1.cell (p := ⟨b2, _, none⟩) (by simp; omega)).trans k2
     have K3 := (hV1.cell (p := ⟨b2, _, none⟩) (by simp; omega)).trans k3
     have HV1 := Lib.hid hV1
     clear hi hti hbB hat hio htk hle hV1 hnew
     go_wp2_with fail
     generalize hW1 : wr.alloc (.cells #[.string xt, .bool xl, .slice A2 xn cap2] 28) = W1 at *
     clear hW1 q2 e0 e1 e2 k0 k1 k2 k3
     go_still_tail 7, (by kernel_rfl)
     change wpList _ _ _ _ _ W1.drew
     go_wp2_with fail
     refine (HC.out W1.drew HV1.out.drew).mono ?_
     rintro e w5 ⟨rfl, hbd5, hk5⟩
     have HS5 := Lib.hid ((HW.out.more HV1.out.drew hbs).put hbd5 hk5 (by omega))
     clear hbd5 hk5
     rw [List.append_assoc, ← HTK.out] at HS5
     go_wp2
     go_roundw
     case rel => exact ⟨kk + 1, by omega, by go_num, HS5⟩
     case measure => simp [intOf]; omega
    ·have h1 := HW.out
     rw [List.take_of_length_le (by omega)] at h1
     have HM := Lib.hid h1
     clear h1
     go_wp2
     go_end0
     exact ⟨rfl, HM.out.bld, HM.out.kept⟩
theorem layL_len : ∀ (s : List It) (t : Ty) (i : Nat), (∀ j (h : j < s.length), ((s[j]).lay (t.at (i + j))).length ≤ 65545 * (s[j]).count) → (layL s t i).length ≤ 65545 * countL s
 | [], _, _, _ => by simp [layL, countL]
 | x :: xs, t, i, h => by
  have h0 := h 0 (by simp)
  simp only [List.getElem_cons_zero, Nat.add_zero] at h0
  have h1 := layL_len xs t (i + 1) (fun j hj => by have := h (j + 1) (by simpa using hj); simpa [show i + (j + 1) = i + 1 + j from by omega] using this)
  simp only [layL, List.length_append, countL]
  omega
theorem lay_len (x : It) : ∀ t : Ty, t.right = true → x.isOf t = true → (x.lay t).length ≤ 65545 * x.count := by
 induction x using It.ind with
 | h tx b s ih =>
  intro t hr hi
  obtain ⟨k, z, l, ta⟩ := t
  obtain ⟨hok, hrl⟩ := right_ok hr
  simp only [It.isOf, Bool.and_eq_true] at hi
  obtain ⟨hi1, hi2⟩ := hi
  have hat := isOfL_at s _ 0 hi2
  rcases ok_ways hok with ⟨rfl, hs, hn0, ht⟩ | ⟨rfl, h3, h4, hn0, ht⟩ | ⟨rfl, h3, h4, hn0, ht⟩ | ⟨rfl, h3, h4, hn0, ht⟩ | ⟨rfl, h3, h4, h5, h6⟩
  ·rw [lay_one, leD_length]; simp only [It.count]; omega
  ·have := is1_two hi1
   rw [lay_two, toList_size]; simp only [It.count]; omega
  ·have := is1_three hi1
   rw [lay_three, List.length_append, toList_size]; have := cpPut_length tx.size; simp only [It.count]; omega
  ·have h9 := cpPut_length s.length
   have hlen := layL_len s (.mk 4 z l ta) 0 (fun j hj => by
    have hio := hat j hj
    have ha : (Ty.mk 4 z l ta).at (0 + j) = l[0]'(by omega) := by unfold Ty.at; simp [hn0]
    rw [ha] at hio ⊢
    exact ih _ (List.getElem_mem hj) _ (rightT_at hrl 0 (by omega)) hio)
   rw [lay_four, List.length_append]; simp only [It.count]; omega
  ·have h5' := is1_five hi1
   have hlen := layL_len s (.mk 5 z l ta) 0 (fun j hj => by
    have hio := hat j hj
    have hj2 : j < l.length := by omega
    have ha : (Ty.mk 5 z l ta).at (0 + j) = l[j] := by unfold Ty.at; simp [hj2]
    rw [ha] at hio ⊢
    exact ih _ (List.getElem_mem hj) _ (rightT_at hrl j hj2) hio)
   rw [lay_five]; simp only [It.count]; omega
structure PuW (w : World) (k1 k2 : Array Value) (V : World) : Prop where
 ty : Blk V w.heap.size 55 k1
 it : Blk V (w.heap.size + 1) 28 k2
 bel : Below w.heap.size w V
 siz : w.heap.size + 2 ≤ V.heap.size
theorem PuW.start (w : World) (k1 k2 : Array Value) : PuW w k1 k2 ((w.alloc (.cells k1 55)).alloc (.cells k2 28)) where
 ty := (Blk.new w _ _).alloc _
 it := Blk.at_ (by simp)
 bel := ((Below.refl _ w).alloc (Nat.le_refl _) _).alloc (by simp) _
 siz := by simp
theorem PuW.more {w V V' : World} {k1 k2 : Array Value} (h : PuW w k1 k2 V) (hb : Below V.heap.size V V') : PuW w k1 k2 V' where
 ty := (hb.block _ h.ty.lt).trans h.ty
 it := (hb.block _ h.it.lt).trans h.it
 bel := h.bel.trans (hb.mono h.bel.size)
 siz := Nat.le_trans h.siz hb.size
theorem blk3L {w : World} {g : Nat} {t : TypeId} {a b c : Value} (h : Blk w g t #[a, b, c]) : w.cell? ⟨g, 0, none⟩ = some a ∧ w.cell? ⟨g, 1, none⟩ = some b ∧ w.cell? ⟨g, 2, none⟩ = some c := ⟨h.cell 0, h.cell 1, h.cell 2⟩
theorem blk4' {w : World} {g : Nat} {t : TypeId} {a b c d : Value} (h : Blk w g t #[a, b, c, d]) : w.cell? ⟨g, 0, none⟩ = some a ∧ w.cell? ⟨g, 1, none⟩ = some b ∧ w.cell? ⟨g, 2, none⟩ = some c ∧ w.cell? ⟨g, 3, none⟩ = some d := ⟨h.cell 0, h.cell 1, h.cell 2, h.cell 3⟩
theorem layoutPut_c (ty : Ty) (x : It) (M : Int) (B : Nat) (w : World) (t0 t1 t2 t3 c0 c1 c2 : Value) (hT : TyIn w B ty t0 t1 t2 t3) (hI : ItIn w B x c0 c1 c2) (hB : B ≤ w.heap.size) (hL : Laid w) (hLC : LaidC w) :
 Calls Tryz.prog 47 #[.agg #[t0, t1, t2, t3], .agg #[c0, c1, c2], .int .i64 M] w fun e w' => e = .returned (.tuple #[.string (lyPut ty x M).1, .int .i64 (lyPut ty x M).2]) ∧ Below w.heap.size w w' := by
 have hpos := hL.pos
 have hposC := hLC.pos
 have HF := Lib.hid (fun V (hV : Below w.heap.size w V) => flat_c ty B V t0 t1 t2 t3 (hT.below (hV.mono hB)) (by have := hV.size; omega) (hL.below hV hpos))
 have HT := Lib.hid (fun V (hV : Below w.heap.size w V) => fits_c ty x B V t0 t1 t2 t3 c0 c1 c2 (hT.below (hV.mono hB)) (hI.below (hV.mono hB)) (by have := hV.size; omega) (hL.below hV hpos))
 obtain ⟨E, hE⟩ : ∃ E, lyPutE ty x M = E := ⟨_, rfl⟩
 obtain ⟨P, hP⟩ : ∃ P, lyPut ty x M = P := ⟨_, rfl⟩
 have hPE : P = if E = 0 then (⟨(x.lay ty).toArray⟩, 0) else (⟨#[]⟩, E) := by rw [← hP, ← hE]; rfl
 rw [hP]
 unfold lyPutE at hE
 obtain ⟨A, cap, et0, et1, et2, et3, _⟩ := hT.open_
 obtain ⟨A', cap', ec0, ec1, ec2, _⟩ := hI.open_
 cases hf : ty.flat with
 | false =>
  rw [hf] at HF
  rw [if_pos hf] at hE
  have HX : Hid (P = (⟨#[]⟩, 1)) := Lib.hid (by rw [hPE, if_neg (by omega), ← hE])
  clear hE hP hPE hf hT hI hL hLC HT
  subst et0 et1 et2 et3 ec0 ec1 ec2
  generalize ty.kind = ki at *
  generalize ty.size = si at *
  generalize ty.tail = ta at *
  go_enter Tryz.func47, Tryz.ntmps47
  go_wp2_with fail
  refine (HF.out _ (PuW.start w _ _).bel).mono ?_
  rintro e w1 ⟨rfl, hb1⟩
  have hp1 := (PuW.start w _ _).more hb1
  have P1 := Lib.hid hp1
  clear hb1
  obtain ⟨q0, q1, q2, q3⟩ := blk4' hp1.ty
  obtain ⟨r0, r1, r2⟩ := blk3L hp1.it
  clear hp1
  go_wp2
  go_ret2
  exact ⟨by rw [HX.out]; rfl, P1.out.bel⟩
 | true =>
  rw [hf] at HF
  rw [if_neg (by simp [hf])] at hE
  by_cases hft : fitE ty x ≠ 0
  ·rw [if_pos hft] at hE
   have e1 : (fitE ty x != 0) = true := bne_iff_ne.2 hft
   have HX : Hid (P = (⟨#[]⟩, fitE ty x)) := Lib.hid (by rw [hPE, if_neg (by rw [← hE]; exact hft), ← hE])
   clear hE hP hPE hf hT hI hL hLC
   subst et0 et1 et2 et3 ec0 ec1 ec2
   generalize fitE ty x = F at *
   generalize ty.kind = ki at *
   generalize ty.size = si at *
   generalize ty.tail = ta at *
   generalize ty.sub.length = tn at *
   generalize x.text = xt at *
   generalize x.list = xl at *
   generalize x.sub.length = xn at *
   go_enter Tryz.func47, Tryz.ntmps47
   go_wp2_with fail
   refine (HF.out _ (PuW.start w _ _).bel).mono ?_
   rintro e w1 ⟨rfl, hb1⟩
   have hp1 := (PuW.start w _ _).more hb1
   have P1 := Lib.hid hp1
   clear hb1
   obtain ⟨q0, q1, q2, q3⟩ := blk4' hp1.ty
   obtain ⟨r0, r1, r2⟩ := blk3L hp1.it
   clear hp1
   go_wp2_with fail
   refine (HT.out _ P1.out.bel).mono ?_
   rintro e w2 ⟨rfl, hb2⟩
   have hp2 := P1.out.more hb2
   have P2 := Lib.hid hp2
   clear hb2 q0 q1 q2 q3 r0 r1 r2
   obtain ⟨q0, q1, q2, q3⟩ := blk4' hp2.ty
   obtain ⟨r0, r1, r2⟩ := blk3L hp2.it
   clear hp2
   go_wp2
   go_ret2
   exact ⟨by rw [HX.out]; rfl, P2.out.bel⟩
  ·rw [if_neg hft] at hE
   have hft0 : fitE ty x = 0 := Decidable.not_not.1 hft
   rw [hft0] at HT
   obtain ⟨_, htr, _, _, hfl⟩ := flat_parts hf
   obtain ⟨_, hxm, hio⟩ := fit_parts hft0
   obtain ⟨hxr, _, hxc⟩ := mayIt_parts hxm
   have HC := Lib.hid (fun V (hV : Below w.heap.size w V) => itCount_c x B V c0 c1 c2 (hI.below (hV.mono hB)) (by have := hV.size; omega) hxm hxr)
   by_cases hM : M < x.count
   ·rw [if_pos hM] at hE
    have d1 : decide (M < (x.count : Int)) = true := decide_eq_true hM
    have HX : Hid (P = (⟨#[]⟩, 4)) := Lib.hid (by rw [hPE, if_neg (by omega), ← hE])
    clear hE hP hPE hf hT hI hL hLC hft
    subst et0 et1 et2 et3 ec0 ec1 ec2
    generalize ty.kind = ki at *
    generalize ty.size = si at *
    generalize ty.tail = ta at *
    generalize ty.sub.length = tn at *
    generalize x.text = xt at *
    generalize x.list = xl at *
    generalize x.sub.length = xn at *
    generalize x.count = xc at *
    go_enter Tryz.func47, Tryz.ntmps47
    go_wp2_with fail
    refine (HF.out _ (PuW.start w _ _).bel).mono ?_
    rintro e w1 ⟨rfl, hb1⟩
    have hp1 := (PuW.start w _ _).more hb1
    have P1 := Lib.hid hp1
    clear hb1
    obtain ⟨q0, q1, q2, q3⟩ := blk4' hp1.ty
    obtain ⟨r0, r1, r2⟩ := blk3L hp1.it
    clear hp1
    go_wp2_with fail
    refine (HT.out _ P1.out.bel).mono ?_
    rintro e w2 ⟨rfl, hb2⟩
    have hp2 := P1.out.more hb2
    have P2 := Lib.hid hp2
    clear hb2 q0 q1 q2 q3 r0 r1 r2
    obtain ⟨q0, q1, q2, q3⟩ := blk4' hp2.ty
    obtain ⟨r0, r1, r2⟩ := blk3L hp2.it
    clear hp2
    go_wp2_with fail
    refine (HC.out _ P2.out.bel).mono ?_
    rintro e w3 ⟨rfl, hb3⟩
    have hp3 := P2.out.more hb3
    have P3 := Lib.hid hp3
    clear hb3 q0 q1 q2 q3 r0 r1 r2
    obtain ⟨q0, q1, q2, q3⟩ := blk4' hp3.ty
    obtain ⟨r0, r1, r2⟩ := blk3L hp3.it
    clear hp3
    go_wp2
    go_ret2
    exact ⟨by rw [HX.out]; rfl, P3.out.bel⟩
   ·rw [if_neg hM] at hE
    have d1 : decide (M < (x.count : Int)) = false := decide_eq_false hM
    have HX : Hid (P = (⟨(x.lay ty).toArray⟩, 0)) := Lib.hid (by rw [hPE, if_pos (by omega)])
    have hll := lay_len x ty htr hio
    have HLY := Lib.hid (fun V (hV : Below w.heap.size w V) (b : Nat) (hb : Bld V (b + 1) b []) (hbw : w.heap.size ≤ b) (hbV : b < V.heap.size) => lay_c x w.heap.size V c0 c1 c2 ((hI.below (hV.mono hB)).mono hB) hV.size hxr ty t0 t1 t2 t3 ((hT.below (hV.mono hB)).mono hB) htr hio b (b + 1) [] hb hbw hbV (hLC.below hV hposC) hposC (by simp only [List.length_nil]; omega))
    have HLL : Hid ((x.lay ty).length ≤ 1099511627776) := Lib.hid (by omega)
    simp only [List.nil_append] at HLY
    clear hE hP hPE hf hT hI hL hLC hft hll
    subst et0 et1 et2 et3 ec0 ec1 ec2
    generalize x.lay ty = LX at *
    generalize ty.kind = ki at *
    generalize ty.size = si at *
    generalize ty.tail = ta at *
    generalize ty.sub.length = tn at *
    generalize x.text = xt at *
    generalize x.list = xl at *
    generalize x.sub.length = xn at *
    generalize x.count = xc at *
    go_enter Tryz.func47, Tryz.ntmps47
    go_wp2_with fail
    refine (HF.out _ (PuW.start w _ _).bel).mono ?_
    rintro e w1 ⟨rfl, hb1⟩
    have hp1 := (PuW.start w _ _).more hb1
    have P1 := Lib.hid hp1
    clear hb1
    obtain ⟨q0, q1, q2, q3⟩ := blk4' hp1.ty
    obtain ⟨r0, r1, r2⟩ := blk3L hp1.it
    clear hp1
    go_wp2_with fail
    refine (HT.out _ P1.out.bel).mono ?_
    rintro e w2 ⟨rfl, hb2⟩
    have hp2 := P1.out.more hb2
    have P2 := Lib.hid hp2
    clear hb2 q0 q1 q2 q3 r0 r1 r2
    obtain ⟨q0, q1, q2, q3⟩ := blk4' hp2.ty
    obtain ⟨r0, r1, r2⟩ := blk3L hp2.it
    clear hp2
    go_wp2_with fail
    refine (HC.out _ P2.out.bel).mono ?_
    rintro e w3 ⟨rfl, hb3⟩
    have hp3 := P2.out.more hb3
    have P3 := Lib.hid hp3
    clear hb3 q0 q1 q2 q3 r0 r1 r2
    obtain ⟨q0, q1, q2, q3⟩ := blk4' hp3.ty
    obtain ⟨r0, r1, r2⟩ := blk3L hp3.it
    clear hp3
    have hp4 := P3.out.more ((Below.refl w3.heap.size w3).alloc (Nat.le_refl _) (.cells #[.pointer none, .slice none 0 0] 119))
    obtain ⟨Q0, Q1, Q2, Q3⟩ := blk4' hp4.ty
    obtain ⟨R0, R1, R2⟩ := blk3L hp4.it
    clear hp4
    have hz3 := P3.out.bel.size
    go_wp2_with fail
    have hbn : Bld (w3.alloc (.cells #[.pointer none, .slice none 0 0] 119)) (w3.heap.size + 1) w3.heap.size [] := ⟨by omega, _, _, Blk.new w3 _ _, .inl rfl, Buf.nil _ _ _, fun _ => rfl⟩
    have hv3 : Below w.heap.size w (w3.alloc (.cells #[.pointer none, .slice none 0 0] 119)) := P3.out.bel.alloc P3.out.bel.size _
    refine (HLY.out _ hv3 w3.heap.size hbn P3.out.bel.size (by simp)).mono ?_
    rintro e w4 ⟨rfl, hb4, hk4⟩
    have HB4 := Lib.hid hb4
    have HV4 : Hid (Below w.heap.size w w4) := Lib.hid (hv3.trans (hk4.below (by omega) (by omega)))
    clear hb4 hk4 hbn hv3
    go_wp2_with fail
    refine (bldString_c w3.heap.size (w3.heap.size + 1) w4 LX HB4.out HLL.out w.heap.size (by omega)).mono ?_
    rintro e w5 ⟨rfl, hb5, _⟩
    go_wp2
    go_ret2
    exact ⟨by rw [HX.out]; rfl, HV4.out.trans hb5⟩
end Go.Proofs.YtnfpgadegpmhkaaGreatDoor
