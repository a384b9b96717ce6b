/- The document's lay. -/
import Derived.Test.YtnfpgadegpmhkaaGreatDoorKA16
import Derived.Test.YtnfpgadegpmhkaaGreatDoorKA29
import Derived.Test.YtnfpgadegpmhkaaGreatDoorKA18
import Derived.Test.YtnfpgadegpmhkaaGreatDoorKA24
import Derived.Test.YtnfpgadegpmhkaaGreatDoorKA28
set_option linter.unusedVariables false
set_option linter.unusedSimpArgs false
set_option maxRecDepth 100000
set_option maxHeartbeats 3200000
namespace Go.Proofs.YtnfpgadegpmhkaaGreatDoor
open Go.RowKit
theorem quietL {P : Program} {f : FuncId} {args : Array Value} {w : World} {v : Value} (h : Calls P f args w fun e w' => e = .returned v ∧ w = w') : Calls P f args w fun e w' => e = .returned v ∧ Below w.heap.size w w' :=
 h.mono fun e w' ⟨h1, h2⟩ => ⟨h1, h2 ▸ Below.refl _ _⟩
theorem count_in {s : List It} {k : Nat} (h : k < s.length) : s[k].count ≤ countL s := by
 have h1 := countL_take s k h
 have h2 := countL_take_le s (k + 1)
 omega
theorem refLay_c : ∀ (x : It) (B : Nat) (w : World) (c0 c1 c2 : Value), ItIn w B x c0 c1 c2 → B ≤ w.heap.size → x.right = true → ∀ (ty : Ty) (t0 t1 t2 t3 : Value), TyIn w B ty t0 t1 t2 t3 → ty.right = true → x.isOf ty = true → x.count ≤ 1024 →
 Calls Tryz.prog 54 #[.agg #[t0, t1, t2, t3], .agg #[c0, c1, c2]] w fun e w' => e = .returned (.string ⟨(x.lay ty).toArray⟩) ∧ Below w.heap.size w w' := by
 intro x
 induction x using It.ind with
 | h t l s ih =>
  intro B w c0 c1 c2 h hB hr ty t0 t1 t2 t3 hT htr hio hcx
  obtain ⟨rfl, rfl, ht, hs, A, cap, rfl, hcap, hcm, hsub⟩ := h
  have IH := Lib.hid ih
  have HS := Lib.hid hsub
  clear ih hsub
  have hlen := lay_len _ _ htr hio
  obtain ⟨k, z, tl, ta⟩ := ty
  obtain ⟨rfl, rfl, rfl, hk, hz, hta, htl, A', cap', rfl, htc, htm, htys⟩ := hT
  obtain ⟨hok, hrt⟩ := right_ok htr
  have HP0 := Lib.hid (PuW.start w #[.int .i64 k, .int .i64 z, .slice A' tl.length cap', .int .i64 ta] #[.string t, .bool l, .slice A s.length cap])
  simp only [It.isOf, Bool.and_eq_true] at hio
  obtain ⟨hi1, hi2⟩ := hio
  have HRT := Lib.hid hr
  have HTS := Lib.hid htys
  have HTR := Lib.hid hrt
  have HI2 := Lib.hid hi2
  unfold okI at hk hz hta
  clear hr htys hrt htr hi2
  rcases ok_ways hok with ⟨rfl, h3, hn, rfl⟩ | ⟨rfl, h3, h4, hn, rfl⟩ | ⟨rfl, h3, h4, hn, rfl⟩ | ⟨rfl, h3, h4, hn, rfl⟩ | ⟨rfl, rfl, h4, h5, h6⟩
  ·obtain ⟨zn, rfl⟩ : ∃ zn : Nat, z = zn := ⟨z.toNat, by omega⟩
   obtain ⟨rfl, hsz, hl0⟩ := is1_one hi1
   obtain rfl : tl = [] := List.eq_nil_of_length_eq_zero hn
   have HL : Hid ((It.mk t false s).lay (Ty.mk 1 zn [] 0) = leD (beL t.data.toList) zn) := Lib.hid (lay_one _ _ _ _ _ _)
   rw [HL.out]
   have HN := Lib.hid (fun V => refNumber_c t V (by omega))
   have hb8 := beL_lt t.data.toList
   rw [toList_size] at hb8
   have hb9 : beL t.data.toList < 2 ^ (8 * zn) := Nat.lt_of_lt_of_le hb8 (Nat.pow_le_pow_right (by omega) (by omega))
   have HB := Lib.hid (fun V => refBig_c (beL t.data.toList) zn V hb9 (by omega))
   have HT := Lib.hid (fun w' => refTurned_c ⟨((leD (beL t.data.toList) zn).reverse).toArray⟩ w' (by rw [size_of, List.length_reverse, leD_length]; omega))
   simp only [List.reverse_reverse] at HT
   generalize (leD (beL t.data.toList) zn).reverse = r at *
   generalize leD (beL t.data.toList) zn = D at *
   generalize beL t.data.toList = n at *
   clear hok IH HS HTS hi1 hb8 hb9 HL
   go_enter Tryz.func54, Tryz.ntmps54
   go_wp2_with fail
   refine wp_region_below (by kernel_rfl) (by kernel_rfl) ?_
   refine wpQuiet_run (.pointer (some ⟨w.heap.size + 1, 0, none⟩)) (by rfl) (fun w' hw' => by go_simp) ?_
   simp only [Act.put, List.setIfInBounds_toArray, List.set_cons_zero, List.set_cons_succ]
   refine wpQuiet_run (.string t) (by rfl) (fun w' hw' => by
    have hw2 := hw'
    obtain ⟨r0, r1, r2⟩ := blk3L (HP0.out.more hw2).it
    go_simp) ?_
   simp only [Act.put, List.setIfInBounds_toArray, List.set_cons_zero, List.set_cons_succ]
   refine wpQuiet_callB 84 _ _ (by rfl) (fun _ => by first | rfl | go_simp) (fun V hV => quietL (HN.out V)) ?_
   simp only [Act.put, List.setIfInBounds_toArray, List.set_cons_zero, List.set_cons_succ]
   refine wpQuiet_run (.pointer (some ⟨w.heap.size, 1, none⟩)) (by rfl) (fun w' hw' => by go_simp) ?_
   simp only [Act.put, List.setIfInBounds_toArray, List.set_cons_zero, List.set_cons_succ]
   refine wpQuiet_run (.int .i64 zn) (by rfl) (fun w' hw' => by
    have hw2 := hw'
    obtain ⟨r0, r1, r2, r3⟩ := blk4' (HP0.out.more hw2).ty
    go_simp) ?_
   simp only [Act.put, List.setIfInBounds_toArray, List.set_cons_zero, List.set_cons_succ]
   refine wpQuiet_callB 83 _ _ (by rfl) (fun _ => by first | rfl | go_simp) (fun V hV => HB.out V) ?_
   simp only [Act.put, List.setIfInBounds_toArray, List.set_cons_zero, List.set_cons_succ]
   refine wpQuiet_run (.tuple #[.string ⟨r.toArray⟩, .bool true]) (by rfl) (fun w' hw' => by go_simp) ?_
   simp only [Act.put, List.setIfInBounds_toArray, List.set_cons_zero, List.set_cons_succ]
   refine wpQuiet_run (.string ⟨r.toArray⟩) (by rfl) (fun w' hw' => by go_simp) ?_
   simp only [Act.put, List.setIfInBounds_toArray, List.set_cons_zero, List.set_cons_succ]
   refine wpQuiet_run (.bool true) (by rfl) (fun w' hw' => by go_simp) ?_
   simp only [Act.put, List.setIfInBounds_toArray, List.set_cons_zero, List.set_cons_succ]
   refine wpQuiet_run (.string ⟨r.toArray⟩) (by rfl) (fun w' hw' => by go_simp) ?_
   simp only [Act.put, List.setIfInBounds_toArray, List.set_cons_zero, List.set_cons_succ]
   refine wpQuiet_run (.bool true) (by rfl) (fun w' hw' => by go_simp) ?_
   simp only [Act.put, List.setIfInBounds_toArray, List.set_cons_zero, List.set_cons_succ]
   refine wpQuiet_nil ?_
   intro w2 hw2
   have HB2 : Hid (Below w.heap.size w w2) := Lib.hid (HP0.out.more hw2).bel
   clear hw2
   go_wp2_with fail
   refine (HT.out w2).mono ?_
   rintro e w' ⟨rfl, rfl⟩
   go_wp2
   go_ret
   exact ⟨rfl, HB2.out⟩
  ·obtain ⟨rfl, hsz⟩ := is1_two hi1
   obtain rfl : tl = [] := List.eq_nil_of_length_eq_zero hn
   have HL : Hid ((It.mk t false s).lay (Ty.mk 2 z [] 0) = t.data.toList) := Lib.hid (lay_two _ _ _ _ _ _)
   rw [HL.out]
   clear hok IH HS HTS hi1 HL
   go_enter Tryz.func54, Tryz.ntmps54
   go_wp2
   go_ret
   exact ⟨ret_str (bytes_of t).symm, HP0.out.bel⟩
  ·obtain ⟨rfl, hsz⟩ := is1_three hi1
   obtain rfl : tl = [] := List.eq_nil_of_length_eq_zero hn
   have HL : Hid ((⟨((It.mk t false s).lay (Ty.mk 3 z [] 0)).toArray⟩ : ByteArray) = ⟨(cpPut t.size).toArray⟩ ++ t) := Lib.hid (by rw [lay_three]; exact bytes_ext (by rw [toList_app]))
   rw [HL.out]
   have HP := Lib.hid (fun w' => refCpPut_c t.size w' (by omega))
   have e1 : IntKind.u64.wrap (t.size : Int) = t.size := IntWalk.u64_in _ (by omega)
   have hS9 : (⟨(cpPut t.size).toArray⟩ : ByteArray).size ≤ 9 := by rw [size_of]; exact (cpPut_length _).2
   generalize (⟨(cpPut t.size).toArray⟩ : ByteArray) = S at *
   have hcc : S.size + t.size ≤ 9223372036854775807 := by omega
   clear hok IH HS HTS hi1 HL
   go_enter Tryz.func54, Tryz.ntmps54
   go_wp2_with fail
   refine wp_region_below (by kernel_rfl) (by kernel_rfl) ?_
   refine wpQuiet_run (.pointer (some ⟨w.heap.size + 1, 0, none⟩)) (by rfl) (fun w' hw' => by go_simp) ?_
   simp only [Act.put, List.setIfInBounds_toArray, List.set_cons_zero, List.set_cons_succ]
   refine wpQuiet_run (.string t) (by rfl) (fun w' hw' => by
    have hw2 := hw'
    obtain ⟨r0, r1, r2⟩ := blk3L (HP0.out.more hw2).it
    go_simp) ?_
   simp only [Act.put, List.setIfInBounds_toArray, List.set_cons_zero, List.set_cons_succ]
   refine wpQuiet_run (.int .i64 t.size) (by rfl) (fun w' hw' => by go_simp) ?_
   simp only [Act.put, List.setIfInBounds_toArray, List.set_cons_zero, List.set_cons_succ]
   refine wpQuiet_run (.int .u64 t.size) (by rfl) (fun w' hw' => by go_simp) ?_
   simp only [Act.put, List.setIfInBounds_toArray, List.set_cons_zero, List.set_cons_succ]
   refine wpQuiet_callB 86 _ _ (by rfl) (fun _ => by first | rfl | go_simp) (fun V hV => HP.out V) ?_
   simp only [Act.put, List.setIfInBounds_toArray, List.set_cons_zero, List.set_cons_succ]
   refine wpQuiet_run (.pointer (some ⟨w.heap.size + 1, 0, none⟩)) (by rfl) (fun w' hw' => by go_simp) ?_
   simp only [Act.put, List.setIfInBounds_toArray, List.set_cons_zero, List.set_cons_succ]
   refine wpQuiet_run (.string t) (by rfl) (fun w' hw' => by
    have hw2 := hw'
    obtain ⟨r0, r1, r2⟩ := blk3L (HP0.out.more hw2).it
    go_simp) ?_
   simp only [Act.put, List.setIfInBounds_toArray, List.set_cons_zero, List.set_cons_succ]
   refine wpQuiet_run (.string (S ++ t)) (by rfl) (fun w' hw' => by go_simp) ?_
   simp only [Act.put, List.setIfInBounds_toArray, List.set_cons_zero, List.set_cons_succ]
   refine wpQuiet_run (.string (S ++ t)) (by rfl) (fun w' hw' => by go_simp) ?_
   simp only [Act.put, List.setIfInBounds_toArray, List.set_cons_zero, List.set_cons_succ]
   refine wpQuiet_nil ?_
   intro w2 hw2
   have HB2 : Hid (Below w.heap.size w w2) := Lib.hid (HP0.out.more hw2).bel
   clear hw2
   go_wp2
   go_ret
   exact ⟨rfl, HB2.out⟩
  ·obtain ⟨rfl, hsz⟩ := is1_four hi1
   have HNL := Lib.hid hn
   have HL : Hid ((It.mk t true s).lay (Ty.mk 4 z tl 0) = cpPut s.length ++ layL s (Ty.mk 4 z tl 0) 0) := Lib.hid (lay_four _ _ _ _ _ _)
   rw [HL.out] at hlen ⊢
   rw [List.length_append] at hlen
   have HP := Lib.hid (fun w' => refCpPut_c s.length w' (by omega))
   have e1 : IntKind.u64.wrap (s.length : Int) = s.length := IntWalk.u64_in _ (by omega)
   generalize cpPut s.length = D at *
   clear hok hi1 HL hn
   go_enter Tryz.func54, Tryz.ntmps54
   go_wp2_with fail
   refine (HP.out _).mono ?_
   rintro e w2 ⟨rfl, hb2⟩
   have HP2 := Lib.hid (HP0.out.more hb2)
   clear hb2
   go_wp2_with fail
   go_loopw [5, 8] (fun sv i wr => ∃ (kk : Nat) (S : ByteArray), kk ≤ s.length ∧ i = .int .i64 kk ∧ sv = .string S ∧ Hid (S.data.toList = D ++ layL (s.take kk) (Ty.mk 4 z tl 0) 0) ∧ Hid (PuW w #[.int .i64 4, .int .i64 z, .slice A' tl.length cap', .int .i64 0] #[.string t, .bool true, .slice A s.length cap] wr)) (fun _ i _ => s.length - (intOf i).toNat)
   case atStart => exact ⟨0, _, by omega, rfl, rfl, Lib.hid (by simp [layL]), HP2⟩
   case round =>
    obtain ⟨kk, S, hkk, rfl, rfl, HSV, HW⟩ := hrel
    obtain ⟨g0, g1, g2⟩ := blk3L HW.out.it
    have hsz3 := HW.out.siz
    by_cases hlt : kk < s.length
    ·have hbB : Below B w wr := HW.out.bel.mono hB
     have hbz := hbB.size
     obtain ⟨b1, o, d0, d1, d2, rfl, hbl, e0, e1, e2, hi⟩ := HS.out.at_ kk hlt
     simp only [Nat.zero_add] at e0 e1 e2
     replace e0 := (hbB.cell (p := ⟨b1, o + kk * 3, none⟩) hbl).trans e0
     replace e1 := (hbB.cell (p := ⟨b1, o + kk * 3 + 1, none⟩) hbl).trans e1
     replace e2 := (hbB.cell (p := ⟨b1, o + kk * 3 + 2, none⟩) hbl).trans e2
     have hjl : 0 < tl.length := (by have := HNL.out; omega)
     obtain ⟨b2, o', f0, f1, f2, f3, rfl, hbl', k0, k1, k2, k3, hti⟩ := HTS.out.at_ (0) hjl
     simp only [Nat.zero_add, Nat.zero_mul, Nat.add_zero] at k0 k1 k2 k3
     replace k0 := (hbB.cell (p := ⟨b2, _, none⟩) hbl').trans k0
     replace k1 := (hbB.cell (p := ⟨b2, _, none⟩) hbl').trans k1
     replace k2 := (hbB.cell (p := ⟨b2, _, none⟩) hbl').trans k2
     replace k3 := (hbB.cell (p := ⟨b2, _, none⟩) hbl').trans k3
     have hat : (Ty.mk 4 z tl 0).at kk = tl[0] := by show (tl[atI 4 kk]?).getD (.mk 0 0 [] 0) = tl[0]; rw [show atI 4 kk = 0 from rfl, List.getElem?_eq_getElem hjl]; rfl
     have hio := isOfL_at s (Ty.mk 4 z tl 0) 0 HI2.out kk hlt
     rw [Nat.zero_add, hat] at hio
     have htk : layL (s.take (kk + 1)) (Ty.mk 4 z tl 0) 0 = layL (s.take kk) (Ty.mk 4 z tl 0) 0 ++ s[kk].lay tl[0] := by rw [layL_take hlt, hat]
     have HTK := Lib.hid htk
     have HC : Hid (∀ V, Below wr.heap.size wr V → Calls Tryz.prog 54 #[.agg #[f0, f1, f2, f3], .agg #[d0, d1, d2]] V fun e w' => e = .returned (.string ⟨(s[kk].lay tl[0]).toArray⟩) ∧ Below V.heap.size V w') := Lib.hid (fun V hV => by
      have hV2 : Below B w V := hbB.trans (hV.mono (by omega))
      exact IH.out _ (List.getElem_mem hlt) B V d0 d1 d2 (hi.below hV2) (by have := hV.size; omega) (itright_at HRT.out kk hlt) tl[0] f0 f1 f2 f3 (hti.below hV2) (rightT_at HTR.out (0) hjl) hio (by have := count_in hlt; simp only [It.count] at hcx; omega))
     have HJL := Lib.hid hjl
     have hl1 : b1 < wr.heap.size := by omega
     have hl2 : b2 < wr.heap.size := by omega
     have HAP : Hid ((S ++ ⟨(s[kk].lay tl[0]).toArray⟩ : ByteArray).data.toList = D ++ layL (s.take (kk + 1)) (Ty.mk 4 z tl 0) 0) := Lib.hid (by rw [toList_app, HSV.out, htk, List.append_assoc]; rfl)
     generalize (⟨(s[kk].lay tl[0]).toArray⟩ : ByteArray) = LX at *
     have hcc : S.size + LX.size ≤ 9223372036854775807 := by
      have h1 := congrArg List.length HAP.out
      have h2 := layL_take_le s (kk + 1) (Ty.mk 4 z tl 0)
      rw [toList_size, size_app, List.length_append] at h1
      omega
     clear hi hti hbB hat hio htk
     go_wp2_with fail
     refine wp_region_below (by kernel_rfl) (by kernel_rfl) ?_
     refine wpQuiet_run (.string S) (by rfl) (fun w' hw' => by go_simp) ?_
     simp only [Act.put, List.setIfInBounds_toArray, List.set_cons_zero, List.set_cons_succ]
     refine wpQuiet_run (.pointer (some ⟨w.heap.size, 2, none⟩)) (by rfl) (fun w' hw' => by go_simp) ?_
     simp only [Act.put, List.setIfInBounds_toArray, List.set_cons_zero, List.set_cons_succ]
     refine wpQuiet_run (.slice (some ⟨b2, o', none⟩) tl.length cap') (by rfl) (fun w' hw' => by
      have hw2 := hw'
      obtain ⟨r0, r1, r2, r3⟩ := blk4' (HW.out.more hw2).ty
      go_simp) ?_
     simp only [Act.put, List.setIfInBounds_toArray, List.set_cons_zero, List.set_cons_succ]
     refine wpQuiet_run (.pointer (some ⟨b2, o', none⟩)) (by rfl) (fun w' hw' => by go_simp) ?_
     simp only [Act.put, List.setIfInBounds_toArray, List.set_cons_zero, List.set_cons_succ]
     refine wpQuiet_run (.agg #[f0, f1, f2, f3]) (by rfl) (fun w' hw' => by
      have hw2 := hw'
      (have u0 := (hw2.cell (p := ⟨b2, _, none⟩) hl2).trans k0; have u1 := (hw2.cell (p := ⟨b2, _, none⟩) hl2).trans k1; have u2 := (hw2.cell (p := ⟨b2, _, none⟩) hl2).trans k2; have u3 := (hw2.cell (p := ⟨b2, _, none⟩) hl2).trans k3)
      go_simp) ?_
     simp only [Act.put, List.setIfInBounds_toArray, List.set_cons_zero, List.set_cons_succ]
     refine wpQuiet_run (.pointer (some ⟨w.heap.size + 1, 2, none⟩)) (by rfl) (fun w' hw' => by go_simp) ?_
     simp only [Act.put, List.setIfInBounds_toArray, List.set_cons_zero, List.set_cons_succ]
     refine wpQuiet_run (.slice (some ⟨b1, o, none⟩) s.length cap) (by rfl) (fun w' hw' => by
      have hw2 := hw'
      obtain ⟨r0, r1, r2⟩ := blk3L (HW.out.more hw2).it
      go_simp) ?_
     simp only [Act.put, List.setIfInBounds_toArray, List.set_cons_zero, List.set_cons_succ]
     refine wpQuiet_run (.int .i64 kk) (by rfl) (fun w' hw' => by go_simp) ?_
     simp only [Act.put, List.setIfInBounds_toArray, List.set_cons_zero, List.set_cons_succ]
     refine wpQuiet_run (.pointer (some ⟨b1, o + kk * 3, none⟩)) (by rfl) (fun w' hw' => by go_simp) ?_
     simp only [Act.put, List.setIfInBounds_toArray, List.set_cons_zero, List.set_cons_succ]
     refine wpQuiet_run (.agg #[d0, d1, d2]) (by rfl) (fun w' hw' => by
      have hw2 := hw'
      (have u0 := (hw2.cell (p := ⟨b1, _, none⟩) hl1).trans e0; have u1 := (hw2.cell (p := ⟨b1, _, none⟩) hl1).trans e1; have u2 := (hw2.cell (p := ⟨b1, _, none⟩) hl1).trans e2)
      go_simp) ?_
     simp only [Act.put, List.setIfInBounds_toArray, List.set_cons_zero, List.set_cons_succ]
     refine wpQuiet_callB 54 _ _ (by rfl) (fun _ => by first | rfl | go_simp) (fun V hV => HC.out V hV) ?_
     simp only [Act.put, List.setIfInBounds_toArray, List.set_cons_zero, List.set_cons_succ]
     refine wpQuiet_run (.string (S ++ LX)) (by rfl) (fun w' hw' => by go_simp) ?_
     simp only [Act.put, List.setIfInBounds_toArray, List.set_cons_zero, List.set_cons_succ]
     refine wpQuiet_run (.string (S ++ LX)) (by rfl) (fun w' hw' => by go_simp) ?_
     simp only [Act.put, List.setIfInBounds_toArray, List.set_cons_zero, List.set_cons_succ]
     refine wpQuiet_nil ?_
     intro w5 hw5
     have HW5 := Lib.hid (HW.out.more hw5)
     clear hw5
     go_wp2
     go_roundw
     case rel => exact ⟨kk + 1, _, by omega, by go_num, rfl, HAP, HW5⟩
     case measure => simp [intOf]; omega
    ·have h1 := HSV.out
     rw [List.take_of_length_le (by omega)] at h1
     have HM := Lib.hid h1
     clear h1
     go_wp2
     go_ret
     exact ⟨ret_str (bytes_ext (by rw [HM.out]; first | done | rfl | simp)), HW.out.bel⟩
  ·obtain ⟨rfl, hsz1, hsz2⟩ := is1_five hi1
   have HL : Hid ((It.mk t true s).lay (Ty.mk 5 0 tl ta) = [] ++ layL s (Ty.mk 5 0 tl ta) 0) := Lib.hid (lay_five _ _ _ _ _ _)
   rw [HL.out] at hlen ⊢
   rw [List.length_append] at hlen
   clear hok hi1 HL
   go_enter Tryz.func54, Tryz.ntmps54
   go_wp2_with fail
   go_loopw [5, 9] (fun sv i wr => ∃ (kk : Nat) (S : ByteArray), kk ≤ s.length ∧ i = .int .i64 kk ∧ sv = .string S ∧ Hid (S.data.toList = [] ++ layL (s.take kk) (Ty.mk 5 0 tl ta) 0) ∧ Hid (PuW w #[.int .i64 5, .int .i64 0, .slice A' tl.length cap', .int .i64 ta] #[.string t, .bool true, .slice A s.length cap] wr)) (fun _ i _ => s.length - (intOf i).toNat)
   case atStart => exact ⟨0, _, by omega, rfl, rfl, Lib.hid (by simp [layL]), HP0⟩
   case round =>
    obtain ⟨kk, S, hkk, rfl, rfl, HSV, HW⟩ := hrel
    obtain ⟨g0, g1, g2⟩ := blk3L HW.out.it
    have hsz3 := HW.out.siz
    by_cases hlt : kk < s.length
    ·have hbB : Below B w wr := HW.out.bel.mono hB
     have hbz := hbB.size
     obtain ⟨b1, o, d0, d1, d2, rfl, hbl, e0, e1, e2, hi⟩ := HS.out.at_ kk hlt
     simp only [Nat.zero_add] at e0 e1 e2
     replace e0 := (hbB.cell (p := ⟨b1, o + kk * 3, none⟩) hbl).trans e0
     replace e1 := (hbB.cell (p := ⟨b1, o + kk * 3 + 1, none⟩) hbl).trans e1
     replace e2 := (hbB.cell (p := ⟨b1, o + kk * 3 + 2, none⟩) hbl).trans e2
     have hjl : kk < tl.length := (by omega)
     obtain ⟨b2, o', f0, f1, f2, f3, rfl, hbl', k0, k1, k2, k3, hti⟩ := HTS.out.at_ (kk) hjl
     simp only [Nat.zero_add, Nat.zero_mul, Nat.add_zero] at k0 k1 k2 k3
     replace k0 := (hbB.cell (p := ⟨b2, _, none⟩) hbl').trans k0
     replace k1 := (hbB.cell (p := ⟨b2, _, none⟩) hbl').trans k1
     replace k2 := (hbB.cell (p := ⟨b2, _, none⟩) hbl').trans k2
     replace k3 := (hbB.cell (p := ⟨b2, _, none⟩) hbl').trans k3
     have hat : (Ty.mk 5 0 tl ta).at kk = tl[kk] := by show (tl[atI 5 kk]?).getD (.mk 0 0 [] 0) = tl[kk]; rw [show atI 5 kk = kk from rfl, List.getElem?_eq_getElem hjl]; rfl
     have hio := isOfL_at s (Ty.mk 5 0 tl ta) 0 HI2.out kk hlt
     rw [Nat.zero_add, hat] at hio
     have htk : layL (s.take (kk + 1)) (Ty.mk 5 0 tl ta) 0 = layL (s.take kk) (Ty.mk 5 0 tl ta) 0 ++ s[kk].lay tl[kk] := by rw [layL_take hlt, hat]
     have HTK := Lib.hid htk
     have HC : Hid (∀ V, Below wr.heap.size wr V → Calls Tryz.prog 54 #[.agg #[f0, f1, f2, f3], .agg #[d0, d1, d2]] V fun e w' => e = .returned (.string ⟨(s[kk].lay tl[kk]).toArray⟩) ∧ Below V.heap.size V w') := Lib.hid (fun V hV => by
      have hV2 : Below B w V := hbB.trans (hV.mono (by omega))
      exact IH.out _ (List.getElem_mem hlt) B V d0 d1 d2 (hi.below hV2) (by have := hV.size; omega) (itright_at HRT.out kk hlt) tl[kk] f0 f1 f2 f3 (hti.below hV2) (rightT_at HTR.out (kk) hjl) hio (by have := count_in hlt; simp only [It.count] at hcx; omega))
     have HJL := Lib.hid hjl
     have hl1 : b1 < wr.heap.size := by omega
     have hl2 : b2 < wr.heap.size := by omega
     have HAP : Hid ((S ++ ⟨(s[kk].lay tl[kk]).toArray⟩ : ByteArray).data.toList = [] ++ layL (s.take (kk + 1)) (Ty.mk 5 0 tl ta) 0) := Lib.hid (by rw [toList_app, HSV.out, htk, List.append_assoc]; rfl)
     generalize (⟨(s[kk].lay tl[kk]).toArray⟩ : ByteArray) = LX at *
     have hcc : S.size + LX.size ≤ 9223372036854775807 := by
      have h1 := congrArg List.length HAP.out
      have h2 := layL_take_le s (kk + 1) (Ty.mk 5 0 tl ta)
      rw [toList_size, size_app, List.length_append] at h1
      omega
     clear hi hti hbB hat hio htk
     go_wp2_with fail
     refine wp_region_below (by kernel_rfl) (by kernel_rfl) ?_
     refine wpQuiet_run (.string S) (by rfl) (fun w' hw' => by go_simp) ?_
     simp only [Act.put, List.setIfInBounds_toArray, List.set_cons_zero, List.set_cons_succ]
     refine wpQuiet_run (.pointer (some ⟨w.heap.size, 2, none⟩)) (by rfl) (fun w' hw' => by go_simp) ?_
     simp only [Act.put, List.setIfInBounds_toArray, List.set_cons_zero, List.set_cons_succ]
     refine wpQuiet_run (.slice (some ⟨b2, o', none⟩) tl.length cap') (by rfl) (fun w' hw' => by
      have hw2 := hw'
      obtain ⟨r0, r1, r2, r3⟩ := blk4' (HW.out.more hw2).ty
      go_simp) ?_
     simp only [Act.put, List.setIfInBounds_toArray, List.set_cons_zero, List.set_cons_succ]
     refine wpQuiet_run (.int .i64 kk) (by rfl) (fun w' hw' => by go_simp) ?_
     simp only [Act.put, List.setIfInBounds_toArray, List.set_cons_zero, List.set_cons_succ]
     refine wpQuiet_run (.pointer (some ⟨b2, o' + kk * 4, none⟩)) (by rfl) (fun w' hw' => by go_simp) ?_
     simp only [Act.put, List.setIfInBounds_toArray, List.set_cons_zero, List.set_cons_succ]
     refine wpQuiet_run (.agg #[f0, f1, f2, f3]) (by rfl) (fun w' hw' => by
      have hw2 := hw'
      (have u0 := (hw2.cell (p := ⟨b2, _, none⟩) hl2).trans k0; have u1 := (hw2.cell (p := ⟨b2, _, none⟩) hl2).trans k1; have u2 := (hw2.cell (p := ⟨b2, _, none⟩) hl2).trans k2; have u3 := (hw2.cell (p := ⟨b2, _, none⟩) hl2).trans k3)
      go_simp) ?_
     simp only [Act.put, List.setIfInBounds_toArray, List.set_cons_zero, List.set_cons_succ]
     refine wpQuiet_run (.pointer (some ⟨w.heap.size + 1, 2, none⟩)) (by rfl) (fun w' hw' => by go_simp) ?_
     simp only [Act.put, List.setIfInBounds_toArray, List.set_cons_zero, List.set_cons_succ]
     refine wpQuiet_run (.slice (some ⟨b1, o, none⟩) s.length cap) (by rfl) (fun w' hw' => by
      have hw2 := hw'
      obtain ⟨r0, r1, r2⟩ := blk3L (HW.out.more hw2).it
      go_simp) ?_
     simp only [Act.put, List.setIfInBounds_toArray, List.set_cons_zero, List.set_cons_succ]
     refine wpQuiet_run (.int .i64 kk) (by rfl) (fun w' hw' => by go_simp) ?_
     simp only [Act.put, List.setIfInBounds_toArray, List.set_cons_zero, List.set_cons_succ]
     refine wpQuiet_run (.pointer (some ⟨b1, o + kk * 3, none⟩)) (by rfl) (fun w' hw' => by go_simp) ?_
     simp only [Act.put, List.setIfInBounds_toArray, List.set_cons_zero, List.set_cons_succ]
     refine wpQuiet_run (.agg #[d0, d1, d2]) (by rfl) (fun w' hw' => by
      have hw2 := hw'
      (have u0 := (hw2.cell (p := ⟨b1, _, none⟩) hl1).trans e0; have u1 := (hw2.cell (p := ⟨b1, _, none⟩) hl1).trans e1; have u2 := (hw2.cell (p := ⟨b1, _, none⟩) hl1).trans e2)
      go_simp) ?_
     simp only [Act.put, List.setIfInBounds_toArray, List.set_cons_zero, List.set_cons_succ]
     refine wpQuiet_callB 54 _ _ (by rfl) (fun _ => by first | rfl | go_simp) (fun V hV => HC.out V hV) ?_
     simp only [Act.put, List.setIfInBounds_toArray, List.set_cons_zero, List.set_cons_succ]
     refine wpQuiet_run (.string (S ++ LX)) (by rfl) (fun w' hw' => by go_simp) ?_
     simp only [Act.put, List.setIfInBounds_toArray, List.set_cons_zero, List.set_cons_succ]
     refine wpQuiet_run (.string (S ++ LX)) (by rfl) (fun w' hw' => by go_simp) ?_
     simp only [Act.put, List.setIfInBounds_toArray, List.set_cons_zero, List.set_cons_succ]
     refine wpQuiet_nil ?_
     intro w5 hw5
     have HW5 := Lib.hid (HW.out.more hw5)
     clear hw5
     go_wp2
     go_roundw
     case rel => exact ⟨kk + 1, _, by omega, by go_num, rfl, HAP, HW5⟩
     case measure => simp [intOf]; omega
    ·have h1 := HSV.out
     rw [List.take_of_length_le (by omega)] at h1
     have HM := Lib.hid h1
     clear h1
     go_wp2
     go_ret
     exact ⟨ret_str (bytes_ext (by rw [HM.out]; first | done | rfl | simp)), HW.out.bel⟩
theorem refLyPut_c (ty : Ty) (x : It) (M : Int) (B : Nat) (w : World) (t0 t1 t2 t3 c0 c1 c2 : Value) (hT : TyIn w B ty t0 t1 t2 t3) (hI : ItIn w B x c0 c1 c2) (hB : B ≤ w.heap.size) (hct : ty.count ≤ 4611686018427387904) (hcx : x.count ≤ 4611686018427387904) :
 Calls Tryz.prog 35 #[.agg #[t0, t1, t2, t3], .agg #[c0, c1, c2], .int .i64 M] w fun e w' => e = .returned (.tuple #[.string (lyPut ty x M).1, .int .i64 (lyPut ty x M).2]) ∧ Below w.heap.size w w' := by
 have HF := Lib.hid (fun V (hV : Below w.heap.size w V) => refFlat_c ty B V t0 t1 t2 t3 (hT.below (hV.mono hB)) (by have := hV.size; omega) hct)
 have HT := Lib.hid (fun V (hV : Below w.heap.size w V) => refFits_c ty x B V t0 t1 t2 t3 c0 c1 c2 (hT.below (hV.mono hB)) (hI.below (hV.mono hB)) (by have := hV.size; omega) hct hcx)
 obtain ⟨E, hE⟩ : ∃ E, lyPutE ty x M = E := ⟨_, rfl⟩
 obtain ⟨P, hP⟩ : ∃ P, lyPut ty x M = P := ⟨_, rfl⟩
 have hPE : P = if E = 0 then (⟨(x.lay ty).toArray⟩, 0) else (⟨#[]⟩, E) := by rw [← hP, ← hE]; rfl
 rw [hP]
 unfold lyPutE at hE
 obtain ⟨A, cap, et0, et1, et2, et3, _⟩ := hT.open_
 obtain ⟨A', cap', ec0, ec1, ec2, _⟩ := hI.open_
 cases hf : ty.flat with
 | false =>
  rw [hf] at HF
  rw [if_pos hf] at hE
  have HX : Hid (P = (⟨#[]⟩, 1)) := Lib.hid (by rw [hPE, if_neg (by omega), ← hE])
  clear hE hP hPE hf hT hI HT
  subst et0 et1 et2 et3 ec0 ec1 ec2
  generalize ty.kind = ki at *
  generalize ty.size = si at *
  generalize ty.tail = ta at *
  generalize ty.sub.length = tn at *
  generalize x.text = xt at *
  generalize x.list = xl at *
  generalize x.sub.length = xn at *
  go_enter Tryz.func35, Tryz.ntmps35
  go_wp2_with fail
  refine (HF.out _ (PuW.start w _ _).bel).mono ?_
  rintro e w1 ⟨rfl, hb1⟩
  have hp1 := (PuW.start w _ _).more hb1
  have P1 := Lib.hid hp1
  clear hb1
  obtain ⟨q0, q1, q2, q3⟩ := blk4' hp1.ty
  obtain ⟨r0, r1, r2⟩ := blk3L hp1.it
  clear hp1
  go_wp2
  go_ret2
  exact ⟨by rw [HX.out]; rfl, P1.out.bel⟩
 | true =>
  rw [hf] at HF
  rw [if_neg (by simp [hf])] at hE
  by_cases hft : fitE ty x ≠ 0
  ·rw [if_pos hft] at hE
   have e1 : (fitE ty x != 0) = true := bne_iff_ne.2 hft
   have HX : Hid (P = (⟨#[]⟩, fitE ty x)) := Lib.hid (by rw [hPE, if_neg (by rw [← hE]; exact hft), ← hE])
   clear hE hP hPE hf hT hI
   generalize fitE ty x = F at *
   subst et0 et1 et2 et3 ec0 ec1 ec2
   generalize ty.kind = ki at *
   generalize ty.size = si at *
   generalize ty.tail = ta at *
   generalize ty.sub.length = tn at *
   generalize x.text = xt at *
   generalize x.list = xl at *
   generalize x.sub.length = xn at *
   go_enter Tryz.func35, Tryz.ntmps35
   go_wp2_with fail
   refine (HF.out _ (PuW.start w _ _).bel).mono ?_
   rintro e w1 ⟨rfl, hb1⟩
   have hp1 := (PuW.start w _ _).more hb1
   have P1 := Lib.hid hp1
   clear hb1
   obtain ⟨q0, q1, q2, q3⟩ := blk4' hp1.ty
   obtain ⟨r0, r1, r2⟩ := blk3L hp1.it
   clear hp1
   go_wp2_with fail
   refine (HT.out _ P1.out.bel).mono ?_
   rintro e w2 ⟨rfl, hb2⟩
   have hp2 := P1.out.more hb2
   have P2 := Lib.hid hp2
   clear hb2 q0 q1 q2 q3 r0 r1 r2
   obtain ⟨q0, q1, q2, q3⟩ := blk4' hp2.ty
   obtain ⟨r0, r1, r2⟩ := blk3L hp2.it
   clear hp2
   go_wp2
   go_ret2
   exact ⟨by rw [HX.out]; rfl, P2.out.bel⟩
  ·rw [if_neg hft] at hE
   have hft0 : fitE ty x = 0 := Decidable.not_not.1 hft
   rw [hft0] at HT
   obtain ⟨_, htr, _, _, hfl⟩ := flat_parts hf
   obtain ⟨_, hxm, hio⟩ := fit_parts hft0
   obtain ⟨hxr, _, hxc⟩ := mayIt_parts hxm
   have HC := Lib.hid (fun V (hV : Below w.heap.size w V) => refCount_c x B V c0 c1 c2 (hI.below (hV.mono hB)) (by have := hV.size; omega) hcx)
   by_cases hM : M < x.count
   ·rw [if_pos hM] at hE
    have d1 : decide (M < (x.count : Int)) = true := decide_eq_true hM
    have HX : Hid (P = (⟨#[]⟩, 4)) := Lib.hid (by rw [hPE, if_neg (by omega), ← hE])
    clear hE hP hPE hf hT hI hft
    generalize x.count = xc at *
    subst et0 et1 et2 et3 ec0 ec1 ec2
    generalize ty.kind = ki at *
    generalize ty.size = si at *
    generalize ty.tail = ta at *
    generalize ty.sub.length = tn at *
    generalize x.text = xt at *
    generalize x.list = xl at *
    generalize x.sub.length = xn at *
    go_enter Tryz.func35, Tryz.ntmps35
    go_wp2_with fail
    refine (HF.out _ (PuW.start w _ _).bel).mono ?_
    rintro e w1 ⟨rfl, hb1⟩
    have hp1 := (PuW.start w _ _).more hb1
    have P1 := Lib.hid hp1
    clear hb1
    obtain ⟨q0, q1, q2, q3⟩ := blk4' hp1.ty
    obtain ⟨r0, r1, r2⟩ := blk3L hp1.it
    clear hp1
    go_wp2_with fail
    refine (HT.out _ P1.out.bel).mono ?_
    rintro e w2 ⟨rfl, hb2⟩
    have hp2 := P1.out.more hb2
    have P2 := Lib.hid hp2
    clear hb2 q0 q1 q2 q3 r0 r1 r2
    obtain ⟨q0, q1, q2, q3⟩ := blk4' hp2.ty
    obtain ⟨r0, r1, r2⟩ := blk3L hp2.it
    clear hp2
    go_wp2_with fail
    refine (HC.out _ P2.out.bel).mono ?_
    rintro e w3 ⟨rfl, hb3⟩
    have hp3 := P2.out.more hb3
    have P3 := Lib.hid hp3
    clear hb3 q0 q1 q2 q3 r0 r1 r2
    obtain ⟨q0, q1, q2, q3⟩ := blk4' hp3.ty
    obtain ⟨r0, r1, r2⟩ := blk3L hp3.it
    clear hp3
    go_wp2
    go_ret2
    exact ⟨by rw [HX.out]; rfl, P3.out.bel⟩
   ·rw [if_neg hM] at hE
    have d1 : decide (M < (x.count : Int)) = false := decide_eq_false hM
    have HX : Hid (P = (⟨(x.lay ty).toArray⟩, 0)) := Lib.hid (by rw [hPE, if_pos (by omega)])
    have HLY := Lib.hid (fun V (hV : Below w.heap.size w V) => refLay_c x B V c0 c1 c2 (hI.below (hV.mono hB)) (by have := hV.size; omega) hxr ty t0 t1 t2 t3 (hT.below (hV.mono hB)) htr hio hxc)
    clear hE hP hPE hf hT hI hft
    generalize (⟨(x.lay ty).toArray⟩ : ByteArray) = LX at *
    generalize x.count = xc at *
    subst et0 et1 et2 et3 ec0 ec1 ec2
    generalize ty.kind = ki at *
    generalize ty.size = si at *
    generalize ty.tail = ta at *
    generalize ty.sub.length = tn at *
    generalize x.text = xt at *
    generalize x.list = xl at *
    generalize x.sub.length = xn at *
    go_enter Tryz.func35, Tryz.ntmps35
    go_wp2_with fail
    refine (HF.out _ (PuW.start w _ _).bel).mono ?_
    rintro e w1 ⟨rfl, hb1⟩
    have hp1 := (PuW.start w _ _).more hb1
    have P1 := Lib.hid hp1
    clear hb1
    obtain ⟨q0, q1, q2, q3⟩ := blk4' hp1.ty
    obtain ⟨r0, r1, r2⟩ := blk3L hp1.it
    clear hp1
    go_wp2_with fail
    refine (HT.out _ P1.out.bel).mono ?_
    rintro e w2 ⟨rfl, hb2⟩
    have hp2 := P1.out.more hb2
    have P2 := Lib.hid hp2
    clear hb2 q0 q1 q2 q3 r0 r1 r2
    obtain ⟨q0, q1, q2, q3⟩ := blk4' hp2.ty
    obtain ⟨r0, r1, r2⟩ := blk3L hp2.it
    clear hp2
    go_wp2_with fail
    refine (HC.out _ P2.out.bel).mono ?_
    rintro e w3 ⟨rfl, hb3⟩
    have hp3 := P2.out.more hb3
    have P3 := Lib.hid hp3
    clear hb3 q0 q1 q2 q3 r0 r1 r2
    obtain ⟨q0, q1, q2, q3⟩ := blk4' hp3.ty
    obtain ⟨r0, r1, r2⟩ := blk3L hp3.it
    clear hp3
    go_wp2_with fail
    refine (HLY.out w3 P3.out.bel).mono ?_
    rintro e w4 ⟨rfl, hb4⟩
    have HB4 := Lib.hid (P3.out.more hb4).bel
    clear hb4
    go_wp2
    go_ret2
    exact ⟨by rw [HX.out]; rfl, HB4.out⟩
end Go.Proofs.YtnfpgadegpmhkaaGreatDoor
