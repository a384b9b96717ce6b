/- The document's read of an item's bytes tells rdItem. -/
import Derived.Test.YtnfpgadegpmhkaaGreatDoorKA3
import Derived.Test.YtnfpgadegpmhkaaGreatDoorKA6
import Derived.Test.YtnfpgadegpmhkaaGreatDoorKA2
import Derived.Deep.LoopGhost
import Derived.Deep.DeepCutAuto
set_option linter.unusedVariables false
set_option linter.unusedSimpArgs false
set_option maxRecDepth 100000
set_option maxHeartbeats 4000000
namespace Go.Proofs.YtnfpgadegpmhkaaGreatDoor
open Go.RowKit
def tailH (s : ByteArray) (l : Bool) (at_ n : Nat) : Bool × Nat × Nat × Int :=
 if s.size < at_ + n then (false, 0, 0, 2) else if l = false ∧ n = 1 ∧ (s.data.toList.getD at_ 0).toNat < 128 then (false, 0, 0, 3) else (l, at_, n, 0)
theorem hdR_low (s : ByteArray) (b : Nat) (hb : (s.data.toList.getD 0 0).toNat = b) (h : b < 128) : hdR s = (false, 0, 1, 0) := by
 unfold hdR; dsimp only; rw [hb, if_pos h]
theorem hdR_mid (s : ByteArray) (b : Nat) (hb : (s.data.toList.getD 0 0).toNat = b) (h : ¬ b < 128) (l : Bool) (hl : decide (192 ≤ b) = l) (t : Nat) (ht : (if 192 ≤ b then b - 192 else b - 128) = t) :
 hdR s = if t ≤ 55 then tailH s l 1 t else if s.size < 1 + (t - 55) then (false, 0, 0, 2) else if (s.data.toList.getD 1 0).toNat = 0 ∨ beL (s.extract 1 (1 + (t - 55))).data.toList ≤ 55 then (false, 0, 0, 3)
  else if s.size < 1 + (t - 55) + beL (s.extract 1 (1 + (t - 55))).data.toList then (false, 0, 0, 2) else (l, 1 + (t - 55), beL (s.extract 1 (1 + (t - 55))).data.toList, 0) := by
 unfold hdR tailH; dsimp only
 rw [hb, if_neg h, hl, ht]
 by_cases h1 : t ≤ 55
 ·simp only [if_pos h1]
 ·simp only [if_neg h1]
theorem tailH_long (s : ByteArray) (l : Bool) (at_ n : Nat) (h : 55 < n) : tailH s l at_ n = if s.size < at_ + n then (false, 0, 0, 2) else (l, at_, n, 0) := by
 unfold tailH
 split
 ·rfl
 ·rw [if_neg (by omega)]
theorem hd_go (s : ByteArray) (d m : Bool) (h0 : s.size ≠ 0) (hd_ : d = false) (hm : m = false) : hd s d m = hdR s := by
 subst hd_; subst hm
 unfold hd
 rw [if_neg h0]; simp
def lstR (D M : Int) (deep ahead sz : Nat) (acc : List It) (cnt : Nat) (cur : ByteArray) : Rd :=
 if (rdSeq D M cur deep (ahead + cnt)).e ≠ 0 then Rd.bad (rdSeq D M cur deep (ahead + cnt)).e else ⟨.mk ByteArray.empty true (acc ++ (rdSeq D M cur deep (ahead + cnt)).xs), sz, 1 + (cnt + (rdSeq D M cur deep (ahead + cnt)).items), 0⟩
theorem lstR_end (D M : Int) (deep ahead sz : Nat) (acc : List It) (cnt : Nat) (cur : ByteArray) (h : cur.size = 0) : lstR D M deep ahead sz acc cnt cur = ⟨.mk ByteArray.empty true acc, sz, 1 + cnt, 0⟩ := by
 unfold lstR
 rw [rdSeq_nil _ _ _ _ _ h]
 simp
theorem lstR_bad (D M : Int) (deep ahead sz : Nat) (acc : List It) (cnt : Nat) (cur : ByteArray) (h : cur.size ≠ 0) (he : (rdItem D M cur deep (ahead + cnt)).e ≠ 0) : lstR D M deep ahead sz acc cnt cur = Rd.bad (within (rdItem D M cur deep (ahead + cnt)).e) := by
 unfold lstR
 rw [rdSeq_cons _ _ _ _ _ h _ rfl, if_pos he]
 have hw : within (rdItem D M cur deep (ahead + cnt)).e ≠ 0 := by unfold within; split <;> simp_all
 rw [if_pos (by exact hw)]; rfl
theorem lstR_next (D M : Int) (deep ahead sz : Nat) (acc : List It) (cnt : Nat) (cur : ByteArray) (h : cur.size ≠ 0) (R : Rd) (hR : rdItem D M cur deep (ahead + cnt) = R) (he : R.e = 0) : lstR D M deep ahead sz acc cnt cur = lstR D M deep ahead sz (acc ++ [R.x]) (cnt + R.items) (cur.extract R.size cur.size) := by
 unfold lstR
 have e1 := rdSeq_cons D M cur deep (ahead + cnt) h R hR
 rw [if_neg (show ¬ R.e ≠ 0 by simp [he])] at e1
 rw [show ahead + (cnt + R.items) = ahead + cnt + R.items from by omega, e1]
 generalize rdSeq D M (cur.extract R.size cur.size) deep (ahead + cnt + R.items) = S
 by_cases h2 : S.e ≠ 0
 ·rw [if_pos h2, if_pos (show (Rds.bad S.e).e ≠ 0 from h2), if_pos h2]; rfl
 ·rw [if_neg h2, if_neg h2, if_neg (by simp)]
  simp [Nat.add_assoc]
theorem rdItem_bd (D M : Int) (s : ByteArray) (deep ahead : Nat) (h : (rdItem D M s deep ahead).e = 0) : ahead + (rdItem D M s deep ahead).items ≤ 1024 ∧ 1 ≤ (rdItem D M s deep ahead).items ∧ 1 ≤ (rdItem D M s deep ahead).size ∧ (rdItem D M s deep ahead).size ≤ s.size := by
 have hb := (rd_back D M s.size).1 s deep ahead (Nat.le_refl _) h
 have h1 := hb.items
 have h2 := hb.many
 have h3 := count_pos (rdItem D M s deep ahead).x
 have h4 := rdI_size D M (2 * s.size + 2) s deep ahead h
 exact ⟨by omega, by omega, h4⟩
def GotEnd (w w' : World) (R : Rd) (e : Ending) : Prop :=
 Below w.heap.size w w' ∧ ∃ c0 c1 c2, e = .returned (.agg #[c0, c1, c2, .int .i64 R.size, .int .i64 R.items, .int .i64 R.e]) ∧ ItS w' (w.heap.size ≤ ·) R.x c0 c1 c2
theorem blk6r {w : World} {g : Nat} {t : TypeId} {a b c d e f : Value} (h : Blk w g t #[a, b, c, d, e, f]) : w.cell? ⟨g, 0, none⟩ = some a ∧ w.cell? ⟨g, 1, none⟩ = some b ∧ w.cell? ⟨g, 2, none⟩ = some c ∧ w.cell? ⟨g, 3, none⟩ = some d ∧ w.cell? ⟨g, 4, none⟩ = some e ∧ w.cell? ⟨g, 5, none⟩ = some f ∧
 w.frozen? ⟨g, 0, none⟩ = false ∧ w.frozen? ⟨g, 1, none⟩ = false ∧ w.frozen? ⟨g, 2, none⟩ = false ∧ w.frozen? ⟨g, 3, none⟩ = false ∧ w.frozen? ⟨g, 4, none⟩ = false ∧ w.frozen? ⟨g, 5, none⟩ = false :=
 ⟨h.cell 0, h.cell 1, h.cell 2, h.cell 3, h.cell 4, h.cell 5, h.frozen 0, h.frozen 1, h.frozen 2, h.frozen 3, h.frozen 4, h.frozen 5⟩
theorem put6 {w : World} {g : Nat} {t : TypeId} {z0 z1 z2 z3 z4 z5 : Value} (h : Blk w g t #[z0, z1, z2, z3, z4, z5]) (v0 v1 v2 v3 v4 v5 : Value) :
 Blk ((((((w.setCell ⟨g, 0, none⟩ v0).setCell ⟨g, 1, none⟩ v1).setCell ⟨g, 2, none⟩ v2).setCell ⟨g, 3, none⟩ v3).setCell ⟨g, 4, none⟩ v4).setCell ⟨g, 5, none⟩ v5) g t #[v0, v1, v2, v3, v4, v5] := (((((h.set 0 v0).set 1 v1).set 2 v2).set 3 v3).set 4 v4).set 5 v5
theorem refRead_c (D M : Int) : ∀ (z : Nat) (s : ByteArray) (deep ahead : Nat) (w : World), s.size = z → s.size ≤ 4611686018427387904 → deep ≤ 17 → ahead ≤ 1024 →
 Calls Tryz.prog 123 #[.string s, .int .i64 deep, .int .i64 ahead, .int .i64 D, .int .i64 M] w fun e w' => GotEnd w w' (rdItem D M s deep ahead) e := by
 intro z
 induction z using Nat.strongRecOn with
 | ind z ih =>
  intro s deep ahead w hz hs hd17 ha
  have IH := Lib.hid ih
  have HEQ := Lib.hid (fun H hH => rdItem_eq D M s deep ahead H hH)
  generalize rdItem D M s deep ahead = R at *
  clear ih
  rcases empty_ways s with ⟨hz0, rfl⟩ | ⟨hz0, hz1, hz2⟩
  ·have HE : Hid (R = Rd.bad 2) := Lib.hid (by rw [HEQ.out (false, 0, 0, 2) (by simp [hd, ByteArray.size])]; simp)
   clear HEQ hz
   go_enter Tryz.func123, Tryz.ntmps123
   go_wp2
   refine bodyPost_ret (v := .agg #[.string ⟨#[]⟩, .bool false, .slice none 0 0, .int .i64 0, .int .i64 0, .int .i64 2]) (by simp [results, Tryz.results123, go_sem]) rfl ?_
   rw [HE.out]
   exact ⟨blw, _, _, _, rfl, ItS.text false (by simp [ByteArray.size])⟩
  have hs0 : s.size ≠ 0 := by omega
  by_cases hd1 : D < deep
  ·have HE : Hid (R = Rd.bad 6) := Lib.hid (by rw [HEQ.out (false, 0, 0, 6) (by simp [hd, hs0, tooDeep, hd1])]; simp)
   clear HEQ hz
   go_enter Tryz.func123, Tryz.ntmps123
   go_wp2
   refine bodyPost_ret (v := .agg #[.string ⟨#[]⟩, .bool false, .slice none 0 0, .int .i64 0, .int .i64 0, .int .i64 6]) (by simp [results, Tryz.results123, go_sem]) rfl ?_
   rw [HE.out]
   exact ⟨blw, _, _, _, rfl, ItS.text false (by simp [ByteArray.size])⟩
  by_cases hd2 : 16 < deep
  ·have HE : Hid (R = Rd.bad 6) := Lib.hid (by rw [HEQ.out (false, 0, 0, 6) (by simp [hd, hs0, tooDeep, hd2])]; simp)
   clear HEQ hz
   go_enter Tryz.func123, Tryz.ntmps123
   go_wp2
   refine bodyPost_ret (v := .agg #[.string ⟨#[]⟩, .bool false, .slice none 0 0, .int .i64 0, .int .i64 0, .int .i64 6]) (by simp [results, Tryz.results123, go_sem]) rfl ?_
   rw [HE.out]
   exact ⟨blw, _, _, _, rfl, ItS.text false (by simp [ByteArray.size])⟩
  have HTD : Hid (tooDeep D deep = false) := Lib.hid (by simp [tooDeep]; omega)
  by_cases hm1 : M < (ahead : Int) + 1
  ·have HE : Hid (R = Rd.bad 4) := Lib.hid (by rw [HEQ.out (false, 0, 0, 4) (by simp [hd, hs0, HTD.out, tooMany, hm1])]; simp)
   clear HEQ hz
   go_enter Tryz.func123, Tryz.ntmps123
   go_wp2
   refine bodyPost_ret (v := .agg #[.string ⟨#[]⟩, .bool false, .slice none 0 0, .int .i64 0, .int .i64 0, .int .i64 4]) (by simp [results, Tryz.results123, go_sem]) rfl ?_
   rw [HE.out]
   exact ⟨blw, _, _, _, rfl, ItS.text false (by simp [ByteArray.size])⟩
  by_cases hm2 : 1024 < ahead + 1
  ·have HE : Hid (R = Rd.bad 4) := Lib.hid (by rw [HEQ.out (false, 0, 0, 4) (by simp [hd, hs0, HTD.out, tooMany]; omega)]; simp)
   clear HEQ hz
   go_enter Tryz.func123, Tryz.ntmps123
   go_wp2
   refine bodyPost_ret (v := .agg #[.string ⟨#[]⟩, .bool false, .slice none 0 0, .int .i64 0, .int .i64 0, .int .i64 4]) (by simp [results, Tryz.results123, go_sem]) rfl ?_
   rw [HE.out]
   exact ⟨blw, _, _, _, rfl, ItS.text false (by simp [ByteArray.size])⟩
  have HTM : Hid (tooMany M ahead = false) := Lib.hid (by simp [tooMany]; omega)
  have HEQ2 : Hid (∀ H, hdR s = H → R = _) := Lib.hid (fun H hH => HEQ.out H (by rw [hd_go s _ _ hs0 HTD.out HTM.out]; exact hH))
  clear HEQ
  have hsp : 0 < s.size := by omega
  obtain ⟨b, hb⟩ : ∃ b, s[0].toNat = b := ⟨_, rfl⟩
  have hb256 : b < 256 := by rw [← hb]; exact s[0].toNat_lt
  have HBD : Hid ((s.data.toList.getD 0 0).toNat = b) := Lib.hid (by rw [List.getD_eq_getElem?_getD, byte_at s 0 hsp]; exact hb)
  by_cases hlow : b < 128
  ·have HE : Hid (R = ⟨.mk (s.extract 0 1) false [], 1, 1, 0⟩) := Lib.hid (by rw [HEQ2.out _ (hdR_low s b HBD.out hlow)]; simp)
   clear HEQ2 hz
   go_enter Tryz.func123, Tryz.ntmps123
   go_wp2
   refine bodyPost_ret (v := .agg #[.string (s.extract 0 1), .bool false, .slice none 0 0, .int .i64 1, .int .i64 1, .int .i64 0]) (by simp [results, Tryz.results123, go_sem]) rfl ?_
   rw [HE.out]
   exact ⟨blw, _, _, _, rfl, ItS.text false (by rw [size_cut _ _ _ (by omega)]; omega)⟩
  by_cases h192 : 192 ≤ b
  ·obtain ⟨t, ht⟩ : ∃ t, b - 192 = t := ⟨_, rfl⟩
   have HMID := Lib.hid (hdR_mid s b HBD.out hlow true (by simp [h192]) t (by rw [if_pos h192]; exact ht))
   have e1 : (b : Int) - 192 = (t : Int) := by omega
   have ht63 : t ≤ 63 := by omega
   clear ht
   go_enter Tryz.func123, Tryz.ntmps123
   go_upto_if 56 with fail
   go_cut [13, 14] (fun vn va wx => ∃ n at_ : Nat, vn = .int .i64 n ∧ va = .int .i64 at_ ∧ wx = w.alloc (.cells #[.string ⟨#[]⟩, .bool false, .slice none 0 0, .int .i64 0, .int .i64 0, .int .i64 0] 130) ∧ Hid (hdR s = tailH s true at_ n) ∧ Hid (1 ≤ at_ ∧ at_ ≤ s.size ∧ n ≤ 4611686018427387959))
   case first =>
    by_cases ht55 : t ≤ 55
    ·have HX : Hid (hdR s = tailH s true 1 t) := Lib.hid (by rw [HMID.out, if_pos ht55])
     clear HMID
     go_wp2_with fail
     go_meet
     case rel => exact ⟨t, 1, rfl, rfl, rfl, HX, Lib.hid (by omega)⟩
    ·obtain ⟨k, rfl⟩ : ∃ k, t = 55 + k := ⟨t - 55, by omega⟩
     have hM := HMID.out
     rw [if_neg ht55, show 55 + k - 55 = k from by omega] at hM
     have e2 : (55 : Int) + (k : Int) - 55 = k := by omega
     by_cases h1 : s.size < 1 + k
     ·have HE : Hid (R = Rd.bad 2) := Lib.hid (by rw [HEQ2.out _ (hM.trans (if_pos h1))]; simp)
      clear HMID HEQ2 hM hz
      go_wp2
      refine bodyPost_ret (v := .agg #[.string ⟨#[]⟩, .bool false, .slice none 0 0, .int .i64 0, .int .i64 0, .int .i64 2]) (by simp [results, Tryz.results123, go_sem]) rfl ?_
      rw [HE.out]
      exact ⟨blw, _, _, _, rfl, ItS.text false (by simp [ByteArray.size])⟩
     rw [if_neg h1] at hM
     have h1s : 1 < s.size := by omega
     have hg1 : s.data.toList.getD 1 0 = s[1] := by rw [List.getD_eq_getElem?_getD, byte_at s 1 h1s]; rfl
     rw [hg1] at hM
     have hxz : (s.extract 1 (1 + k)).size = k := by rw [size_cut _ _ _ (by omega)]; omega
     have HNU := Lib.hid (fun w => refNumber_c (s.extract 1 (1 + k)) w (by omega))
     obtain ⟨m, hm⟩ : ∃ m, beL (s.extract 1 (1 + k)).data.toList = m := ⟨_, rfl⟩
     rw [hm] at HNU hM
     have hm64 : m < 18446744073709551616 := by
      have h2 := beL_lt (s.extract 1 (1 + k)).data.toList
      rw [toList_size, hxz, hm] at h2
      have h3 : 2 ^ (8 * k) ≤ 2 ^ (8 * 8) := Nat.pow_le_pow_right (by omega) (by omega)
      exact Nat.lt_of_lt_of_le h2 h3
     obtain ⟨c, hc⟩ : ∃ c, s[1].toNat = c := ⟨_, rfl⟩
     rw [hc] at hM
     clear hg1 hxz hm HMID
     by_cases h0 : c = 0
     ·subst h0
      have HE : Hid (R = Rd.bad 3) := Lib.hid (by rw [HEQ2.out _ (hM.trans (if_pos (.inl rfl)))]; simp)
      clear HEQ2 hM hz
      go_wp2_with fail
      refine (HNU.out _).mono ?_
      rintro e w' ⟨rfl, rfl⟩
      go_wp2
      refine bodyPost_ret (v := .agg #[.string ⟨#[]⟩, .bool false, .slice none 0 0, .int .i64 0, .int .i64 0, .int .i64 3]) (by simp [results, Tryz.results123, go_sem]) rfl ?_
      rw [HE.out]
      exact ⟨blw, _, _, _, rfl, ItS.text false (by simp [ByteArray.size])⟩
     have k0 : ((c : Int) == 0) = false := beq_eq_false_iff_ne.2 (by omega)
     have k1 : (c == 0) = false := beq_eq_false_iff_ne.2 h0
     by_cases h56 : m < 56
     ·have HE : Hid (R = Rd.bad 3) := Lib.hid (by rw [HEQ2.out _ (hM.trans (if_pos (.inr (by omega))))]; simp)
      clear HEQ2 hM hz
      go_wp2_with fail
      refine (HNU.out _).mono ?_
      rintro e w' ⟨rfl, rfl⟩
      go_wp2
      refine bodyPost_ret (v := .agg #[.string ⟨#[]⟩, .bool false, .slice none 0 0, .int .i64 0, .int .i64 0, .int .i64 3]) (by simp [results, Tryz.results123, go_sem]) rfl ?_
      rw [HE.out]
      exact ⟨blw, _, _, _, rfl, ItS.text false (by simp [ByteArray.size])⟩
     rw [if_neg (by omega)] at hM
     by_cases hb2 : s.size < 1 + k + m
     ·have HE : Hid (R = Rd.bad 2) := Lib.hid (by rw [HEQ2.out _ (hM.trans (if_pos hb2))]; simp)
      clear HEQ2 hM hz
      go_wp2_with fail
      refine (HNU.out _).mono ?_
      rintro e w' ⟨rfl, rfl⟩
      go_wp2
      refine bodyPost_ret (v := .agg #[.string ⟨#[]⟩, .bool false, .slice none 0 0, .int .i64 0, .int .i64 0, .int .i64 2]) (by simp [results, Tryz.results123, go_sem]) rfl ?_
      rw [HE.out]
      exact ⟨blw, _, _, _, rfl, ItS.text false (by simp [ByteArray.size])⟩
     ·have HX : Hid (hdR s = tailH s true (1 + k) m) := Lib.hid (by rw [tailH_long _ _ _ _ (by omega)]; exact hM)
      clear HEQ2 hM hz
      go_wp2_with fail
      refine (HNU.out _).mono ?_
      rintro e w' ⟨rfl, rfl⟩
      go_wp2_with fail
      go_meet
      case rel => exact ⟨m, 1 + k, rfl, by go_num, rfl, HX, Lib.hid (by omega)⟩
   case rest =>
    obtain ⟨n, at_, rfl, rfl, rfl, HX, HB2⟩ := hcut
    obtain ⟨ha1, ha2, hn1⟩ := HB2.out
    clear HMID e1 ht63
    by_cases h1 : s.size < at_ + n
    ·have HE : Hid (R = Rd.bad 2) := Lib.hid (by rw [HEQ2.out _ (HX.out.trans (by unfold tailH; rw [if_pos h1]))]; simp)
     clear HEQ2 hz
     go_wp2
     refine bodyPost_ret (v := .agg #[.string ⟨#[]⟩, .bool false, .slice none 0 0, .int .i64 0, .int .i64 0, .int .i64 2]) (by simp [results, Tryz.results123, go_sem]) rfl ?_
     rw [HE.out]
     exact ⟨blw, _, _, _, rfl, ItS.text false (by simp [ByteArray.size])⟩
    ·obtain ⟨inn, hin⟩ : ∃ inn, s.extract at_ (at_ + n) = inn := ⟨_, rfl⟩
     have hinz : inn.size = n := by rw [← hin, size_cut _ _ _ (by omega)]; omega
     have HL : Hid (lstR D M (deep + 1) (ahead + 1) (at_ + n) [] 0 inn = R) := Lib.hid (by
      rw [HEQ2.out _ (HX.out.trans (by unfold tailH; rw [if_neg h1, if_neg (by simp)]))]
      dsimp only
      rw [hin]
      unfold lstR
      simp)
     have hnz : n < z := by omega
     have e3 : ((at_ : Int) + n).toNat = at_ + n := by omega
     have hz62 : at_ + n ≤ 4611686018427387904 := by omega
     clear HEQ2 HX hz HTD HTM
     go_wp2_with fail
     go_loopg [17] (inn.size + 1) (fun k v wr => ∃ (cur : ByteArray) (acc : List It) (cnt q : Nat) (vv : Value), v = .string cur ∧ Hid (q = 1 + cnt) ∧ Hid (lstR D M (deep + 1) (ahead + 1) (at_ + n) acc cnt cur = R) ∧ Hid (cur.size ≤ n ∧ cur.size < k ∧ acc.length ≤ cnt ∧ ahead + q ≤ 1024) ∧ Hid (Blk wr w.heap.size 130 #[.string ⟨#[]⟩, .bool false, .slice none 0 0, .int .i64 0, .int .i64 0, .int .i64 0]) ∧ Hid (Blk wr (w.heap.size + 1) 130 #[.string ⟨#[]⟩, .bool true, vv, .int .i64 ((at_ : Int) + n), .int .i64 q, .int .i64 0]) ∧ Hid (Acc wr (w.heap.size + 2) acc vv) ∧ Hid (Below w.heap.size w wr ∧ w.heap.size + 2 ≤ wr.heap.size))
     case atStart =>
      exact ⟨inn, [], 0, 1, .slice none 0 0, rfl, Lib.hid rfl, HL, Lib.hid ⟨by omega, by omega, by simp, by omega⟩, Lib.hid ((Blk.new w _ _).alloc _), Lib.hid (by simpa using Blk.new (w.alloc (.cells #[.string ⟨#[]⟩, .bool false, .slice none 0 0, .int .i64 0, .int .i64 0, .int .i64 0] 130)) 130 #[.string ⟨#[]⟩, .bool true, .slice none 0 0, .int .i64 ((at_ : Int) + n), .int .i64 1, .int .i64 0]), Lib.hid (Acc.nil _ _), Lib.hid ⟨blw, by simp⟩⟩
     case round =>
      clear HL hin hinz
      obtain ⟨cur, acc, cnt, q, vv, rfl, HQ, HLR, HBD3, HBR, HBX, HACC, HBEL⟩ := hrel
      obtain ⟨A2, n2, cap2, rfl, hn2, hc3, hc4⟩ := HACC.out.form'
      obtain ⟨hk1, hk2, hk3, hk4⟩ := HBD3.out
      have hwrz := HBEL.out.2
      have hz62i : (at_ : Int) + n ≤ 4611686018427387904 := by omega
      rcases empty_ways cur with ⟨hcz, rfl⟩ | ⟨hcz, hcz1, hcz2⟩
      ·have HE : Hid (R = ⟨.mk ByteArray.empty true acc, at_ + n, 1 + cnt, 0⟩) := Lib.hid (by rw [← HLR.out, lstR_end _ _ _ _ _ _ _ _ hcz])
       obtain ⟨r0, r1, r2, r3, r4, r5, rf0, rf1, rf2, rf3, rf4, rf5⟩ := blk6r HBR.out
       obtain ⟨b0, b1, b2, b3, b4, b5, _⟩ := blk6r HBX.out
       clear HLR
       go_wp2
       obtain ⟨d0, d1, d2, d3, d4, d5, _⟩ := blk6r (put6 HBR.out (.string ⟨#[]⟩) (.bool true) (.slice A2 n2 cap2) (.int .i64 ((at_ : Int) + n)) (.int .i64 q) (.int .i64 0))
       refine bodyPost_ret (v := .agg #[.string ⟨#[]⟩, .bool true, .slice A2 n2 cap2, .int .i64 ((at_ : Int) + n), .int .i64 q, .int .i64 0]) (by simp [results, Tryz.results123, go_sem, d0, d1, d2, d3, d4, d5]) rfl ?_
       have hE1 : ((at_ + n : Nat) : Int) = (at_ : Int) + n := by omega
       have hE2 : ((1 + cnt : Nat) : Int) = q := by rw [HQ.out]
       rw [HE.out]
       refine ⟨(((((HBEL.out.1.setCell (by simp) _).setCell (by simp) _).setCell (by simp) _).setCell (by simp) _).setCell (by simp) _).setCell (by simp) _, _, _, _, by dsimp only; rw [hE1, hE2], ?_⟩
       have ho : Only [w.heap.size] wr ((((((wr.setCell ⟨w.heap.size, 0, none⟩ (.string ⟨#[]⟩)).setCell ⟨w.heap.size, 1, none⟩ (.bool true)).setCell ⟨w.heap.size, 2, none⟩ (.slice A2 n2 cap2)).setCell ⟨w.heap.size, 3, none⟩ (.int .i64 ((at_ : Int) + n))).setCell ⟨w.heap.size, 4, none⟩ (.int .i64 q)).setCell ⟨w.heap.size, 5, none⟩ (.int .i64 0)) := ((((((Only.refl _ _).setCell (by simp) _).setCell (by simp) _).setCell (by simp) _).setCell (by simp) _).setCell (by simp) _).setCell (by simp) _
       exact ((HACC.out.only ho (by simp)).list (by omega)).weak fun k _ hk => by
        show w.heap.size ≤ k
        have hk : w.heap.size + 2 ≤ k := hk
        omega
      ·obtain ⟨G, hG⟩ : ∃ G, rdItem D M cur (deep + 1) (ahead + q) = G := ⟨_, rfl⟩
       have hq' : ahead + q = ahead + 1 + cnt := by have := HQ.out; omega
       have HC := Lib.hid (IH.out cur.size (by omega) cur (deep + 1) (ahead + q) wr rfl (by omega) (by omega) hk4)
       rw [show ((deep + 1 : Nat) : Int) = (deep : Int) + 1 from by omega, show ((ahead + q : Nat) : Int) = (ahead : Int) + q from by omega, hG] at HC
       have hGb := rdItem_bd D M cur (deep + 1) (ahead + q)
       rw [hG] at hGb
       rw [hq'] at hG
       have HG := Lib.hid hG
       have HGB := Lib.hid hGb
       obtain ⟨gx, gsz, git, ge⟩ := G
       obtain ⟨b0, b1, b2, b3, b4, b5, bf0, bf1, bf2, bf3, bf4, bf5⟩ := blk6r HBX.out
       have hlb : w.heap.size + 1 < wr.heap.size := by omega
       have HCZ := Lib.hid hcz
       clear hG hGb hq' hcz
       go_wp2_with fail
       refine HC.out.mono ?_
       rintro e w4 ⟨hb4, c0, c1, c2, rfl, hy⟩
       obtain ⟨AA, ccap, rfl, rfl, rfl, _⟩ := hy.open_
       dsimp only
       have HY := Lib.hid hy
       have hz4 := hb4.size
       have HX4 := Lib.hid (HBX.out.keep hb4 (by omega))
       have HR4 := Lib.hid (HBR.out.keep hb4 (by omega))
       have HA4 := Lib.hid (HACC.out.below hb4)
       have HB4 := Lib.hid (HBEL.out.1.trans (hb4.mono (by omega)))
       have hlw : w.heap.size < w4.heap.size := by omega
       have hlw1 : w.heap.size + 1 < w4.heap.size := by omega
       clear b0 b1 b2 b3 b4 b5 bf0 bf1 bf2 bf3 bf4 bf5 hy hb4 hwrz hlb
       have HERR : Hid (ge ≠ 0 → R = Rd.bad (within ge)) := Lib.hid (fun he => by
        rw [← HLR.out]
        have := lstR_bad D M (deep + 1) (ahead + 1) (at_ + n) acc cnt cur HCZ.out
        rw [HG.out] at this
        exact this he)
       by_cases hg2 : ge = 2
       ·subst hg2
        have HE : Hid (R = Rd.bad 3) := Lib.hid (HERR.out (by omega))
        obtain ⟨r0, r1, r2, r3, r4, r5, rf0, rf1, rf2, rf3, rf4, rf5⟩ := blk6r HR4.out
        clear HERR
        go_wp2
        obtain ⟨d0, d1, d2, d3, d4, d5, _⟩ := blk6r ((put6 HR4.out (.string ⟨#[]⟩) (.bool false) (.slice none 0 0) (.int .i64 0) (.int .i64 0) (.int .i64 3)).alloc (.cells #[.string gx.text, .bool gx.list, .slice AA gx.sub.length ccap, .int .i64 gsz, .int .i64 git, .int .i64 2] 130))
        refine bodyPost_ret (v := .agg #[.string ⟨#[]⟩, .bool false, .slice none 0 0, .int .i64 0, .int .i64 0, .int .i64 3]) (by simp [results, Tryz.results123, go_sem, d0, d1, d2, d3, d4, d5]) rfl ?_
        rw [HE.out]
        exact ⟨((((((HB4.out.setCell (by simp) _).setCell (by simp) _).setCell (by simp) _).setCell (by simp) _).setCell (by simp) _).setCell (by simp) _).alloc (by simp [World.setCell]; omega) _, _, _, _, rfl, ItS.text false (by simp [ByteArray.size])⟩
       ·by_cases hg0 : ge = 0
        ·subst hg0
         obtain ⟨hgb1, hgb2, hgb3, hgb4⟩ := HGB.out rfl
         have HNX : Hid (lstR D M (deep + 1) (ahead + 1) (at_ + n) (acc ++ [gx]) (cnt + git) (cur.extract gsz cur.size) = R) := Lib.hid (by
          rw [← HLR.out]
          exact (lstR_next D M (deep + 1) (ahead + 1) (at_ + n) acc cnt cur HCZ.out _ HG.out rfl).symm)
         have hge := HACC.out.ge
         have HGE := Lib.hid hge
         have HWR : Hid (wr.heap.size ≤ w4.heap.size ∧ w.heap.size + 2 ≤ wr.heap.size) := Lib.hid ⟨hz4, HBEL.out.2⟩
         have HY2 : Hid (∀ o o', ItS ((w4.alloc o).alloc o') (fun k => w.heap.size + 2 ≤ k ∧ (Value.slice A2 n2 cap2).ownBlock ≠ some k) gx (.string gx.text) (.bool gx.list) (.slice AA gx.sub.length ccap)) := Lib.hid (by
          intro o o'
          refine ItS.keep ?_ ?_ gx HY.out
          ·intro k hk hS
           have hS : wr.heap.size ≤ k := hS
           have := HWR.out
           exact ⟨by omega, fun e => by have := (hge k e).2; omega⟩
          ·intro q hq _
           rw [World.cell?_alloc_lt _ _ _ (by rw [World.size_alloc]; omega), World.cell?_alloc_lt _ _ _ hq])
         have hcx : (cur.extract gsz cur.size).size = cur.size - gsz := size_cut _ _ _ (Nat.le_refl _)
         obtain ⟨cu2, hcu2⟩ : ∃ cu2, cur.extract gsz cur.size = cu2 := ⟨_, rfl⟩
         rw [hcu2] at hcx HNX
         obtain ⟨b0, b1, b2, b3, b4, b5, bf0, bf1, bf2, bf3, bf4, bf5⟩ := blk6r HX4.out
         clear hge HERR hg2
         go_wp2_with (at_builtin; refine Hid.out ?_)
         refine Lib.hid ?_
         refine wpList_append_item (by rfl) (.tmp 147) (.tmp 150) (by rfl) (w.heap.size + 2) acc (by rfl) ((HA4.out.below ((Below.refl _ _).alloc (Nat.le_refl _) _)).below ((Below.refl _ _).alloc (Nat.le_refl _) _)) gx (HY2.out _ _) _ (by rfl) (by simp) (by simp) (by simp) (by have := HQ.out; omega) (by simp only [World.size_alloc]; omega) ?_
         intro g' n' cap' w5 hn' hacc5 hgr hlo
         have hno : ∀ k, k < w.heap.size + 2 → (Value.slice A2 n2 cap2).ownBlock ≠ some k := fun k hk e => by
          have := (HGE.out k e).1
          omega
         have hno2 : (Value.slice A2 n2 cap2).ownBlock ≠ some w4.heap.size := fun e => by
          have := (HGE.out _ e).2
          have := HWR.out
          omega
         have HX5 := Lib.hid (((HX4.out.alloc _).alloc _).grown hgr (hno _ (by omega)))
         have HR5 := Lib.hid (((HR4.out.alloc _).alloc _).grown hgr (hno _ (by omega)))
         have hG5 := ((Blk.new w4 130 #[.string gx.text, .bool gx.list, .slice AA gx.sub.length ccap, .int .i64 gsz, .int .i64 git, .int .i64 0]).alloc _).grown hgr hno2
         have HB5 : Hid (Below w.heap.size w w5) := Lib.hid (((HB4.out.alloc (by omega) _).alloc (by simp; omega) _).grown hgr (by simp; omega) (fun k hk => by have := (HGE.out k hk).1; omega))
         have hz5 := hgr.size
         simp only [World.size_alloc] at hz5
         have HA5 := Lib.hid hacc5
         clear b0 b1 b2 b3 b4 b5 bf0 bf1 bf2 bf3 bf4 bf5 hgr hacc5 hno hno2
         obtain ⟨b0, b1, b2, b3, b4, b5, bf0, bf1, bf2, bf3, bf4, bf5⟩ := blk6r HX5.out
         obtain ⟨g0, g1, g2, g3, g4, g5, _⟩ := blk6r hG5
         clear hG5
         go_wp2
         go_roundg (gk - 1)
         case measure => omega
         case rel =>
          have hE2 : ((q + git : Nat) : Int) = (q : Int) + git := by omega
          refine ⟨cu2, acc ++ [gx], cnt + git, q + git, .slice (some ⟨g', 0, none⟩) n' cap', rfl, Lib.hid (by have := HQ.out; omega), HNX, Lib.hid ⟨by omega, by omega, by simp only [List.length_append, List.length_singleton]; omega, by omega⟩, Lib.hid ((HR5.out.far (by simp) _).far (by simp) _), Lib.hid ?_, Lib.hid (HA5.out.only (L := [w.heap.size + 1]) (((Only.refl _ _).setCell (by simp) _).setCell (by simp) _) (by simp)), Lib.hid ⟨(HB5.out.setCell (by simp) _).setCell (by simp) _, by simp [World.setCell]; omega⟩⟩
          rw [hE2]
          exact (HX5.out.set 2 _).set 4 _
        ·have k2 : (ge == 2) = false := beq_eq_false_iff_ne.2 hg2
         have k0 : (ge != 0) = true := by simp [hg0]
         have HE : Hid (R = Rd.bad ge) := Lib.hid (by
          rw [HERR.out hg0]
          simp [within, hg2])
         obtain ⟨r0, r1, r2, r3, r4, r5, rf0, rf1, rf2, rf3, rf4, rf5⟩ := blk6r HR4.out
         clear HERR
         go_wp2
         obtain ⟨d0, d1, d2, d3, d4, d5, _⟩ := blk6r ((put6 HR4.out (.string ⟨#[]⟩) (.bool false) (.slice none 0 0) (.int .i64 0) (.int .i64 0) (.int .i64 ge)).alloc (.cells #[.string gx.text, .bool gx.list, .slice AA gx.sub.length ccap, .int .i64 gsz, .int .i64 git, .int .i64 ge] 130))
         refine bodyPost_ret (v := .agg #[.string ⟨#[]⟩, .bool false, .slice none 0 0, .int .i64 0, .int .i64 0, .int .i64 ge]) (by simp [results, Tryz.results123, go_sem, d0, d1, d2, d3, d4, d5]) rfl ?_
         rw [HE.out]
         exact ⟨((((((HB4.out.setCell (by simp) _).setCell (by simp) _).setCell (by simp) _).setCell (by simp) _).setCell (by simp) _).setCell (by simp) _).alloc (by simp [World.setCell]; omega) _, _, _, _, rfl, ItS.text false (by simp [ByteArray.size])⟩
  ·obtain ⟨t, ht⟩ : ∃ t, b - 128 = t := ⟨_, rfl⟩
   have HMID := Lib.hid (hdR_mid s b HBD.out hlow false (by simp; omega) t (by rw [if_neg h192]; exact ht))
   have e1 : (b : Int) - 128 = (t : Int) := by omega
   have ht63 : t ≤ 63 := by omega
   clear ht
   go_enter Tryz.func123, Tryz.ntmps123
   go_upto_if 56 with fail
   go_cut [13, 14] (fun vn va wx => ∃ n at_ : Nat, vn = .int .i64 n ∧ va = .int .i64 at_ ∧ wx = w.alloc (.cells #[.string ⟨#[]⟩, .bool false, .slice none 0 0, .int .i64 0, .int .i64 0, .int .i64 0] 130) ∧ Hid (hdR s = tailH s false at_ n) ∧ Hid (1 ≤ at_ ∧ at_ ≤ s.size ∧ n ≤ 4611686018427387959))
   case first =>
    by_cases ht55 : t ≤ 55
    ·have HX : Hid (hdR s = tailH s false 1 t) := Lib.hid (by rw [HMID.out, if_pos ht55])
     clear HMID
     go_wp2_with fail
     go_meet
     case rel => exact ⟨t, 1, rfl, rfl, rfl, HX, Lib.hid (by omega)⟩
    ·obtain ⟨k, rfl⟩ : ∃ k, t = 55 + k := ⟨t - 55, by omega⟩
     have hM := HMID.out
     rw [if_neg ht55, show 55 + k - 55 = k from by omega] at hM
     have e2 : (55 : Int) + (k : Int) - 55 = k := by omega
     by_cases h1 : s.size < 1 + k
     ·have HE : Hid (R = Rd.bad 2) := Lib.hid (by rw [HEQ2.out _ (hM.trans (if_pos h1))]; simp)
      clear HMID HEQ2 hM hz
      go_wp2
      refine bodyPost_ret (v := .agg #[.string ⟨#[]⟩, .bool false, .slice none 0 0, .int .i64 0, .int .i64 0, .int .i64 2]) (by simp [results, Tryz.results123, go_sem]) rfl ?_
      rw [HE.out]
      exact ⟨blw, _, _, _, rfl, ItS.text false (by simp [ByteArray.size])⟩
     rw [if_neg h1] at hM
     have h1s : 1 < s.size := by omega
     have hg1 : s.data.toList.getD 1 0 = s[1] := by rw [List.getD_eq_getElem?_getD, byte_at s 1 h1s]; rfl
     rw [hg1] at hM
     have hxz : (s.extract 1 (1 + k)).size = k := by rw [size_cut _ _ _ (by omega)]; omega
     have HNU := Lib.hid (fun w => refNumber_c (s.extract 1 (1 + k)) w (by omega))
     obtain ⟨m, hm⟩ : ∃ m, beL (s.extract 1 (1 + k)).data.toList = m := ⟨_, rfl⟩
     rw [hm] at HNU hM
     have hm64 : m < 18446744073709551616 := by
      have h2 := beL_lt (s.extract 1 (1 + k)).data.toList
      rw [toList_size, hxz, hm] at h2
      have h3 : 2 ^ (8 * k) ≤ 2 ^ (8 * 8) := Nat.pow_le_pow_right (by omega) (by omega)
      exact Nat.lt_of_lt_of_le h2 h3
     obtain ⟨c, hc⟩ : ∃ c, s[1].toNat = c := ⟨_, rfl⟩
     rw [hc] at hM
     clear hg1 hxz hm HMID
     by_cases h0 : c = 0
     ·subst h0
      have HE : Hid (R = Rd.bad 3) := Lib.hid (by rw [HEQ2.out _ (hM.trans (if_pos (.inl rfl)))]; simp)
      clear HEQ2 hM hz
      go_wp2_with fail
      refine (HNU.out _).mono ?_
      rintro e w' ⟨rfl, rfl⟩
      go_wp2
      refine bodyPost_ret (v := .agg #[.string ⟨#[]⟩, .bool false, .slice none 0 0, .int .i64 0, .int .i64 0, .int .i64 3]) (by simp [results, Tryz.results123, go_sem]) rfl ?_
      rw [HE.out]
      exact ⟨blw, _, _, _, rfl, ItS.text false (by simp [ByteArray.size])⟩
     have k0 : ((c : Int) == 0) = false := beq_eq_false_iff_ne.2 (by omega)
     have k1 : (c == 0) = false := beq_eq_false_iff_ne.2 h0
     by_cases h56 : m < 56
     ·have HE : Hid (R = Rd.bad 3) := Lib.hid (by rw [HEQ2.out _ (hM.trans (if_pos (.inr (by omega))))]; simp)
      clear HEQ2 hM hz
      go_wp2_with fail
      refine (HNU.out _).mono ?_
      rintro e w' ⟨rfl, rfl⟩
      go_wp2
      refine bodyPost_ret (v := .agg #[.string ⟨#[]⟩, .bool false, .slice none 0 0, .int .i64 0, .int .i64 0, .int .i64 3]) (by simp [results, Tryz.results123, go_sem]) rfl ?_
      rw [HE.out]
      exact ⟨blw, _, _, _, rfl, ItS.text false (by simp [ByteArray.size])⟩
     rw [if_neg (by omega)] at hM
     by_cases hb2 : s.size < 1 + k + m
     ·have HE : Hid (R = Rd.bad 2) := Lib.hid (by rw [HEQ2.out _ (hM.trans (if_pos hb2))]; simp)
      clear HEQ2 hM hz
      go_wp2_with fail
      refine (HNU.out _).mono ?_
      rintro e w' ⟨rfl, rfl⟩
      go_wp2
      refine bodyPost_ret (v := .agg #[.string ⟨#[]⟩, .bool false, .slice none 0 0, .int .i64 0, .int .i64 0, .int .i64 2]) (by simp [results, Tryz.results123, go_sem]) rfl ?_
      rw [HE.out]
      exact ⟨blw, _, _, _, rfl, ItS.text false (by simp [ByteArray.size])⟩
     ·have HX : Hid (hdR s = tailH s false (1 + k) m) := Lib.hid (by rw [tailH_long _ _ _ _ (by omega)]; exact hM)
      clear HEQ2 hM hz
      go_wp2_with fail
      refine (HNU.out _).mono ?_
      rintro e w' ⟨rfl, rfl⟩
      go_wp2_with fail
      go_meet
      case rel => exact ⟨m, 1 + k, rfl, by go_num, rfl, HX, Lib.hid (by omega)⟩
   case rest =>
    obtain ⟨n, at_, rfl, rfl, rfl, HX, HB2⟩ := hcut
    obtain ⟨ha1, ha2, hn1⟩ := HB2.out
    clear HMID e1 ht63
    by_cases h1 : s.size < at_ + n
    ·have HE : Hid (R = Rd.bad 2) := Lib.hid (by rw [HEQ2.out _ (HX.out.trans (by unfold tailH; rw [if_pos h1]))]; simp)
     clear HEQ2 hz
     go_wp2
     refine bodyPost_ret (v := .agg #[.string ⟨#[]⟩, .bool false, .slice none 0 0, .int .i64 0, .int .i64 0, .int .i64 2]) (by simp [results, Tryz.results123, go_sem]) rfl ?_
     rw [HE.out]
     exact ⟨blw, _, _, _, rfl, ItS.text false (by simp [ByteArray.size])⟩
    ·obtain ⟨inn, hin⟩ : ∃ inn, s.extract at_ (at_ + n) = inn := ⟨_, rfl⟩
     have hinz : inn.size = n := by rw [← hin, size_cut _ _ _ (by omega)]; omega
     have e3 : ((at_ : Int) + n).toNat = at_ + n := by omega
     have HIN := Lib.hid hin
     have htx : Hid (¬ (n = 1 ∧ (s.data.toList.getD at_ 0).toNat < 128) → R = ⟨.mk inn false [], at_ + n, 1, 0⟩) := Lib.hid (fun hne => by
      rw [HEQ2.out _ (HX.out.trans (by unfold tailH; rw [if_neg h1, if_neg (by simpa using hne)]))]
      dsimp only
      rw [HIN.out]; simp)
     by_cases hn : n = 1
     ·subst hn
      have h0i : 0 < inn.size := by omega
      obtain ⟨c, hc⟩ : ∃ c, inn[0].toNat = c := ⟨_, rfl⟩
      have hc2 : (s.data.toList.getD at_ 0).toNat = c := by
       rw [← hc, List.getD_eq_getElem?_getD, byte_at s at_ (by omega)]
       have h5 : inn.data.toList = (s.data.toList.take (at_ + 1)).drop at_ := by rw [← HIN.out, toList_cut]
       have h3 : inn.data.toList[0]? = some s[at_] := by
        rw [h5, List.getElem?_drop, List.getElem?_take, if_pos (by omega)]
        exact byte_at s at_ (by omega)
       rw [byte_at inn 0 h0i] at h3
       injection h3 with h3
       exact (congrArg UInt8.toNat h3).symm
      by_cases hcl : c < 128
      ·have HE : Hid (R = Rd.bad 3) := Lib.hid (by rw [HEQ2.out _ (HX.out.trans (by unfold tailH; rw [if_neg h1, if_pos ⟨rfl, rfl, by omega⟩]))]; simp)
       clear HEQ2 hz htx HX HIN hc2
       go_wp2
       refine bodyPost_ret (v := .agg #[.string ⟨#[]⟩, .bool false, .slice none 0 0, .int .i64 0, .int .i64 0, .int .i64 3]) (by simp [results, Tryz.results123, go_sem]) rfl ?_
       rw [HE.out]
       exact ⟨blw, _, _, _, rfl, ItS.text false (by simp [ByteArray.size])⟩
      ·have HE := Lib.hid (htx.out (by omega))
       clear HEQ2 hz htx HX HIN hc2
       go_wp2
       refine bodyPost_ret (v := .agg #[.string inn, .bool false, .slice none 0 0, .int .i64 ((at_ : Int) + 1), .int .i64 1, .int .i64 0]) (by simp [results, Tryz.results123, go_sem]) rfl ?_
       rw [HE.out]
       exact ⟨blw, _, _, _, rfl, ItS.text false (by omega)⟩
     ·have k1 : ((n : Int) == 1) = false := beq_eq_false_iff_ne.2 (by omega)
      have k2 : (n == 1) = false := beq_eq_false_iff_ne.2 hn
      have HE := Lib.hid (htx.out (by omega))
      clear HEQ2 hz htx HX HIN hn
      go_wp2
      refine bodyPost_ret (v := .agg #[.string inn, .bool false, .slice none 0 0, .int .i64 ((at_ : Int) + n), .int .i64 1, .int .i64 0]) (by simp [results, Tryz.results123, go_sem]) rfl ?_
      rw [HE.out]
      exact ⟨blw, _, _, _, rfl, ItS.text false (by omega)⟩
end Go.Proofs.YtnfpgadegpmhkaaGreatDoor
