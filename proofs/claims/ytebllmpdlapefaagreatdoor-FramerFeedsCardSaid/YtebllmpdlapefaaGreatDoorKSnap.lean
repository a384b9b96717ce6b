/- Package snap: what it tells is 'sUnpack'. -/
import Derived.Test.YtebllmpdlapefaaGreatDoorKA25
import Derived.Test.YtebllmpdlapefaaGreatDoorKA12
import Derived.Test.YtebllmpdlapefaaGreatDoorKA24
import Derived.Test.YtebllmpdlapefaaGreatDoorKA1
import Derived.Deep.Cut
import Derived.Deep.DeepCutAuto
import Derived.Lib.AppendStr
namespace Go.Proofs.YtebllmpdlapefaaGreatDoor
set_option linter.unusedVariables false
set_option linter.unusedSimpArgs false
open Go.RowKit

theorem info_u8 : (Tryz.prog.info? 5).map (fun i => (i.zero, i.size, i.bytes)) = some (some (.int .u8 0), 1, 1) := by kernel_rfl

set_option maxHeartbeats 400000 in
theorem little_yes (g bx : Nat) (s : ByteArray) (k n : Nat) (w : World) (h : Rdr w g s k 0) (hx : w.cell? ⟨bx, 0, none⟩ = some (.pointer (some ⟨g, 0, none⟩))) (hs : s.size ≤ 9223372036854775807) (hn : k + n ≤ s.size) (hn1 : 1 ≤ n) (hn4 : n ≤ 4) :
    Calls Tryz.prog 156 #[.int .i64 n, .pointer (some ⟨bx, 0, none⟩)] w fun e w' => e = .returned (.int .i64 (leL (s.extract k (k + n)).data.toList)) ∧ Rdr w' g s (k + n) 0 ∧ Only [g] w w' := by
  have ht := take_yes g s k n w h hs hn
  have hz : (s.extract k (k + n)).size = n := by rw [size_cut _ _ _ hn]; omega
  have hl := fun w => getLittle_c (s.extract k (k + n)) w (by omega) (by omega)
  have hb := leL_lt (s.extract k (k + n)).data.toList
  have hp : 2 ^ (8 * (s.extract k (k + n)).data.toList.length) ≤ 2 ^ 32 := Nat.pow_le_pow_right (by omega) (by rw [toList_size, hz]; omega)
  have hlt : leL (s.extract k (k + n)).data.toList ≤ 4294967295 := by omega
  have Ht := Lib.hid ht
  have Hl := Lib.hid hl
  clear hb hp hz ht hl h
  generalize leL (s.extract k (k + n)).data.toList = N at *
  go_enter Tryz.func156, Tryz.ntmps156
  go_wp2_with fail
  refine Ht.out.mono ?_
  rintro e w' ⟨rfl, hr, ho⟩
  go_wp2_with fail
  refine (Hl.out _).mono ?_
  rintro e w'' ⟨rfl, rfl⟩
  go_wp2
  go_ret
  exact ⟨rfl, hr, ho⟩

set_option maxHeartbeats 400000 in
theorem little_short (g bx : Nat) (s : ByteArray) (k n : Nat) (w : World) (h : Rdr w g s k 0) (hx : w.cell? ⟨bx, 0, none⟩ = some (.pointer (some ⟨g, 0, none⟩))) (hk : k ≤ s.size) (hs : s.size ≤ 9223372036854775807) (hn : s.size < k + n) (hn4 : n ≤ 4) :
    Calls Tryz.prog 156 #[.int .i64 n, .pointer (some ⟨bx, 0, none⟩)] w fun e w' => e = .returned (.int .i64 0) ∧ Rdr w' g s k 2 ∧ Only [g] w w' := by
  have Ht := Lib.hid (take_short g s k n w h hk hs hn (by omega))
  clear h
  go_enter Tryz.func156, Tryz.ntmps156
  go_wp2_with fail
  refine Ht.out.mono ?_
  rintro e w' ⟨rfl, hr, ho⟩
  go_wp2_with fail
  refine (getLittle_none _ _ rfl).mono ?_
  rintro e w'' ⟨rfl, rfl⟩
  go_wp2
  go_ret
  exact ⟨rfl, hr, ho⟩

theorem and3 (b : Nat) (hb : b < 256) : bits .and .u8 (b : Int) 3 = ((b % 4 : Nat) : Int) := by
  have := u8_and_nat b 3 hb (by omega)
  rw [nat_mask2] at this
  exact this

theorem little_n (g bx : Nat) (s : ByteArray) (k n N : Nat) (w : World) (h : Rdr w g s k 0) (hx : w.cell? ⟨bx, 0, none⟩ = some (.pointer (some ⟨g, 0, none⟩))) (hs : s.size ≤ 9223372036854775807) (hn : k + n ≤ s.size) (hn1 : 1 ≤ n) (hn4 : n ≤ 4) (hN : leL (s.extract k (k + n)).data.toList = N) :
    Calls Tryz.prog 156 #[.int .i64 n, .pointer (some ⟨bx, 0, none⟩)] w fun e w' => e = .returned (.int .i64 N) ∧ Rdr w' g s (k + n) 0 ∧ Only [g] w w' := by
  subst hN; exact little_yes g bx s k n w h hx hs hn hn1 hn4
theorem sNum_lt (s : ByteArray) (k b : Nat) (hb : b < 256) (h : k + sHead b ≤ s.size) : sNum s k b ≤ 4294967295 := by
  have h1 := leL_lt (s.extract (k + 1) (k + sHead b)).data.toList
  have h2 := sHead_pos b hb
  have hp : 2 ^ (8 * (s.extract (k + 1) (k + sHead b)).data.toList.length) ≤ 2 ^ 32 := Nat.pow_le_pow_right (by omega) (by rw [toList_size, size_cut _ _ _ h]; omega)
  unfold sNum
  omega

theorem elem_ways (b n N bk : Nat) (hbb : b < 256) (hkd : b % 4 ≠ 0) (hn : sCount b N = n) (hbk : sBack b N = bk) :
    (bits .and .u8 (b : Int) 3 = 1 ∧ Hid (sHead b = 2) ∧ Hid (4 + (b : Int) / 4 % 8 = n) ∧ Hid ((b : Int) / 4 / 8 * 256 + N = bk)) ∨
    (bits .and .u8 (b : Int) 3 = 2 ∧ Hid (sHead b = 3) ∧ Hid ((b : Int) / 4 + 1 = n) ∧ Hid ((N : Int) = bk)) ∨
    (bits .and .u8 (b : Int) 3 = 3 ∧ Hid (sHead b = 5) ∧ Hid ((b : Int) / 4 + 1 = n) ∧ Hid ((N : Int) = bk)) := by
  rw [and3 b hbb]
  rcases (show b % 4 = 1 ∨ b % 4 = 2 ∨ b % 4 = 3 from by omega) with hm | hm | hm
  · refine .inl ⟨by rw [hm]; rfl, Lib.hid (by simp [sHead, hm]), Lib.hid ?_, Lib.hid ?_⟩
    · simp [sCount, hm] at hn; omega
    · simp [sBack, hm] at hbk; omega
  · refine .inr (.inl ⟨by rw [hm]; rfl, Lib.hid (by simp [sHead, hm]), Lib.hid ?_, Lib.hid ?_⟩)
    · simp [sCount, hm] at hn; omega
    · simp [sBack, hm] at hbk; omega
  · refine .inr (.inr ⟨by rw [hm]; rfl, Lib.hid (by simp [sHead, hm]), Lib.hid ?_, Lib.hid ?_⟩)
    · simp [sCount, hm] at hn; omega
    · simp [sBack, hm] at hbk; omega

theorem part_len (o : List UInt8) (d q : Nat) (h : d + q ≤ o.length) : (cb ((o.drop d).take q)).length = q * 1 := by
  rw [cb_length, List.length_take, List.length_drop]; omega
theorem part_cells {w : World} {base h cap : Nat} {o : List UInt8} {e : TypeId} (how : w.ownsRow base e 1 (.slice (some ⟨h, 0, none⟩) o.length cap) o.length (cb o)) (d q : Nat) (hd : d + q ≤ o.length) :
    ∀ j u, (cb ((o.drop d).take q))[j]? = some u → w.cell? ((⟨h, d, none⟩ : Addr).add j) = some u := by
  intro j u hu
  have hj : j < q := by
    have := (List.getElem?_eq_some_iff.1 hu).1
    rw [part_len o d q hd] at this; omega
  have e1 : (⟨h, d, none⟩ : Addr).add j = ⟨h, d + j, none⟩ := by
    unfold Addr.add; split <;> simp_all
  rw [e1, how.cellAt (d + j) (by omega), ← hu, cb_at, cb_at, List.getElem?_take_of_lt hj, List.getElem?_drop]
/-- What a round of a copy does: q bytes more are laid. -/
theorem copy_round {w wr w3 : World} {B base h cap g1 cap1 g k bk m q size : Nat} {s : ByteArray} {o : List UInt8} {x : List UInt8} (how : wr.ownsRow base 5 1 (.slice (some ⟨h, 0, none⟩) o.length cap) o.length (cb o))
    (hown' : w3.ownsRow base 5 1 (.slice (some ⟨g1, 0, none⟩) (o.length + q) cap1) (o.length + q) (cb o ++ cb ((o.drop (o.length - bk)).take q)))
    (hgrow : wr.grownBy w3 (Value.slice (some ⟨h, 0, none⟩) o.length cap).ownBlock) (hrr : Rdr wr g s k 0) (hbb : Below B w wr) (hB : B ≤ wr.heap.size) (hB2 : B ≤ base)
    (hcp : cpy o bk m = x) (hbo : bk ≤ o.length) (hqm : q ≤ m) (hqb : q ≤ bk) (hos : o.length + m ≤ size) :
    Value.slice (some ⟨g1, 0, none⟩) (o.length + q) cap1 = .slice (some ⟨g1, 0, none⟩) (o ++ (o.drop (o.length - bk)).take q).length cap1 ∧
    w3.ownsRow base 5 1 (.slice (some ⟨g1, 0, none⟩) (o ++ (o.drop (o.length - bk)).take q).length cap1) (o ++ (o.drop (o.length - bk)).take q).length (cb (o ++ (o.drop (o.length - bk)).take q)) ∧
    Rdr w3 g s k 0 ∧ Below B w w3 ∧ cpy (o ++ (o.drop (o.length - bk)).take q) bk (m - q) = x ∧ bk ≤ (o ++ (o.drop (o.length - bk)).take q).length ∧ (o ++ (o.drop (o.length - bk)).take q).length + (m - q) ≤ size := by
  have hl : (o ++ (o.drop (o.length - bk)).take q).length = o.length + q := by
    rw [List.length_append, List.length_take, List.length_drop]; omega
  have hb := own_bd how
  refine ⟨by rw [hl], by rw [hl, cb_append]; exact hown', ?_, ?_, ?_, by omega, by omega⟩
  · exact hrr.only (Only.of_grown hgrow) (by simp [Value.ownBlock]; exact (own_ne how hrr (by decide)).symm)
  · exact hbb.grown hgrow hB (by simp [Value.ownBlock]; omega)
  · rw [← cpy_chunk o bk q hqb hbo, ← cpy_add, show q + (m - q) = m from by omega]; exact hcp


theorem copy_ways (bk n size len : Nat) (hlt : len ≤ size) :
    (((bk = 0 ∨ len < bk) ∨ size - len < n) ∧ ((bk : Int) == 0) = true) ∨ (((bk = 0 ∨ len < bk) ∨ size - len < n) ∧ ((bk : Int) == 0) = false ∧ len < bk) ∨
    (((bk = 0 ∨ len < bk) ∨ size - len < n) ∧ ((bk : Int) == 0) = false ∧ bk ≤ len ∧ (size : Int) - len < n) ∨ ((¬ ((bk = 0 ∨ len < bk) ∨ size - len < n)) ∧ ((bk : Int) == 0) = false ∧ bk ≤ len ∧ (n : Int) ≤ size - len ∧ decide (len < bk) = false ∧ decide ((size : Int) - len < n) = false) := by
  simp only [beq_iff_eq, beq_eq_false_iff_ne, ne_eq, decide_eq_false_iff_not]
  omega

/-- What an element leaves: the reader, the laid bytes, the error. -/
def ElemEnd (g : Nat) (s : ByteArray) (B base : Nat) (w : World) (x : Int × Nat × List UInt8) (e : Ending) (w' : World) : Prop :=
  ∃ h' cap' k', e = .returned (.slice (some ⟨h', 0, none⟩) x.2.2.length cap') ∧ w'.ownsRow base 5 1 (.slice (some ⟨h', 0, none⟩) x.2.2.length cap') x.2.2.length (cb x.2.2) ∧
    Rdr w' g s k' x.1 ∧ (x.1 = 0 → k' = x.2.1) ∧ Below B w w'

set_option maxRecDepth 100000 in
set_option maxHeartbeats 400000 in
theorem element_copy (g : Nat) (s : ByteArray) (k b : Nat) (w : World) (h : Rdr w g s k 0) (hk : k < s.size) (hs : s.size ≤ 9223372036854775807) (hb : s[k].toNat = b) (hbb : b < 256) (hkd : b % 4 ≠ 0) (hhd : k + sHead b ≤ s.size)
    (B base cap h0 size : Nat) (out : List UInt8) (hown : w.ownsRow base 5 1 (.slice (some ⟨h0, 0, none⟩) out.length cap) out.length (cb out)) (hB1 : B ≤ g) (hB2 : B ≤ base) (hB3 : B ≤ w.heap.size) (hlt : out.length ≤ size) (hsz : size ≤ 4294967295) :
    Calls Tryz.prog 143 #[.pointer (some ⟨g, 0, none⟩), .slice (some ⟨h0, 0, none⟩) out.length cap, .int .i64 size] w (ElemEnd g s B base w (sStep s size k b out)) := by
  have hne := own_ne hown h (by decide)
  have hby := (byte_yes g s k _ (h.alloc (.cells #[.pointer (some ⟨g, 0, none⟩)] 144)) hk hs)
  rw [hb] at hby
  have Hby := Lib.hid hby
  have hown1 := hown.alloc (.cells #[.pointer (some ⟨g, 0, none⟩)] 144)
  have hbx := Blk.new w 144 #[.pointer (some ⟨g, 0, none⟩)]
  have hglt := h.lt
  have hB := (Below.refl B w).alloc hB3 (.cells #[.pointer (some ⟨g, 0, none⟩)] 144)
  obtain ⟨N, hN⟩ : ∃ N, sNum s k b = N := ⟨_, rfl⟩
  have hNb := sNum_lt s k b hbb hhd
  rw [hN] at hNb
  obtain ⟨n, hn⟩ : ∃ n, sCount b N = n := ⟨_, rfl⟩
  obtain ⟨bk, hbk⟩ : ∃ n, sBack b N = n := ⟨_, rfl⟩
  have Hst : Hid (sStep s size k b out = if ((bk = 0 ∨ out.length < bk)) ∨ size - out.length < n then (3, k, out) else (0, k + sHead b, cpy out bk n)) := by
    refine Lib.hid ?_; unfold sStep; rw [hN, hn, hbk, if_neg (by omega)]; simp [hkd]
  obtain ⟨i0, hi, hz0, hz1, hz2⟩ := info_parts info_u8
  have HN := Lib.hid hN
  have Hh := Lib.hid hhd
  have Hn := Lib.hid hn
  have Hbk := Lib.hid hbk
  clear hby h hown hb hhd hN hn hbk
  go_enter Tryz.func143, Tryz.ntmps143
  go_wp2_with fail
  refine Hby.out.mono ?_
  rintro e w1 ⟨rfl, hr, ho⟩
  have hb1 : Below B w w1 := hB.trans (ho.below (by simp; omega) (by simp; omega))
  have hown2 := ho.own hown1 (by simp [Value.ownBlock]; exact hne)
  have hbx2 := hbx.only ho (by simp; omega)
  have hbc : w1.cell? ⟨w.heap.size, 0, none⟩ = some (.pointer (some ⟨g, 0, none⟩)) := cell_of_one hbx2
  clear ho hbx hown1 hB Hby
  rcases elem_ways b n N bk hbb hkd Hn.out Hbk.out with ⟨hkind, hhd, E1, E2⟩ | ⟨hkind, hhd, E1, E2⟩ | ⟨hkind, hhd, E1, E2⟩
  · have Hl := Lib.hid (little_n g _ s (k + 1) 1 N w1 hr hbc hs (by have := Hh.out; have := hhd.out; omega) (by omega) (by omega) (by rw [← HN.out, sNum, hhd.out]))
    go_wp2_with fail
    refine Hl.out.mono ?_
    rintro e w2 ⟨rfl, hr2, ho2⟩
    have hb2 : Below B w w2 := hb1.trans (ho2.below (by have := hb1.size; omega) (by simp; omega))
    have hbx3 := hbx2.only ho2 (by simp; omega)
    have hbc2 : w2.cell? ⟨w.heap.size, 0, none⟩ = some (.pointer (some ⟨g, 0, none⟩)) := cell_of_one hbx3
    have hown3 := ho2.own hown2 (by simp [Value.ownBlock]; exact hne)
    go_wp2_with fail
    rw [E1.out, E2.out]
    refine (fault_c g s _ 0 w2 hr2).mono ?_
    rintro e w' ⟨rfl, rfl⟩
    clear Hl ho2 hown2 hbx2 hbc hr hb1
    rcases copy_ways bk n size out.length hlt with ⟨hc, e1⟩ | ⟨hc, e1, e2⟩ | ⟨hc, e1, e2, e3⟩ | ⟨hc, e1, e2, e3, e4, e5⟩
    · have HC := Lib.hid hc
      clear hc
      go_wp2_with fail
      refine (fail_yes g s _ 3 w2 hr2).mono ?_
      rintro e w3 ⟨rfl, hr3, ho3⟩
      have hb3 : Below B w w3 := hb2.trans (ho3.below (by have := hb2.size; omega) (by simp; omega))
      have hown4 := ho3.own hown3 (by simp [Value.ownBlock]; exact hne)
      go_wp2
      go_ret
      rw [Hst.out, if_pos HC.out]
      exact ⟨h0, cap, _, rfl, hown4, hr3, (fun h => by cases h), hb3⟩
    · have HC := Lib.hid hc
      clear hc
      go_wp2_with fail
      refine (fail_yes g s _ 3 w2 hr2).mono ?_
      rintro e w3 ⟨rfl, hr3, ho3⟩
      have hb3 : Below B w w3 := hb2.trans (ho3.below (by have := hb2.size; omega) (by simp; omega))
      have hown4 := ho3.own hown3 (by simp [Value.ownBlock]; exact hne)
      go_wp2
      go_ret
      rw [Hst.out, if_pos HC.out]
      exact ⟨h0, cap, _, rfl, hown4, hr3, (fun h => by cases h), hb3⟩
    · have HC := Lib.hid hc
      clear hc
      go_wp2_with fail
      refine (fail_yes g s _ 3 w2 hr2).mono ?_
      rintro e w3 ⟨rfl, hr3, ho3⟩
      have hb3 : Below B w w3 := hb2.trans (ho3.below (by have := hb2.size; omega) (by simp; omega))
      have hown4 := ho3.own hown3 (by simp [Value.ownBlock]; exact hne)
      go_wp2
      go_ret
      rw [Hst.out, if_pos HC.out]
      exact ⟨h0, cap, _, rfl, hown4, hr3, (fun h => by cases h), hb3⟩
    · have HC := Lib.hid hc
      clear hc
      have hbk0 : 1 ≤ bk := by have := HC.out; omega
      go_wp2_with fail
      go_loopw [1, 11] (fun v x wr => ∃ (m : Nat) (o : List UInt8) (h' cap' : Nat), v = .slice (some ⟨h', 0, none⟩) o.length cap' ∧ x = .int .i64 m ∧ wr.ownsRow base 5 1 (.slice (some ⟨h', 0, none⟩) o.length cap') o.length (cb o) ∧
          Rdr wr g s (k + 1 + 1) 0 ∧ Below B w wr ∧ Hid (cpy o bk m = cpy out bk n) ∧ bk ≤ o.length ∧ o.length + m ≤ size) (fun _ x _ => (intOf x).toNat)
      case atStart => exact ⟨n, out, h0, cap, rfl, rfl, hown3, hr2, hb2, Lib.hid rfl, e2, by omega⟩
      case round =>
        obtain ⟨m, o, h', cap', rfl, rfl, how, hrr, hbb, hcp, hbo, hos⟩ := hrel
        obtain ⟨hc1, hc2, hc3, hc4⟩ := own_bd how
        have hcn : ¬ cap' = o.length - bk := by omega
        by_cases hm0 : 0 < m
        · by_cases hmb : m ≤ bk
          · have Hl := Lib.hid (part_len o (o.length - bk) m (by omega))
            have Hc := Lib.hid (part_cells how (o.length - bk) m (by omega))
            have hne' := own_ne how hrr (by decide)
            go_wp2_with (at_builtin; refine wpList_append_lies _ rfl (.tmp 100) (.tmp 101) 104 rfl base 5 i0 (.int .u8 0) 1 1 Tryz.underlying104 hi hz0 hz1 hz2 rfl (by decide) _ _ _ rfl how ⟨h', o.length - bk, none⟩ m (cap' - (o.length - bk)) (cb ((o.drop (o.length - bk)).take m)) rfl Hl.out Hc.out (cb_one _) (by omega) (by simp only [maxLen]; omega) (by omega) (by have := hbb.size; omega) wr.heap.size rfl ?_; intro g1 cap1 w3 hown' hgrow hat hlt')
            have R := copy_round how hown' hgrow hrr hbb (by have := hbb.size; omega) (by omega) hcp.out hbo (show m ≤ m from by omega) (show m ≤ bk from by omega) hos
            clear hown' hgrow hat how hrr hbb hcp Hc Hl
            go_wp2
            go_roundw
            case rel => exact ⟨m - m, _, g1, cap1, R.1, by go_num, R.2.1, R.2.2.1, R.2.2.2.1, Lib.hid R.2.2.2.2.1, R.2.2.2.2.2.1, R.2.2.2.2.2.2⟩
            case measure => simp [intOf]; omega
          · have Hl := Lib.hid (part_len o (o.length - bk) bk (by omega))
            have Hc := Lib.hid (part_cells how (o.length - bk) bk (by omega))
            have hne' := own_ne how hrr (by decide)
            go_wp2_with (at_builtin; refine wpList_append_lies _ rfl (.tmp 100) (.tmp 101) 104 rfl base 5 i0 (.int .u8 0) 1 1 Tryz.underlying104 hi hz0 hz1 hz2 rfl (by decide) _ _ _ rfl how ⟨h', o.length - bk, none⟩ bk (cap' - (o.length - bk)) (cb ((o.drop (o.length - bk)).take bk)) rfl Hl.out Hc.out (cb_one _) (by omega) (by simp only [maxLen]; omega) (by omega) (by have := hbb.size; omega) wr.heap.size rfl ?_; intro g1 cap1 w3 hown' hgrow hat hlt')
            have R := copy_round how hown' hgrow hrr hbb (by have := hbb.size; omega) (by omega) hcp.out hbo (show bk ≤ m from by omega) (show bk ≤ bk from by omega) hos
            clear hown' hgrow hat how hrr hbb hcp Hc Hl
            go_wp2
            go_roundw
            case rel => exact ⟨m - bk, _, g1, cap1, R.1, by go_num, R.2.1, R.2.2.1, R.2.2.2.1, Lib.hid R.2.2.2.2.1, R.2.2.2.2.2.1, R.2.2.2.2.2.2⟩
            case measure => simp [intOf]; omega
        · go_wp2
          go_ret
          obtain rfl : m = 0 := by omega
          have hcp := hcp.out
          simp only [cpy] at hcp
          rw [Hst.out, if_neg HC.out, hhd.out, ← hcp]
          exact ⟨h', cap', _, rfl, how, hrr, fun _ => by simp [Nat.add_assoc], hbb⟩
  · have Hl := Lib.hid (little_n g _ s (k + 1) 2 N w1 hr hbc hs (by have := Hh.out; have := hhd.out; omega) (by omega) (by omega) (by rw [← HN.out, sNum, hhd.out]))
    go_wp2_with fail
    refine Hl.out.mono ?_
    rintro e w2 ⟨rfl, hr2, ho2⟩
    have hb2 : Below B w w2 := hb1.trans (ho2.below (by have := hb1.size; omega) (by simp; omega))
    have hbx3 := hbx2.only ho2 (by simp; omega)
    have hbc2 : w2.cell? ⟨w.heap.size, 0, none⟩ = some (.pointer (some ⟨g, 0, none⟩)) := cell_of_one hbx3
    have hown3 := ho2.own hown2 (by simp [Value.ownBlock]; exact hne)
    go_wp2_with fail
    rw [E1.out, E2.out]
    refine (fault_c g s _ 0 w2 hr2).mono ?_
    rintro e w' ⟨rfl, rfl⟩
    clear Hl ho2 hown2 hbx2 hbc hr hb1
    rcases copy_ways bk n size out.length hlt with ⟨hc, e1⟩ | ⟨hc, e1, e2⟩ | ⟨hc, e1, e2, e3⟩ | ⟨hc, e1, e2, e3, e4, e5⟩
    · have HC := Lib.hid hc
      clear hc
      go_wp2_with fail
      refine (fail_yes g s _ 3 w2 hr2).mono ?_
      rintro e w3 ⟨rfl, hr3, ho3⟩
      have hb3 : Below B w w3 := hb2.trans (ho3.below (by have := hb2.size; omega) (by simp; omega))
      have hown4 := ho3.own hown3 (by simp [Value.ownBlock]; exact hne)
      go_wp2
      go_ret
      rw [Hst.out, if_pos HC.out]
      exact ⟨h0, cap, _, rfl, hown4, hr3, (fun h => by cases h), hb3⟩
    · have HC := Lib.hid hc
      clear hc
      go_wp2_with fail
      refine (fail_yes g s _ 3 w2 hr2).mono ?_
      rintro e w3 ⟨rfl, hr3, ho3⟩
      have hb3 : Below B w w3 := hb2.trans (ho3.below (by have := hb2.size; omega) (by simp; omega))
      have hown4 := ho3.own hown3 (by simp [Value.ownBlock]; exact hne)
      go_wp2
      go_ret
      rw [Hst.out, if_pos HC.out]
      exact ⟨h0, cap, _, rfl, hown4, hr3, (fun h => by cases h), hb3⟩
    · have HC := Lib.hid hc
      clear hc
      go_wp2_with fail
      refine (fail_yes g s _ 3 w2 hr2).mono ?_
      rintro e w3 ⟨rfl, hr3, ho3⟩
      have hb3 : Below B w w3 := hb2.trans (ho3.below (by have := hb2.size; omega) (by simp; omega))
      have hown4 := ho3.own hown3 (by simp [Value.ownBlock]; exact hne)
      go_wp2
      go_ret
      rw [Hst.out, if_pos HC.out]
      exact ⟨h0, cap, _, rfl, hown4, hr3, (fun h => by cases h), hb3⟩
    · have HC := Lib.hid hc
      clear hc
      have hbk0 : 1 ≤ bk := by have := HC.out; omega
      go_wp2_with fail
      go_loopw [1, 11] (fun v x wr => ∃ (m : Nat) (o : List UInt8) (h' cap' : Nat), v = .slice (some ⟨h', 0, none⟩) o.length cap' ∧ x = .int .i64 m ∧ wr.ownsRow base 5 1 (.slice (some ⟨h', 0, none⟩) o.length cap') o.length (cb o) ∧
          Rdr wr g s (k + 1 + 2) 0 ∧ Below B w wr ∧ Hid (cpy o bk m = cpy out bk n) ∧ bk ≤ o.length ∧ o.length + m ≤ size) (fun _ x _ => (intOf x).toNat)
      case atStart => exact ⟨n, out, h0, cap, rfl, rfl, hown3, hr2, hb2, Lib.hid rfl, e2, by omega⟩
      case round =>
        obtain ⟨m, o, h', cap', rfl, rfl, how, hrr, hbb, hcp, hbo, hos⟩ := hrel
        obtain ⟨hc1, hc2, hc3, hc4⟩ := own_bd how
        have hcn : ¬ cap' = o.length - bk := by omega
        by_cases hm0 : 0 < m
        · by_cases hmb : m ≤ bk
          · have Hl := Lib.hid (part_len o (o.length - bk) m (by omega))
            have Hc := Lib.hid (part_cells how (o.length - bk) m (by omega))
            have hne' := own_ne how hrr (by decide)
            go_wp2_with (at_builtin; refine wpList_append_lies _ rfl (.tmp 100) (.tmp 101) 104 rfl base 5 i0 (.int .u8 0) 1 1 Tryz.underlying104 hi hz0 hz1 hz2 rfl (by decide) _ _ _ rfl how ⟨h', o.length - bk, none⟩ m (cap' - (o.length - bk)) (cb ((o.drop (o.length - bk)).take m)) rfl Hl.out Hc.out (cb_one _) (by omega) (by simp only [maxLen]; omega) (by omega) (by have := hbb.size; omega) wr.heap.size rfl ?_; intro g1 cap1 w3 hown' hgrow hat hlt')
            have R := copy_round how hown' hgrow hrr hbb (by have := hbb.size; omega) (by omega) hcp.out hbo (show m ≤ m from by omega) (show m ≤ bk from by omega) hos
            clear hown' hgrow hat how hrr hbb hcp Hc Hl
            go_wp2
            go_roundw
            case rel => exact ⟨m - m, _, g1, cap1, R.1, by go_num, R.2.1, R.2.2.1, R.2.2.2.1, Lib.hid R.2.2.2.2.1, R.2.2.2.2.2.1, R.2.2.2.2.2.2⟩
            case measure => simp [intOf]; omega
          · have Hl := Lib.hid (part_len o (o.length - bk) bk (by omega))
            have Hc := Lib.hid (part_cells how (o.length - bk) bk (by omega))
            have hne' := own_ne how hrr (by decide)
            go_wp2_with (at_builtin; refine wpList_append_lies _ rfl (.tmp 100) (.tmp 101) 104 rfl base 5 i0 (.int .u8 0) 1 1 Tryz.underlying104 hi hz0 hz1 hz2 rfl (by decide) _ _ _ rfl how ⟨h', o.length - bk, none⟩ bk (cap' - (o.length - bk)) (cb ((o.drop (o.length - bk)).take bk)) rfl Hl.out Hc.out (cb_one _) (by omega) (by simp only [maxLen]; omega) (by omega) (by have := hbb.size; omega) wr.heap.size rfl ?_; intro g1 cap1 w3 hown' hgrow hat hlt')
            have R := copy_round how hown' hgrow hrr hbb (by have := hbb.size; omega) (by omega) hcp.out hbo (show bk ≤ m from by omega) (show bk ≤ bk from by omega) hos
            clear hown' hgrow hat how hrr hbb hcp Hc Hl
            go_wp2
            go_roundw
            case rel => exact ⟨m - bk, _, g1, cap1, R.1, by go_num, R.2.1, R.2.2.1, R.2.2.2.1, Lib.hid R.2.2.2.2.1, R.2.2.2.2.2.1, R.2.2.2.2.2.2⟩
            case measure => simp [intOf]; omega
        · go_wp2
          go_ret
          obtain rfl : m = 0 := by omega
          have hcp := hcp.out
          simp only [cpy] at hcp
          rw [Hst.out, if_neg HC.out, hhd.out, ← hcp]
          exact ⟨h', cap', _, rfl, how, hrr, fun _ => by simp [Nat.add_assoc], hbb⟩
  · have Hl := Lib.hid (little_n g _ s (k + 1) 4 N w1 hr hbc hs (by have := Hh.out; have := hhd.out; omega) (by omega) (by omega) (by rw [← HN.out, sNum, hhd.out]))
    go_wp2_with fail
    refine Hl.out.mono ?_
    rintro e w2 ⟨rfl, hr2, ho2⟩
    have hb2 : Below B w w2 := hb1.trans (ho2.below (by have := hb1.size; omega) (by simp; omega))
    have hbx3 := hbx2.only ho2 (by simp; omega)
    have hbc2 : w2.cell? ⟨w.heap.size, 0, none⟩ = some (.pointer (some ⟨g, 0, none⟩)) := cell_of_one hbx3
    have hown3 := ho2.own hown2 (by simp [Value.ownBlock]; exact hne)
    go_wp2_with fail
    rw [E1.out, E2.out]
    refine (fault_c g s _ 0 w2 hr2).mono ?_
    rintro e w' ⟨rfl, rfl⟩
    clear Hl ho2 hown2 hbx2 hbc hr hb1
    rcases copy_ways bk n size out.length hlt with ⟨hc, e1⟩ | ⟨hc, e1, e2⟩ | ⟨hc, e1, e2, e3⟩ | ⟨hc, e1, e2, e3, e4, e5⟩
    · have HC := Lib.hid hc
      clear hc
      go_wp2_with fail
      refine (fail_yes g s _ 3 w2 hr2).mono ?_
      rintro e w3 ⟨rfl, hr3, ho3⟩
      have hb3 : Below B w w3 := hb2.trans (ho3.below (by have := hb2.size; omega) (by simp; omega))
      have hown4 := ho3.own hown3 (by simp [Value.ownBlock]; exact hne)
      go_wp2
      go_ret
      rw [Hst.out, if_pos HC.out]
      exact ⟨h0, cap, _, rfl, hown4, hr3, (fun h => by cases h), hb3⟩
    · have HC := Lib.hid hc
      clear hc
      go_wp2_with fail
      refine (fail_yes g s _ 3 w2 hr2).mono ?_
      rintro e w3 ⟨rfl, hr3, ho3⟩
      have hb3 : Below B w w3 := hb2.trans (ho3.below (by have := hb2.size; omega) (by simp; omega))
      have hown4 := ho3.own hown3 (by simp [Value.ownBlock]; exact hne)
      go_wp2
      go_ret
      rw [Hst.out, if_pos HC.out]
      exact ⟨h0, cap, _, rfl, hown4, hr3, (fun h => by cases h), hb3⟩
    · have HC := Lib.hid hc
      clear hc
      go_wp2_with fail
      refine (fail_yes g s _ 3 w2 hr2).mono ?_
      rintro e w3 ⟨rfl, hr3, ho3⟩
      have hb3 : Below B w w3 := hb2.trans (ho3.below (by have := hb2.size; omega) (by simp; omega))
      have hown4 := ho3.own hown3 (by simp [Value.ownBlock]; exact hne)
      go_wp2
      go_ret
      rw [Hst.out, if_pos HC.out]
      exact ⟨h0, cap, _, rfl, hown4, hr3, (fun h => by cases h), hb3⟩
    · have HC := Lib.hid hc
      clear hc
      have hbk0 : 1 ≤ bk := by have := HC.out; omega
      go_wp2_with fail
      go_loopw [1, 11] (fun v x wr => ∃ (m : Nat) (o : List UInt8) (h' cap' : Nat), v = .slice (some ⟨h', 0, none⟩) o.length cap' ∧ x = .int .i64 m ∧ wr.ownsRow base 5 1 (.slice (some ⟨h', 0, none⟩) o.length cap') o.length (cb o) ∧
          Rdr wr g s (k + 1 + 4) 0 ∧ Below B w wr ∧ Hid (cpy o bk m = cpy out bk n) ∧ bk ≤ o.length ∧ o.length + m ≤ size) (fun _ x _ => (intOf x).toNat)
      case atStart => exact ⟨n, out, h0, cap, rfl, rfl, hown3, hr2, hb2, Lib.hid rfl, e2, by omega⟩
      case round =>
        obtain ⟨m, o, h', cap', rfl, rfl, how, hrr, hbb, hcp, hbo, hos⟩ := hrel
        obtain ⟨hc1, hc2, hc3, hc4⟩ := own_bd how
        have hcn : ¬ cap' = o.length - bk := by omega
        by_cases hm0 : 0 < m
        · by_cases hmb : m ≤ bk
          · have Hl := Lib.hid (part_len o (o.length - bk) m (by omega))
            have Hc := Lib.hid (part_cells how (o.length - bk) m (by omega))
            have hne' := own_ne how hrr (by decide)
            go_wp2_with (at_builtin; refine wpList_append_lies _ rfl (.tmp 100) (.tmp 101) 104 rfl base 5 i0 (.int .u8 0) 1 1 Tryz.underlying104 hi hz0 hz1 hz2 rfl (by decide) _ _ _ rfl how ⟨h', o.length - bk, none⟩ m (cap' - (o.length - bk)) (cb ((o.drop (o.length - bk)).take m)) rfl Hl.out Hc.out (cb_one _) (by omega) (by simp only [maxLen]; omega) (by omega) (by have := hbb.size; omega) wr.heap.size rfl ?_; intro g1 cap1 w3 hown' hgrow hat hlt')
            have R := copy_round how hown' hgrow hrr hbb (by have := hbb.size; omega) (by omega) hcp.out hbo (show m ≤ m from by omega) (show m ≤ bk from by omega) hos
            clear hown' hgrow hat how hrr hbb hcp Hc Hl
            go_wp2
            go_roundw
            case rel => exact ⟨m - m, _, g1, cap1, R.1, by go_num, R.2.1, R.2.2.1, R.2.2.2.1, Lib.hid R.2.2.2.2.1, R.2.2.2.2.2.1, R.2.2.2.2.2.2⟩
            case measure => simp [intOf]; omega
          · have Hl := Lib.hid (part_len o (o.length - bk) bk (by omega))
            have Hc := Lib.hid (part_cells how (o.length - bk) bk (by omega))
            have hne' := own_ne how hrr (by decide)
            go_wp2_with (at_builtin; refine wpList_append_lies _ rfl (.tmp 100) (.tmp 101) 104 rfl base 5 i0 (.int .u8 0) 1 1 Tryz.underlying104 hi hz0 hz1 hz2 rfl (by decide) _ _ _ rfl how ⟨h', o.length - bk, none⟩ bk (cap' - (o.length - bk)) (cb ((o.drop (o.length - bk)).take bk)) rfl Hl.out Hc.out (cb_one _) (by omega) (by simp only [maxLen]; omega) (by omega) (by have := hbb.size; omega) wr.heap.size rfl ?_; intro g1 cap1 w3 hown' hgrow hat hlt')
            have R := copy_round how hown' hgrow hrr hbb (by have := hbb.size; omega) (by omega) hcp.out hbo (show bk ≤ m from by omega) (show bk ≤ bk from by omega) hos
            clear hown' hgrow hat how hrr hbb hcp Hc Hl
            go_wp2
            go_roundw
            case rel => exact ⟨m - bk, _, g1, cap1, R.1, by go_num, R.2.1, R.2.2.1, R.2.2.2.1, Lib.hid R.2.2.2.2.1, R.2.2.2.2.2.1, R.2.2.2.2.2.2⟩
            case measure => simp [intOf]; omega
        · go_wp2
          go_ret
          obtain rfl : m = 0 := by omega
          have hcp := hcp.out
          simp only [cpy] at hcp
          rw [Hst.out, if_neg HC.out, hhd.out, ← hcp]
          exact ⟨h', cap', _, rfl, how, hrr, fun _ => by simp [Nat.add_assoc], hbb⟩

theorem lit_ways (n size len : Nat) (hlt : len ≤ size) : (size - len < n ∧ (size : Int) - len < n) ∨ (¬ size - len < n ∧ (n : Int) ≤ size - len) := by omega

theorem short_ways (b : Nat) (hbb : b < 256) (h : 1 < sHead b) :
    (bits .and .u8 (b : Int) 3 = 0 ∧ 60 ≤ b / 4 ∧ ∃ nb : Nat, 1 ≤ nb ∧ nb ≤ 4 ∧ Hid (sHead b = nb + 1) ∧ Hid ((b : Int) / 4 - 59 = nb)) ∨ (bits .and .u8 (b : Int) 3 = 1 ∧ Hid (sHead b = 1 + 1)) ∨ (bits .and .u8 (b : Int) 3 = 2 ∧ Hid (sHead b = 2 + 1)) ∨ (bits .and .u8 (b : Int) 3 = 3 ∧ Hid (sHead b = 4 + 1)) := by
  rw [and3 b hbb]
  rcases (show b % 4 = 0 ∨ b % 4 = 1 ∨ b % 4 = 2 ∨ b % 4 = 3 from by omega) with hm | hm | hm | hm
  · have hv : 60 ≤ b / 4 := by
      rcases Nat.lt_or_ge (b / 4) 60 with h1 | h1
      · simp [sHead, hm, show ¬ 60 ≤ b / 4 from by omega] at h
      · exact h1
    exact .inl ⟨by rw [hm]; rfl, hv, b / 4 - 59, by omega, by omega, Lib.hid (by simp [sHead, hm, hv]; omega), Lib.hid (by omega)⟩
  · exact .inr (.inl ⟨by rw [hm]; rfl, Lib.hid (by simp [sHead, hm])⟩)
  · exact .inr (.inr (.inl ⟨by rw [hm]; rfl, Lib.hid (by simp [sHead, hm])⟩))
  · exact .inr (.inr (.inr ⟨by rw [hm]; rfl, Lib.hid (by simp [sHead, hm])⟩))

set_option maxRecDepth 100000 in
set_option maxHeartbeats 800000 in
theorem element_lit (g : Nat) (s : ByteArray) (k b : Nat) (w : World) (h : Rdr w g s k 0) (hk : k < s.size) (hs : s.size ≤ 9223372036854775807) (hb : s[k].toNat = b) (hbb : b < 256) (hkd : b % 4 = 0) (hhd : k + sHead b ≤ s.size)
    (B base cap h0 size : Nat) (out : List UInt8) (hown : w.ownsRow base 5 1 (.slice (some ⟨h0, 0, none⟩) out.length cap) out.length (cb out)) (hB1 : B ≤ g) (hB2 : B ≤ base) (hB3 : B ≤ w.heap.size) (hb0 : base ≤ w.heap.size) (hlt : out.length ≤ size) (hsz : size ≤ 4294967295) :
    Calls Tryz.prog 143 #[.pointer (some ⟨g, 0, none⟩), .slice (some ⟨h0, 0, none⟩) out.length cap, .int .i64 size] w (ElemEnd g s B base w (sStep s size k b out)) := by
  have hne := own_ne hown h (by decide)
  have hby := (byte_yes g s k _ (h.alloc (.cells #[.pointer (some ⟨g, 0, none⟩)] 144)) hk hs)
  rw [hb] at hby
  have Hby := Lib.hid hby
  have hown1 := hown.alloc (.cells #[.pointer (some ⟨g, 0, none⟩)] 144)
  have hbx := Blk.new w 144 #[.pointer (some ⟨g, 0, none⟩)]
  have hglt := h.lt
  have hB := (Below.refl B w).alloc hB3 (.cells #[.pointer (some ⟨g, 0, none⟩)] 144)
  obtain ⟨N, hN⟩ : ∃ N, sNum s k b = N := ⟨_, rfl⟩
  have hNb := sNum_lt s k b hbb hhd
  rw [hN] at hNb
  obtain ⟨n, hn⟩ : ∃ n, sCount b N = n := ⟨_, rfl⟩
  have Hst : Hid (sStep s size k b out = if size - out.length < n then (3, k, out) else if s.size < k + sHead b + n then (2, k, out) else (0, k + sHead b + n, out ++ (s.extract (k + sHead b) (k + sHead b + n)).data.toList)) := by
    refine Lib.hid ?_; unfold sStep; rw [hN, hn, if_neg (by omega)]; simp [hkd]
  obtain ⟨i0, hi, hz0, hz1, hz2⟩ := info_parts info_u8
  have HN := Lib.hid hN
  have Hh := Lib.hid hhd
  have Hn := Lib.hid hn
  have hkind : bits .and .u8 (b : Int) 3 = 0 := by rw [and3 b hbb, hkd]; rfl
  clear hby h hown hb hhd hN hn
  go_enter Tryz.func143, Tryz.ntmps143
  go_wp2_with fail
  refine Hby.out.mono ?_
  rintro e w1 ⟨rfl, hr, ho⟩
  have hb1 : Below B w w1 := hB.trans (ho.below (by simp; omega) (by simp; omega))
  have hown2 := ho.own hown1 (by simp [Value.ownBlock]; exact hne)
  have hbx2 := hbx.only ho (by simp; omega)
  have hbc : w1.cell? ⟨w.heap.size, 0, none⟩ = some (.pointer (some ⟨g, 0, none⟩)) := cell_of_one hbx2
  clear ho hbx hown1 hB Hby
  by_cases hv : 60 ≤ b / 4
  · obtain ⟨nb, hnb⟩ : ∃ nb : Nat, (b : Int) / 4 - 59 = nb := ⟨b / 4 - 59, by omega⟩
    have hnb1 : 1 ≤ nb ∧ nb ≤ 4 := by omega
    have HE : Hid (k + 1 + nb = k + sHead b) := Lib.hid (by simp [sHead, hkd, hv]; omega)
    have E1 : Hid ((N : Int) + 1 = n) := Lib.hid (by have := Hn.out; simp [sCount, hkd, hv] at this; omega)
    have Hnb := Lib.hid hnb
    have Hl := Lib.hid (little_n g _ s (k + 1) nb N w1 hr hbc hs (by have := Hh.out; have := HE.out; omega) (by omega) (by omega) (by rw [← HN.out, sNum, HE.out]))
    have hkn : k + 1 + nb ≤ s.size := by have := Hh.out; have := HE.out; omega
    clear hnb
    go_wp2_with fail
    rw [Hnb.out]
    refine Hl.out.mono ?_
    rintro e w2 ⟨rfl, hr2, ho2⟩
    have hb2 : Below B w w2 := hb1.trans (ho2.below (by have := hb1.size; omega) (by simp; omega))
    have hbx3 := hbx2.only ho2 (by simp; omega)
    have hbc2 : w2.cell? ⟨w.heap.size, 0, none⟩ = some (.pointer (some ⟨g, 0, none⟩)) := cell_of_one hbx3
    have hown3 := ho2.own hown2 (by simp [Value.ownBlock]; exact hne)
    clear Hl ho2 hown2 hbx2 hbc hr hb1
    go_wp2_with fail
    rw [E1.out]
    -- r.Fault(), the tests, and the literal's own bytes
    refine (fault_c g s _ 0 _ hr2).mono ?_
    rintro e w' ⟨rfl, rfl⟩
    rcases lit_ways n size out.length hlt with ⟨hc, e1⟩ | ⟨hc, e1⟩
    · have HC := Lib.hid hc
      clear hc
      go_wp2_with fail
      refine (fail_yes g s _ 3 _ hr2).mono ?_
      rintro e w3 ⟨rfl, hr3, ho3⟩
      have hb3 : Below B w w3 := hb2.trans (ho3.below (by have := hb2.size; omega) (by simp; omega))
      have hown4 := ho3.own hown3 (by simp [Value.ownBlock]; exact hne)
      go_wp2
      go_ret
      rw [Hst.out, if_pos HC.out]
      exact ⟨h0, cap, _, rfl, hown4, hr3, (fun h => by cases h), hb3⟩
    · have HC := Lib.hid hc
      clear hc
      by_cases hsh : s.size < k + 1 + nb + n
      · have HT := Lib.hid (take_short g s (k + 1 + nb) n _ hr2 (by omega) hs hsh (by omega))
        go_wp2_with fail
        refine HT.out.mono ?_
        rintro e w3 ⟨rfl, hr3, ho3⟩
        have hb3 : Below B w w3 := hb2.trans (ho3.below (by have := hb2.size; omega) (by simp; omega))
        have hown4 := ho3.own hown3 (by simp [Value.ownBlock]; exact hne)
        have hne' := own_ne hown4 hr3 (by decide)
        go_wp2_with (at_builtin; refine Lib.wpList_append_own_string _ rfl (.tmp 82) (.tmp 85) 104 9 rfl base 5 i0 Tryz.underlying104 Tryz.underlying9 hi hz0 hz1 hz2 (.slice (some ⟨h0, 0, none⟩) out.length cap) out.length (cb out) rfl hown4 ByteArray.empty rfl (by simp [maxLen]; omega) (by simp; omega) (by have := hb3.size; omega) ?_; intro v' w4 hown' hgrow hat)
        obtain ⟨h', cap', rfl⟩ := own_form hown' (by rw [ne_eq, hat]; simp)
        go_wp2
        go_ret
        rw [Hst.out, if_neg HC.out, if_pos (by have := HE.out; omega)]
        refine ⟨h', cap', _, by simp, by simpa [Lib.strCells] using hown', hr3.only (Only.of_grown hgrow) (by simp [Value.ownBlock]; omega), (fun h => by cases h), hb3.grown hgrow (by have := hb3.size; omega) (by simp [Value.ownBlock]; have := own_bd hown4; omega)⟩
      · have HT := Lib.hid (take_yes g s (k + 1 + nb) n _ hr2 hs (by omega))
        have Hz := Lib.hid (size_cut s (k + 1 + nb) (k + 1 + nb + n) (by omega))
        have Hss : Hid (s.extract (k + 1 + nb) (k + 1 + nb + n) = s.extract (k + sHead b) (k + sHead b + n)) := Lib.hid (by rw [← HE.out])
        go_wp2_with fail
        refine HT.out.mono ?_
        rintro e w3 ⟨rfl, hr3, ho3⟩
        have hb3 : Below B w w3 := hb2.trans (ho3.below (by have := hb2.size; omega) (by simp; omega))
        have hown4 := ho3.own hown3 (by simp [Value.ownBlock]; exact hne)
        have hne' := own_ne hown4 hr3 (by decide)
        generalize s.extract (k + 1 + nb) (k + 1 + nb + n) = piece at *
        go_wp2_with (at_builtin; refine Lib.wpList_append_own_string _ rfl (.tmp 82) (.tmp 85) 104 9 rfl base 5 i0 Tryz.underlying104 Tryz.underlying9 hi hz0 hz1 hz2 (.slice (some ⟨h0, 0, none⟩) out.length cap) out.length (cb out) rfl hown4 piece rfl (by rw [Hz.out]; simp only [maxLen]; omega) (by rw [Hz.out]; omega) (by have := hb3.size; omega) ?_; intro v' w4 hown' hgrow hat)
        obtain ⟨h', cap', rfl⟩ := own_form hown' (by rw [ne_eq, hat]; simp)
        have hl : (out ++ piece.data.toList).length = out.length + piece.size := by simp
        go_wp2
        go_ret
        rw [Hst.out, if_neg HC.out, if_neg (by have := HE.out; omega), ← Hss.out]
        refine ⟨h', cap', _, by rw [hl]; rfl, ?_, hr3.only (Only.of_grown hgrow) (by simp [Value.ownBlock]; omega), (fun _ => by have := HE.out; simp; omega), hb3.grown hgrow (by have := hb3.size; omega) (by simp [Value.ownBlock]; have := own_bd hown4; omega)⟩
        rw [hl, cb_append]
        exact hown'
  · have HE : Hid (k + 1 = k + sHead b) := Lib.hid (by simp [sHead, hkd, hv])
    have E1 : Hid ((b : Int) / 4 + 1 = n) := Lib.hid (by have := Hn.out; simp [sCount, hkd, hv] at this; omega)
    have hr2 := hr
    have hb2 := hb1
    have hown3 := hown2
    have hbx3 := hbx2
    clear hr hb1 hown2 hbx2
    go_wp2_with fail
    rw [E1.out]
    -- r.Fault(), the tests, and the literal's own bytes
    refine (fault_c g s _ 0 _ hr2).mono ?_
    rintro e w' ⟨rfl, rfl⟩
    rcases lit_ways n size out.length hlt with ⟨hc, e1⟩ | ⟨hc, e1⟩
    · have HC := Lib.hid hc
      clear hc
      go_wp2_with fail
      refine (fail_yes g s _ 3 _ hr2).mono ?_
      rintro e w3 ⟨rfl, hr3, ho3⟩
      have hb3 : Below B w w3 := hb2.trans (ho3.below (by have := hb2.size; omega) (by simp; omega))
      have hown4 := ho3.own hown3 (by simp [Value.ownBlock]; exact hne)
      go_wp2
      go_ret
      rw [Hst.out, if_pos HC.out]
      exact ⟨h0, cap, _, rfl, hown4, hr3, (fun h => by cases h), hb3⟩
    · have HC := Lib.hid hc
      clear hc
      by_cases hsh : s.size < k + 1 + n
      · have HT := Lib.hid (take_short g s (k + 1) n _ hr2 (by omega) hs hsh (by omega))
        go_wp2_with fail
        refine HT.out.mono ?_
        rintro e w3 ⟨rfl, hr3, ho3⟩
        have hb3 : Below B w w3 := hb2.trans (ho3.below (by have := hb2.size; omega) (by simp; omega))
        have hown4 := ho3.own hown3 (by simp [Value.ownBlock]; exact hne)
        have hne' := own_ne hown4 hr3 (by decide)
        go_wp2_with (at_builtin; refine Lib.wpList_append_own_string _ rfl (.tmp 82) (.tmp 85) 104 9 rfl base 5 i0 Tryz.underlying104 Tryz.underlying9 hi hz0 hz1 hz2 (.slice (some ⟨h0, 0, none⟩) out.length cap) out.length (cb out) rfl hown4 ByteArray.empty rfl (by simp [maxLen]; omega) (by simp; omega) (by have := hb3.size; omega) ?_; intro v' w4 hown' hgrow hat)
        obtain ⟨h', cap', rfl⟩ := own_form hown' (by rw [ne_eq, hat]; simp)
        go_wp2
        go_ret
        rw [Hst.out, if_neg HC.out, if_pos (by have := HE.out; omega)]
        refine ⟨h', cap', _, by simp, by simpa [Lib.strCells] using hown', hr3.only (Only.of_grown hgrow) (by simp [Value.ownBlock]; omega), (fun h => by cases h), hb3.grown hgrow (by have := hb3.size; omega) (by simp [Value.ownBlock]; have := own_bd hown4; omega)⟩
      · have HT := Lib.hid (take_yes g s (k + 1) n _ hr2 hs (by omega))
        have Hz := Lib.hid (size_cut s (k + 1) (k + 1 + n) (by omega))
        have Hss : Hid (s.extract (k + 1) (k + 1 + n) = s.extract (k + sHead b) (k + sHead b + n)) := Lib.hid (by rw [← HE.out])
        go_wp2_with fail
        refine HT.out.mono ?_
        rintro e w3 ⟨rfl, hr3, ho3⟩
        have hb3 : Below B w w3 := hb2.trans (ho3.below (by have := hb2.size; omega) (by simp; omega))
        have hown4 := ho3.own hown3 (by simp [Value.ownBlock]; exact hne)
        have hne' := own_ne hown4 hr3 (by decide)
        generalize s.extract (k + 1) (k + 1 + n) = piece at *
        go_wp2_with (at_builtin; refine Lib.wpList_append_own_string _ rfl (.tmp 82) (.tmp 85) 104 9 rfl base 5 i0 Tryz.underlying104 Tryz.underlying9 hi hz0 hz1 hz2 (.slice (some ⟨h0, 0, none⟩) out.length cap) out.length (cb out) rfl hown4 piece rfl (by rw [Hz.out]; simp only [maxLen]; omega) (by rw [Hz.out]; omega) (by have := hb3.size; omega) ?_; intro v' w4 hown' hgrow hat)
        obtain ⟨h', cap', rfl⟩ := own_form hown' (by rw [ne_eq, hat]; simp)
        have hl : (out ++ piece.data.toList).length = out.length + piece.size := by simp
        go_wp2
        go_ret
        rw [Hst.out, if_neg HC.out, if_neg (by have := HE.out; omega), ← Hss.out]
        refine ⟨h', cap', _, by rw [hl]; rfl, ?_, hr3.only (Only.of_grown hgrow) (by simp [Value.ownBlock]; omega), (fun _ => by have := HE.out; simp; omega), hb3.grown hgrow (by have := hb3.size; omega) (by simp [Value.ownBlock]; have := own_bd hown4; omega)⟩
        rw [hl, cb_append]
        exact hown'

set_option maxRecDepth 100000 in
set_option maxHeartbeats 800000 in
theorem element_short (g : Nat) (s : ByteArray) (k b : Nat) (w : World) (h : Rdr w g s k 0) (hk : k < s.size) (hs : s.size ≤ 9223372036854775807) (hb : s[k].toNat = b) (hbb : b < 256) (hhd : s.size < k + sHead b)
    (B base cap h0 size : Nat) (out : List UInt8) (hown : w.ownsRow base 5 1 (.slice (some ⟨h0, 0, none⟩) out.length cap) out.length (cb out)) (hB1 : B ≤ g) (hB2 : B ≤ base) (hB3 : B ≤ w.heap.size) :
    Calls Tryz.prog 143 #[.pointer (some ⟨g, 0, none⟩), .slice (some ⟨h0, 0, none⟩) out.length cap, .int .i64 size] w (ElemEnd g s B base w (sStep s size k b out)) := by
  have hne := own_ne hown h (by decide)
  have hby := (byte_yes g s k _ (h.alloc (.cells #[.pointer (some ⟨g, 0, none⟩)] 144)) hk hs)
  rw [hb] at hby
  have Hby := Lib.hid hby
  have hown1 := hown.alloc (.cells #[.pointer (some ⟨g, 0, none⟩)] 144)
  have hbx := Blk.new w 144 #[.pointer (some ⟨g, 0, none⟩)]
  have hglt := h.lt
  have hB := (Below.refl B w).alloc hB3 (.cells #[.pointer (some ⟨g, 0, none⟩)] 144)
  have Hst : Hid (sStep s size k b out = (2, k, out)) := by
    refine Lib.hid ?_; unfold sStep; rw [if_pos hhd]
  rcases short_ways b hbb (by omega : 1 < sHead b) with ⟨hkind, hv, nb, hnb1, hnb4, HE, Hnb⟩ | ⟨hkind, HE⟩ | ⟨hkind, HE⟩ | ⟨hkind, HE⟩
  · have hsn : s.size < k + 1 + nb := by have := HE.out; omega
    clear hby h hown hb hhd
    go_enter Tryz.func143, Tryz.ntmps143
    go_wp2_with fail
    refine Hby.out.mono ?_
    rintro e w1 ⟨rfl, hr, ho⟩
    have hb1 : Below B w w1 := hB.trans (ho.below (by simp; omega) (by simp; omega))
    have hown2 := ho.own hown1 (by simp [Value.ownBlock]; exact hne)
    have hbx2 := hbx.only ho (by simp; omega)
    have hbc : w1.cell? ⟨w.heap.size, 0, none⟩ = some (.pointer (some ⟨g, 0, none⟩)) := cell_of_one hbx2
    have Hl := Lib.hid (little_short g _ s (k + 1) nb w1 hr hbc (by omega) hs hsn (by omega))
    clear ho hbx hown1 hB Hby
    go_wp2_with fail
    rw [Hnb.out]
    refine Hl.out.mono ?_
    rintro e w2 ⟨rfl, hr2, ho2⟩
    have hb2 : Below B w w2 := hb1.trans (ho2.below (by have := hb1.size; omega) (by simp; omega))
    have hbx3 := hbx2.only ho2 (by simp; omega)
    have hbc2 : w2.cell? ⟨w.heap.size, 0, none⟩ = some (.pointer (some ⟨g, 0, none⟩)) := cell_of_one hbx3
    have hown3 := ho2.own hown2 (by simp [Value.ownBlock]; exact hne)
    clear Hl ho2 hown2 hbx2 hbc hr hb1
    go_wp2_with fail
    refine (fault_c g s _ 2 _ hr2).mono ?_
    rintro e w' ⟨rfl, rfl⟩
    go_wp2
    go_ret
    rw [Hst.out]
    exact ⟨h0, cap, _, rfl, hown3, hr2, (fun h => by cases h), hb2⟩
  · have hsn : s.size < k + 1 + 1 := by have := HE.out; omega
    clear hby h hown hb hhd
    go_enter Tryz.func143, Tryz.ntmps143
    go_wp2_with fail
    refine Hby.out.mono ?_
    rintro e w1 ⟨rfl, hr, ho⟩
    have hb1 : Below B w w1 := hB.trans (ho.below (by simp; omega) (by simp; omega))
    have hown2 := ho.own hown1 (by simp [Value.ownBlock]; exact hne)
    have hbx2 := hbx.only ho (by simp; omega)
    have hbc : w1.cell? ⟨w.heap.size, 0, none⟩ = some (.pointer (some ⟨g, 0, none⟩)) := cell_of_one hbx2
    have Hl := Lib.hid (little_short g _ s (k + 1) 1 w1 hr hbc (by omega) hs hsn (by omega))
    clear ho hbx hown1 hB Hby
    go_wp2_with fail
    skip
    refine Hl.out.mono ?_
    rintro e w2 ⟨rfl, hr2, ho2⟩
    have hb2 : Below B w w2 := hb1.trans (ho2.below (by have := hb1.size; omega) (by simp; omega))
    have hbx3 := hbx2.only ho2 (by simp; omega)
    have hbc2 : w2.cell? ⟨w.heap.size, 0, none⟩ = some (.pointer (some ⟨g, 0, none⟩)) := cell_of_one hbx3
    have hown3 := ho2.own hown2 (by simp [Value.ownBlock]; exact hne)
    clear Hl ho2 hown2 hbx2 hbc hr hb1
    go_wp2_with fail
    refine (fault_c g s _ 2 _ hr2).mono ?_
    rintro e w' ⟨rfl, rfl⟩
    go_wp2
    go_ret
    rw [Hst.out]
    exact ⟨h0, cap, _, rfl, hown3, hr2, (fun h => by cases h), hb2⟩
  · have hsn : s.size < k + 1 + 2 := by have := HE.out; omega
    clear hby h hown hb hhd
    go_enter Tryz.func143, Tryz.ntmps143
    go_wp2_with fail
    refine Hby.out.mono ?_
    rintro e w1 ⟨rfl, hr, ho⟩
    have hb1 : Below B w w1 := hB.trans (ho.below (by simp; omega) (by simp; omega))
    have hown2 := ho.own hown1 (by simp [Value.ownBlock]; exact hne)
    have hbx2 := hbx.only ho (by simp; omega)
    have hbc : w1.cell? ⟨w.heap.size, 0, none⟩ = some (.pointer (some ⟨g, 0, none⟩)) := cell_of_one hbx2
    have Hl := Lib.hid (little_short g _ s (k + 1) 2 w1 hr hbc (by omega) hs hsn (by omega))
    clear ho hbx hown1 hB Hby
    go_wp2_with fail
    skip
    refine Hl.out.mono ?_
    rintro e w2 ⟨rfl, hr2, ho2⟩
    have hb2 : Below B w w2 := hb1.trans (ho2.below (by have := hb1.size; omega) (by simp; omega))
    have hbx3 := hbx2.only ho2 (by simp; omega)
    have hbc2 : w2.cell? ⟨w.heap.size, 0, none⟩ = some (.pointer (some ⟨g, 0, none⟩)) := cell_of_one hbx3
    have hown3 := ho2.own hown2 (by simp [Value.ownBlock]; exact hne)
    clear Hl ho2 hown2 hbx2 hbc hr hb1
    go_wp2_with fail
    refine (fault_c g s _ 2 _ hr2).mono ?_
    rintro e w' ⟨rfl, rfl⟩
    go_wp2
    go_ret
    rw [Hst.out]
    exact ⟨h0, cap, _, rfl, hown3, hr2, (fun h => by cases h), hb2⟩
  · have hsn : s.size < k + 1 + 4 := by have := HE.out; omega
    clear hby h hown hb hhd
    go_enter Tryz.func143, Tryz.ntmps143
    go_wp2_with fail
    refine Hby.out.mono ?_
    rintro e w1 ⟨rfl, hr, ho⟩
    have hb1 : Below B w w1 := hB.trans (ho.below (by simp; omega) (by simp; omega))
    have hown2 := ho.own hown1 (by simp [Value.ownBlock]; exact hne)
    have hbx2 := hbx.only ho (by simp; omega)
    have hbc : w1.cell? ⟨w.heap.size, 0, none⟩ = some (.pointer (some ⟨g, 0, none⟩)) := cell_of_one hbx2
    have Hl := Lib.hid (little_short g _ s (k + 1) 4 w1 hr hbc (by omega) hs hsn (by omega))
    clear ho hbx hown1 hB Hby
    go_wp2_with fail
    skip
    refine Hl.out.mono ?_
    rintro e w2 ⟨rfl, hr2, ho2⟩
    have hb2 : Below B w w2 := hb1.trans (ho2.below (by have := hb1.size; omega) (by simp; omega))
    have hbx3 := hbx2.only ho2 (by simp; omega)
    have hbc2 : w2.cell? ⟨w.heap.size, 0, none⟩ = some (.pointer (some ⟨g, 0, none⟩)) := cell_of_one hbx3
    have hown3 := ho2.own hown2 (by simp [Value.ownBlock]; exact hne)
    clear Hl ho2 hown2 hbx2 hbc hr hb1
    go_wp2_with fail
    refine (fault_c g s _ 2 _ hr2).mono ?_
    rintro e w' ⟨rfl, rfl⟩
    go_wp2
    go_ret
    rw [Hst.out]
    exact ⟨h0, cap, _, rfl, hown3, hr2, (fun h => by cases h), hb2⟩

theorem element_c (g : Nat) (s : ByteArray) (k : Nat) (w : World) (h : Rdr w g s k 0) (hk : k < s.size) (hs : s.size ≤ 9223372036854775807)
    (B base cap h0 size : Nat) (out : List UInt8) (hown : w.ownsRow base 5 1 (.slice (some ⟨h0, 0, none⟩) out.length cap) out.length (cb out)) (hB1 : B ≤ g) (hB2 : B ≤ base) (hB3 : B ≤ w.heap.size) (hb0 : base ≤ w.heap.size) (hlt : out.length ≤ size) (hsz : size ≤ 4294967295) :
    Calls Tryz.prog 143 #[.pointer (some ⟨g, 0, none⟩), .slice (some ⟨h0, 0, none⟩) out.length cap, .int .i64 size] w (ElemEnd g s B base w (sStep s size k s[k].toNat out)) := by
  by_cases h1 : s.size < k + sHead s[k].toNat
  · exact element_short g s k _ w h hk hs rfl s[k].toNat_lt h1 B base cap h0 size out hown hB1 hB2 hB3
  · by_cases h2 : s[k].toNat % 4 = 0
    · exact element_lit g s k _ w h hk hs rfl s[k].toNat_lt h2 (by omega) B base cap h0 size out hown hB1 hB2 hB3 hb0 hlt hsz
    · exact element_copy g s k _ w h hk hs rfl s[k].toNat_lt h2 (by omega) B base cap h0 size out hown hB1 hB2 hB3 hlt hsz
end Go.Proofs.YtebllmpdlapefaaGreatDoor
