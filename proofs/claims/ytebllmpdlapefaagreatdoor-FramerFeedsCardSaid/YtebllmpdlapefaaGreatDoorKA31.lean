/- The document's unpacking (hatchwayref11): it tells 'sUnpack', too. -/
import Derived.Test.YtebllmpdlapefaaGreatDoorKA30
import Derived.Test.YtebllmpdlapefaaGreatDoorKA1
import Derived.Deep.Cut
namespace Go.Proofs.YtebllmpdlapefaaGreatDoor
set_option linter.unusedVariables false
set_option linter.unusedSimpArgs false
open Go.RowKit

theorem heads_ways (b : Nat) : (((b : Int) % 4 == 0) = true ∧ 60 ≤ b / 4 ∧ Hid (sHead b + 58 = b / 4)) ∨ (((b : Int) % 4 == 0) = true ∧ b / 4 < 60 ∧ Hid (sHead b = 1)) ∨
    (((b : Int) % 4 == 0) = false ∧ ((b : Int) % 4 == 1) = true ∧ Hid (sHead b = 2)) ∨ (((b : Int) % 4 == 0) = false ∧ ((b : Int) % 4 == 1) = false ∧ ((b : Int) % 4 == 2) = true ∧ Hid (sHead b = 3)) ∨
    (((b : Int) % 4 == 0) = false ∧ ((b : Int) % 4 == 1) = false ∧ ((b : Int) % 4 == 2) = false ∧ Hid (sHead b = 5)) := by
  simp only [beq_iff_eq, beq_eq_false_iff_ne, ne_eq]
  rcases (show b % 4 = 0 ∨ b % 4 = 1 ∨ b % 4 = 2 ∨ b % 4 = 3 from by omega) with hm | hm | hm | hm
  · by_cases h : 60 ≤ b / 4
    · exact .inl ⟨by omega, h, Lib.hid (by simp [sHead, hm, h]; omega)⟩
    · exact .inr (.inl ⟨by omega, by omega, Lib.hid (by simp [sHead, hm, h])⟩)
  · exact .inr (.inr (.inl ⟨by omega, by omega, Lib.hid (by simp [sHead, hm])⟩))
  · exact .inr (.inr (.inr (.inl ⟨by omega, by omega, by omega, Lib.hid (by simp [sHead, hm])⟩)))
  · exact .inr (.inr (.inr (.inr ⟨by omega, by omega, by omega, Lib.hid (by simp [sHead, hm])⟩)))

set_option maxHeartbeats 400000 in
theorem heads_c (b : Nat) (w : World) (hb : b < 256) :
    Calls Tryz.prog 149 #[.int .i64 b] w fun e w' => e = .returned (.int .i64 (sHead b)) ∧ w = w' := by
  rcases heads_ways b with ⟨e1, e2, E⟩ | ⟨e1, e2, E⟩ | ⟨e1, e2, E⟩ | ⟨e1, e2, e3, E⟩ | ⟨e1, e2, e3, E⟩
  all_goals
    generalize sHead b = h at *
    go_enter Tryz.func149, Tryz.ntmps149
    go_wp2
    go_ret
    refine ⟨?_, rfl⟩
    have := E.out
    first
      | (subst this; rfl)
      | (show Ending.returned (.int .i64 (1 + (b : Int) / 4 - 59)) = _; rw [show 1 + (b : Int) / 4 - 59 = (h : Int) from by omega])

set_option maxHeartbeats 400000 in
theorem refSize_c (s : ByteArray) (w : World) (hs : s.size ≤ 9223372036854775807) :
    Calls Tryz.prog 87 #[.string s] w fun e w' => e = .returned (.tuple #[.int .i64 (sSize s).1, .int .i64 (sSize s).2.1, .int .i64 (sSize s).2.2]) ∧ w = w' := by
  have hl := fun w => refLebNext_c s w hs
  have hz : sSize s = if (lebNext s).2.2 = 0 then (if 4294967295 < (lebNext s).1 then (0, 0, 5) else lebNext s) else (0, 0, (lebNext s).2.2) := rfl
  generalize lebNext s = x at *
  obtain ⟨n, hd, er⟩ := x
  generalize sSize s = y at *
  simp only at hl hz
  have Hl := Lib.hid hl
  have Hz := Lib.hid hz
  clear hl hz
  rcases beq0 er with ⟨h0, h1, h2⟩ | ⟨h0, h1, h2⟩
  · subst h0
    clear h1 h2
    by_cases h3 : 4294967295 < n
    · have Hy : Hid (y = (0, 0, 5)) := Lib.hid (by rw [Hz.out, if_pos rfl, if_pos h3])
      clear Hz
      go_enter Tryz.func87, Tryz.ntmps87
      go_wp2_with fail
      refine (Hl.out _).mono ?_
      rintro e w' ⟨rfl, rfl⟩
      go_wp2
      go_ret3
      exact ⟨tri Hy.out rfl rfl rfl, rfl⟩
    · have Hy : Hid (y = (n, hd, 0)) := Lib.hid (by rw [Hz.out, if_pos rfl, if_neg h3])
      clear Hz
      go_enter Tryz.func87, Tryz.ntmps87
      go_wp2_with fail
      refine (Hl.out _).mono ?_
      rintro e w' ⟨rfl, rfl⟩
      go_wp2
      go_ret3
      exact ⟨tri Hy.out rfl rfl rfl, rfl⟩
  · have H0 := Lib.hid h0
    clear h0
    go_enter Tryz.func87, Tryz.ntmps87
    go_wp2_with fail
    refine (Hl.out _).mono ?_
    rintro e w' ⟨rfl, rfl⟩
    go_wp2
    go_ret3
    exact ⟨tri (Hz.out.trans (by rw [if_neg H0.out])) rfl rfl rfl, rfl⟩

/-- What stands at the head of the document's loop: X is what all elements come to. -/
def RefInv (B size : Nat) (body : ByteArray) (X : Int × List UInt8) (w : World) (gk : Nat) (sv ov : Value) (wr : World) : Prop :=
  ∃ (k : Nat) (out : List UInt8) (A : Option Addr) (cap : Nat) (cur : ByteArray), sv = .string cur ∧ ov = .slice A out.length cap ∧ Hid (cur = body.extract k body.size) ∧ k ≤ body.size ∧
    wr.ownsRow B 5 1 (.slice A out.length cap) out.length (cb out) ∧ Below B w wr ∧ out.length ≤ size ∧ Hid (sAll body size gk k out = X) ∧ body.size - k < gk

/-- A round that lays bytes: the relation at the next place. -/
theorem ref_next {B size : Nat} {body : ByteArray} {X : Int × List UInt8} {w wr : World} {gk k k' b : Nat} {out out' : List UInt8} {A : Option Addr} {cap : Nat} {cur : ByteArray} (hk : k < body.size) (hb : body[k].toNat = b) (hol : out.length ≤ size)
    (hst : sStep body size k b out = (0, k', out')) (hsa : sAll body size gk k out = X) (hgk : body.size - k < gk) (hcur : cur = body.extract k' body.size)
    (how : wr.ownsRow B 5 1 (.slice A out'.length cap) out'.length (cb out')) (hbb : Below B w wr) : RefInv B size body X w (gk - 1) (.string cur) (.slice A out'.length cap) wr := by
  obtain ⟨f, rfl⟩ : ∃ f, gk = f + 1 := ⟨gk - 1, by omega⟩
  subst hb
  have h0 : (sStep body size k body[k].toNat out).1 = 0 := by rw [hst]
  have h1 := sStep_ok body[k].toNat_lt hk hol h0
  have h2 := sAll_next hk hsa h0
  rw [hst] at h1 h2
  exact ⟨k', out', A, cap, cur, rfl, rfl, Lib.hid hcur, h1.2.1, how, hbb, h1.2.2, Lib.hid h2, by simp at h1 ⊢; omega⟩
theorem ref_err {size : Nat} {body : ByteArray} {X : Int × List UInt8} {gk k b k' : Nat} {out out' : List UInt8} {e : Int} (hk : k < body.size) (hb : body[k].toNat = b) (hst : sStep body size k b out = (e, k', out')) (he : e ≠ 0) (hsa : sAll body size gk k out = X) (hgk : body.size - k < gk) : X = (e, []) := by
  obtain ⟨f, rfl⟩ : ∃ f, gk = f + 1 := ⟨gk - 1, by omega⟩
  subst hb
  have := sAll_err hk hsa (by rw [hst]; exact he)
  rw [hst] at this; exact this
theorem little_ref (s : ByteArray) (N : Nat) (w : World) (hs : s.size ≤ 4) (hN : leL s.data.toList = N) :
    Calls Tryz.prog 150 #[.string s] w fun e w' => e = .returned (.int .i64 N) ∧ w = w' := by
  subst hN; exact refLittle_c s w hs
theorem cut_front {body cur : ByteArray} {k hd : Nat} (hcur : cur = body.extract k body.size) (h : k + hd ≤ body.size) : cur.extract 1 hd = body.extract (k + 1) (k + hd) := by
  rw [hcur, cut_cut body k 1 hd h]
theorem cut_back {body cur : ByteArray} {k hd : Nat} (hcur : cur = body.extract k body.size) (h : k + hd ≤ body.size) : cur.extract hd cur.size = body.extract (k + hd) body.size := by
  have hz : cur.size = body.size - k := by rw [hcur, size_cut _ _ _ (Nat.le_refl _)]
  rw [hz, hcur, cut_cut body k hd _ (by omega), show k + (body.size - k) = body.size from by omega]
theorem cut_get {body cur : ByteArray} {k : Nat} (hcur : cur = body.extract k body.size) (hk : k < body.size) (h0 : 0 < cur.size) : cur[0] = body[k] := by
  subst hcur; exact get_cut body k 0 hk h0
theorem cut_piece {body cur : ByteArray} {k n : Nat} (hcur : cur = body.extract k body.size) (h : k + n ≤ body.size) : cur.extract 0 n = body.extract k (k + n) := by
  rw [hcur, cut_cut body k 0 n h]; rfl


/-- What stands at the head of the document's loop over a copy's bytes. -/
def RefCopy (B size bk n : Nat) (out : List UInt8) (w : World) (gj : Nat) (v x : Value) (wi : World) : Prop :=
  ∃ (i : Nat) (o : List UInt8) (h1 cap1 : Nat), v = .slice (some ⟨h1, 0, none⟩) o.length cap1 ∧ x = .int .i64 i ∧ wi.ownsRow B 5 1 (.slice (some ⟨h1, 0, none⟩) o.length cap1) o.length (cb o) ∧ Below B w wi ∧ Hid (o = cpy out bk i) ∧ (bk ≤ o.length ∧ o.length ≤ size + i) ∧ i ≤ n ∧ n - i < gj

theorem refcopy_next {B size bk n : Nat} {out : List UInt8} {w wr w3 : World} {gj i : Nat} {o : List UInt8} {h1 cap1 g2 cap2 : Nat} {o1 : Obj} (hwo : wr.ownsRow B 5 1 (.slice (some ⟨h1, 0, none⟩) o.length cap1) o.length (cb o))
    (hown' : w3.ownsRow B 5 1 (.slice (some ⟨g2, 0, none⟩) (o.length + 1) cap2) (o.length + 1) (cb o ++ cb [o.getD (o.length - bk) 0])) (hgrow : (wr.alloc o1).grownBy w3 (Value.slice (some ⟨h1, 0, none⟩) o.length cap1).ownBlock)
    (hbi : Below B w wr) (hbz : B ≤ wr.heap.size) (hcp : o = cpy out bk i) (hio : bk ≤ o.length ∧ o.length ≤ size + i) (hi2 : i < n) (hgj : n - i < gj) : RefCopy B size bk n out w (gj - 1) (.slice (some ⟨g2, 0, none⟩) (o.length + 1) cap2) (.int .i64 ((i : Int) + 1)) w3 := by
  have hl : (o ++ [o.getD (o.length - bk) 0]).length = o.length + 1 := by simp
  refine ⟨i + 1, o ++ [o.getD (o.length - bk) 0], g2, cap2, by rw [hl], by go_num, by rw [hl, cb_append]; exact hown', ?_, Lib.hid ?_, by rw [hl]; omega, by omega, by omega⟩
  · exact (hbi.alloc hbz o1).grown hgrow (by simp; omega) (by have := own_bd hwo; simp [Value.ownBlock]; omega)
  · rw [cpy_snoc, ← hcp]

set_option maxRecDepth 100000 in
set_option maxHeartbeats 800000 in
theorem elements_c (body : ByteArray) (size : Nat) (w : World) (hs : body.size ≤ 9223372036854775807) (hsz : size ≤ 4294967295) :
    Calls Tryz.prog 126 #[.string body, .int .i64 size] w fun e w' => e = .returned (.tuple #[.string ⟨(sElems body size).2.toArray⟩, .int .i64 (sElems body size).1]) ∧ Below w.heap.size w w' := by
  obtain ⟨i0, hi, hz0, hz1, hz2⟩ := info_parts info_u8
  have kc := fun (w : World) (s : ByteArray) => Lib.run_convert_string_bytes (P := Tryz.prog) w 9 104 5 s Tryz.underlying9 Tryz.underlying104 Tryz.underlying5
  have Hy : Hid (sAll body size (body.size + 1) 0 [] = sElems body size) := Lib.hid rfl
  generalize sElems body size = y at *
  go_enter Tryz.func126, Tryz.ntmps126
  go_wp2_with fail
  go_loopg [0, 6] (body.size + 1) (fun gk sv ov wr => RefInv w.heap.size size body y w gk sv ov wr)
  case atStart => exact ⟨0, [], none, 0, body, rfl, rfl, Lib.hid (cut_all body).symm, by omega, World.ownsRow_nil _ _ _ _, Below.refl _ _, by simp, Hy, by omega⟩
  case round =>
    obtain ⟨k, out, A, cap, cur, rfl, rfl, hcur, hk, how, hbb, hol, hsa, hgk⟩ := hrel
    have Hcz : Hid (cur.size = body.size - k) := Lib.hid (by rw [hcur.out, size_cut _ _ _ (Nat.le_refl _)])
    have hcm : cur.size ≤ 9223372036854775807 := by have := Hcz.out; omega
    by_cases hk2 : k < body.size
    · have h0 : 0 < cur.size := by have := Hcz.out; omega
      have hb0 : cur[0].toNat = body[k].toNat := by rw [cut_get hcur.out hk2 h0]
      obtain ⟨b, hb⟩ : ∃ b, body[k].toNat = b := ⟨_, rfl⟩
      have hbb2 : b < 256 := hb ▸ body[k].toNat_lt
      rw [hb] at hb0
      have Hb := Lib.hid hb
      clear hb
      go_wp2_with fail
      refine (heads_c b _ hbb2).mono ?_
      rintro e w' ⟨rfl, rfl⟩
      obtain ⟨hd, hhd⟩ : ∃ hd, sHead b = hd := ⟨_, rfl⟩
      have hp := sHead_pos b hbb2
      rw [hhd] at hp ⊢
      have Hhd := Lib.hid hhd
      clear hhd
      by_cases hsh : cur.size < hd
      · have HX := Lib.hid (ref_err hk2 Hb.out (by unfold sStep; rw [if_pos (by have := Hhd.out; have := Hcz.out; omega)]) (by decide) hsa.out hgk)
        go_wp2
        go_ret2
        exact ⟨two HX.out, hbb⟩
      · have hkh : k + hd ≤ body.size := by have := Hcz.out; omega
        obtain ⟨N, hN⟩ : ∃ N, sNum body k b = N := ⟨_, rfl⟩
        have hNb := sNum_lt body k b hbb2 (by rw [Hhd.out]; exact hkh)
        rw [hN] at hNb
        have HN : Hid (leL (cur.extract 1 hd).data.toList = N) := Lib.hid (by rw [cut_front hcur.out hkh, ← hN, sNum, Hhd.out])
        have Hrz : Hid ((cur.extract 1 hd).size ≤ 4) := Lib.hid (by rw [size_cut _ _ _ (by omega)]; omega)
        have Hc1 := Lib.hid (cut_back hcur.out hkh)
        have Hz1 : Hid ((cur.extract hd cur.size).size = body.size - (k + hd)) := Lib.hid (by rw [cut_back hcur.out hkh, size_cut _ _ _ (Nat.le_refl _)])
        obtain ⟨n, hn⟩ : ∃ n, sCount b N = n := ⟨_, rfl⟩
        go_upto_region 10 with (fail)
        generalize cur.extract hd cur.size = cur1 at *
        generalize cur.extract 1 hd = rest at *
        have hc1m : cur1.size ≤ 9223372036854775807 := by have := Hz1.out; omega
        by_cases hm : b % 4 = 0
        · have Hst : Hid (sStep body size k b out = if size - out.length < n then (3, k, out) else if body.size < k + hd + n then (2, k, out) else (0, k + hd + n, out ++ (body.extract (k + hd) (k + hd + n)).data.toList)) := by
            refine Lib.hid ?_; unfold sStep; rw [hN, hn, Hhd.out, if_neg (by omega)]; simp [hm]
          have e0 : ((b : Int) % 4 == 0) = true := by simp; omega
          by_cases hv : 60 ≤ b / 4
          · have Hn1 : Hid (n = N + 1) := Lib.hid (by rw [← hn]; simp [sCount, hm, hv])
            have hn1 : 1 ≤ n := by have := Hn1.out; omega
            have hnb : n ≤ 4294967296 := by have := Hn1.out; omega
            have E1 : Hid ((N : Int) + 1 = n) := Lib.hid (by have := Hn1.out; omega)
            clear hn hN hm
            go_wp2_with fail
            refine (little_ref rest N _ Hrz.out HN.out).mono ?_
            rintro e w' ⟨rfl, rfl⟩
            go_upto_region 14 with (fail)
            rw [E1.out]
            -- a literal of n bytes: the tests, and its bytes
            rcases lit_ways n size out.length hol with ⟨hc, e1⟩ | ⟨hc, e1⟩
            · have HX := Lib.hid (ref_err hk2 Hb.out (by rw [Hst.out, if_pos hc]) (by decide) hsa.out hgk)
              go_wp2
              go_ret2
              exact ⟨two HX.out, hbb⟩
            · by_cases hsh : cur1.size < n
              · have HX := Lib.hid (ref_err hk2 Hb.out (by rw [Hst.out, if_neg hc, if_pos (by have := Hz1.out; omega)]) (by decide) hsa.out hgk)
                go_wp2
                go_ret2
                exact ⟨two HX.out, hbb⟩
              · have Hp := Lib.hid (cut_piece Hc1.out (n := n) (by have := Hz1.out; omega))
                have Hq := Lib.hid (cut_back Hc1.out (hd := n) (by have := Hz1.out; omega))
                have Hs1 : Hid (sStep body size k b out = (0, k + hd + n, out ++ (body.extract (k + hd) (k + hd + n)).data.toList)) := Lib.hid (by rw [Hst.out, if_neg hc, if_neg (by have := Hz1.out; omega)])
                have Hpz : Hid ((cur1.extract 0 n).size = n) := Lib.hid (by rw [size_cut cur1 0 n (by omega)]; omega)
                have hbz := hbb.size
                obtain ⟨piece, hpc⟩ : ∃ piece, cur1.extract 0 n = piece := ⟨_, rfl⟩
                obtain ⟨cur2, hcq⟩ : ∃ cur2, cur1.extract n cur1.size = cur2 := ⟨_, rfl⟩
                rw [hpc] at Hp Hpz
                rw [hcq] at Hq
                have Hps : Hid (1 ≤ piece.size ∧ piece.size = n) := Lib.hid ⟨by rw [Hpz.out]; exact hn1, Hpz.out⟩
                go_wp2_with (at_builtin; refine wpList_append_lies _ (by rfl) (.tmp 55) (.tmp 59) 104 (by rfl) w.heap.size 5 i0 (.int .u8 0) 1 1 Tryz.underlying104 hi hz0 hz1 hz2 rfl (by decide) (.slice A out.length cap) out.length (cb out) (by rfl) (bw_own how _ piece) ⟨wr.heap.size, 0, none⟩ piece.size (grownCap wr piece.size 0 5) (cb piece.data.toList) (by rfl) (by rw [cb_length, toList_size]; omega) (bw_cells wr _ piece) (cb_one _) (by have := Hps.out; omega) (by have := Hps.out; simp only [maxLen]; omega) (by have := Hps.out; omega) (by rw [Lib.bytesWorld_size]; omega) (wr.heap.size + 1) (Lib.bytesWorld_size _ _ _) ?_; intro g1 cap1 w3 hown' hgrow hat hlt')
                have hb3 : Below w.heap.size w w3 := (bw_below hbb hbz _ piece).grown hgrow (by rw [Lib.bytesWorld_size]; omega) (fun g hg => (how.lt g hg).1)
                have hl : (out ++ piece.data.toList).length = out.length + piece.size := by simp
                have R := ref_next (cur := cur2) (A := some ⟨g1, 0, none⟩) (cap := cap1) hk2 Hb.out hol (Hs1.out.trans (by rw [← Hp.out])) hsa.out hgk Hq.out (by rw [hl, cb_append]; exact hown') hb3
                rw [hl] at R
                clear hown' hgrow hat hb3 how hbb
                go_wp2
                go_roundg (gk - 1)
                case measure => omega
                case rel => exact R
          · have Hn1 : Hid (n = b / 4 + 1) := Lib.hid (by rw [← hn]; simp [sCount, hm, hv])
            have hn1 : 1 ≤ n := by have := Hn1.out; omega
            have hnb : n ≤ 4294967296 := by have := Hn1.out; omega
            have E1 : Hid ((b : Int) / 4 + 1 = n) := Lib.hid (by have := Hn1.out; omega)
            clear hn hN hm
            go_upto_region 14 with (fail)
            rw [E1.out]
            -- a literal of n bytes: the tests, and its bytes
            rcases lit_ways n size out.length hol with ⟨hc, e1⟩ | ⟨hc, e1⟩
            · have HX := Lib.hid (ref_err hk2 Hb.out (by rw [Hst.out, if_pos hc]) (by decide) hsa.out hgk)
              go_wp2
              go_ret2
              exact ⟨two HX.out, hbb⟩
            · by_cases hsh : cur1.size < n
              · have HX := Lib.hid (ref_err hk2 Hb.out (by rw [Hst.out, if_neg hc, if_pos (by have := Hz1.out; omega)]) (by decide) hsa.out hgk)
                go_wp2
                go_ret2
                exact ⟨two HX.out, hbb⟩
              · have Hp := Lib.hid (cut_piece Hc1.out (n := n) (by have := Hz1.out; omega))
                have Hq := Lib.hid (cut_back Hc1.out (hd := n) (by have := Hz1.out; omega))
                have Hs1 : Hid (sStep body size k b out = (0, k + hd + n, out ++ (body.extract (k + hd) (k + hd + n)).data.toList)) := Lib.hid (by rw [Hst.out, if_neg hc, if_neg (by have := Hz1.out; omega)])
                have Hpz : Hid ((cur1.extract 0 n).size = n) := Lib.hid (by rw [size_cut cur1 0 n (by omega)]; omega)
                have hbz := hbb.size
                obtain ⟨piece, hpc⟩ : ∃ piece, cur1.extract 0 n = piece := ⟨_, rfl⟩
                obtain ⟨cur2, hcq⟩ : ∃ cur2, cur1.extract n cur1.size = cur2 := ⟨_, rfl⟩
                rw [hpc] at Hp Hpz
                rw [hcq] at Hq
                have Hps : Hid (1 ≤ piece.size ∧ piece.size = n) := Lib.hid ⟨by rw [Hpz.out]; exact hn1, Hpz.out⟩
                go_wp2_with (at_builtin; refine wpList_append_lies _ (by rfl) (.tmp 55) (.tmp 59) 104 (by rfl) w.heap.size 5 i0 (.int .u8 0) 1 1 Tryz.underlying104 hi hz0 hz1 hz2 rfl (by decide) (.slice A out.length cap) out.length (cb out) (by rfl) (bw_own how _ piece) ⟨wr.heap.size, 0, none⟩ piece.size (grownCap wr piece.size 0 5) (cb piece.data.toList) (by rfl) (by rw [cb_length, toList_size]; omega) (bw_cells wr _ piece) (cb_one _) (by have := Hps.out; omega) (by have := Hps.out; simp only [maxLen]; omega) (by have := Hps.out; omega) (by rw [Lib.bytesWorld_size]; omega) (wr.heap.size + 1) (Lib.bytesWorld_size _ _ _) ?_; intro g1 cap1 w3 hown' hgrow hat hlt')
                have hb3 : Below w.heap.size w w3 := (bw_below hbb hbz _ piece).grown hgrow (by rw [Lib.bytesWorld_size]; omega) (fun g hg => (how.lt g hg).1)
                have hl : (out ++ piece.data.toList).length = out.length + piece.size := by simp
                have R := ref_next (cur := cur2) (A := some ⟨g1, 0, none⟩) (cap := cap1) hk2 Hb.out hol (Hs1.out.trans (by rw [← Hp.out])) hsa.out hgk Hq.out (by rw [hl, cb_append]; exact hown') hb3
                rw [hl] at R
                clear hown' hgrow hat hb3 how hbb
                go_wp2
                go_roundg (gk - 1)
                case measure => omega
                case rel => exact R
        · obtain ⟨bk, hbk⟩ : ∃ n, sBack b N = n := ⟨_, rfl⟩
          have Hst : Hid (sStep body size k b out = if ((bk = 0 ∨ out.length < bk)) ∨ size - out.length < n then (3, k, out) else (0, k + hd, cpy out bk n)) := by
            refine Lib.hid ?_; unfold sStep; rw [hN, hn, hbk, Hhd.out, if_neg (by omega)]; simp [hm]
          have e0 : ((b : Int) % 4 == 0) = false := beq_eq_false_iff_ne.2 (by omega)
          by_cases hm1 : b % 4 = 1
          · have e0' : ((b : Int) % 4 == 1) = true := by simp; omega
            have E1 : Hid (4 + (b : Int) / 4 % 8 = n) := Lib.hid (by simp [sCount, hm, hm1] at hn; omega)
            have E2 : Hid ((b : Int) / 4 / 8 * 256 + N = bk) := Lib.hid (by simp [sBack, hm1] at hbk; omega)
            clear hn hN hm hm1 hbk
            go_wp2_with fail
            refine (little_ref rest N _ Hrz.out HN.out).mono ?_
            rintro e w' ⟨rfl, rfl⟩
            go_upto_region 25 with (fail)
            rw [E1.out, E2.out]
            rcases copy_ways bk n size out.length hol with ⟨hc, e1⟩ | ⟨hc, e1, e2⟩ | ⟨hc, e1, e2, e3⟩ | ⟨hc, e1, e2, e3, e4, e5⟩
            · have HX := Lib.hid (ref_err hk2 Hb.out (by rw [Hst.out, if_pos hc]) (by decide) hsa.out hgk)
              go_wp2
              go_ret2
              exact ⟨two HX.out, hbb⟩
            · have HX := Lib.hid (ref_err hk2 Hb.out (by rw [Hst.out, if_pos hc]) (by decide) hsa.out hgk)
              go_wp2
              go_ret2
              exact ⟨two HX.out, hbb⟩
            · have HX := Lib.hid (ref_err hk2 Hb.out (by rw [Hst.out, if_pos hc]) (by decide) hsa.out hgk)
              go_wp2
              go_ret2
              exact ⟨two HX.out, hbb⟩
            · have Hs1 : Hid (sStep body size k b out = (0, k + hd, cpy out bk n)) := Lib.hid (by rw [Hst.out, if_neg hc])
              have hbk0 : 1 ≤ bk := by omega
              have hnn : n ≤ 4294967295 := by omega
              clear hc
              obtain ⟨h0', rfl⟩ := own_some how (by omega)
              go_wp2_with fail
              obtain ⟨wo, rfl⟩ : ∃ wo : World, wo = wr := ⟨_, rfl⟩
              obtain ⟨gO, rfl⟩ : ∃ g : Nat, g = gk := ⟨_, rfl⟩
              go_loopg [6, 14] (n + 1) (fun gj v x wi => RefCopy w.heap.size size bk n out w gj v x wi)
              case atStart => exact ⟨0, out, h0', cap, rfl, rfl, how, hbb, Lib.hid rfl, by omega, by omega, by omega⟩
              case round =>
                obtain ⟨i, o, h1, cap1, rfl, rfl, hwo, hbi, hcp, hio, hin, hgj⟩ := hrel
                by_cases hi2 : i < n
                · have hbd := own_bd hwo
                  have hol2 : o.length ≤ 8589934592 := by have := hio; omega
                  have hcell : wr.cell? ⟨h1, o.length - bk, none⟩ = some (.int .u8 (o.getD (o.length - bk) 0).toNat) := own_byte hwo (by omega)
                  have hbz := hbi.size
                  go_wp2_with (at_builtin; refine wpList_append_lies _ (by rfl) (.tmp 100) (.tmp 108) 104 (by rfl) w.heap.size 5 i0 (.int .u8 0) 1 1 Tryz.underlying104 hi hz0 hz1 hz2 rfl (by decide) (.slice (some ⟨h1, 0, none⟩) o.length cap1) o.length (cb o) (by rfl) (hwo.alloc _) ⟨wr.heap.size, 0, none⟩ 1 1 (cb [o.getD (o.length - bk) 0]) (by rfl) (by rfl) (cell_one_new _ _ _) (cb_one _) (by omega) (by simp only [maxLen]; omega) (by omega) (by simp; omega) (wr.heap.size + 1) (by simp) ?_; intro g2 cap2 w3 hown' hgrow hat hlt')
                  have R := refcopy_next hwo hown' hgrow hbi hbz hcp.out hio hi2 hgj
                  clear hown' hgrow hat hwo hbi hcell
                  go_wp2
                  go_roundg (gk - 1)
                  case measure => omega
                  case rel => exact R
                · obtain rfl : n = i := by omega
                  have R := ref_next (cur := cur1) hk2 Hb.out hol (Hs1.out.trans (by rw [← hcp.out])) hsa.out hgk Hc1.out hwo hbi
                  clear hwo hbi
                  go_wp2
                  go_roundg (gO - 1)
                  case measure => omega
                  case rel => exact R
          · have e0' : ((b : Int) % 4 == 1) = false := beq_eq_false_iff_ne.2 (by omega)
            have E1 : Hid ((b : Int) / 4 + 1 = n) := Lib.hid (by simp [sCount, hm, hm1] at hn; omega)
            have E2 : Hid (N = bk) := Lib.hid (by simpa [sBack, hm1] using hbk)
            clear hn hN hm hm1 hbk
            go_wp2_with fail
            refine (little_ref rest N _ Hrz.out HN.out).mono ?_
            rintro e w' ⟨rfl, rfl⟩
            go_upto_region 25 with (fail)
            rw [E1.out, E2.out]
            rcases copy_ways bk n size out.length hol with ⟨hc, e1⟩ | ⟨hc, e1, e2⟩ | ⟨hc, e1, e2, e3⟩ | ⟨hc, e1, e2, e3, e4, e5⟩
            · have HX := Lib.hid (ref_err hk2 Hb.out (by rw [Hst.out, if_pos hc]) (by decide) hsa.out hgk)
              go_wp2
              go_ret2
              exact ⟨two HX.out, hbb⟩
            · have HX := Lib.hid (ref_err hk2 Hb.out (by rw [Hst.out, if_pos hc]) (by decide) hsa.out hgk)
              go_wp2
              go_ret2
              exact ⟨two HX.out, hbb⟩
            · have HX := Lib.hid (ref_err hk2 Hb.out (by rw [Hst.out, if_pos hc]) (by decide) hsa.out hgk)
              go_wp2
              go_ret2
              exact ⟨two HX.out, hbb⟩
            · have Hs1 : Hid (sStep body size k b out = (0, k + hd, cpy out bk n)) := Lib.hid (by rw [Hst.out, if_neg hc])
              have hbk0 : 1 ≤ bk := by omega
              have hnn : n ≤ 4294967295 := by omega
              clear hc
              obtain ⟨h0', rfl⟩ := own_some how (by omega)
              go_wp2_with fail
              obtain ⟨wo, rfl⟩ : ∃ wo : World, wo = wr := ⟨_, rfl⟩
              obtain ⟨gO, rfl⟩ : ∃ g : Nat, g = gk := ⟨_, rfl⟩
              go_loopg [6, 14] (n + 1) (fun gj v x wi => RefCopy w.heap.size size bk n out w gj v x wi)
              case atStart => exact ⟨0, out, h0', cap, rfl, rfl, how, hbb, Lib.hid rfl, by omega, by omega, by omega⟩
              case round =>
                obtain ⟨i, o, h1, cap1, rfl, rfl, hwo, hbi, hcp, hio, hin, hgj⟩ := hrel
                by_cases hi2 : i < n
                · have hbd := own_bd hwo
                  have hol2 : o.length ≤ 8589934592 := by have := hio; omega
                  have hcell : wr.cell? ⟨h1, o.length - bk, none⟩ = some (.int .u8 (o.getD (o.length - bk) 0).toNat) := own_byte hwo (by omega)
                  have hbz := hbi.size
                  go_wp2_with (at_builtin; refine wpList_append_lies _ (by rfl) (.tmp 100) (.tmp 108) 104 (by rfl) w.heap.size 5 i0 (.int .u8 0) 1 1 Tryz.underlying104 hi hz0 hz1 hz2 rfl (by decide) (.slice (some ⟨h1, 0, none⟩) o.length cap1) o.length (cb o) (by rfl) (hwo.alloc _) ⟨wr.heap.size, 0, none⟩ 1 1 (cb [o.getD (o.length - bk) 0]) (by rfl) (by rfl) (cell_one_new _ _ _) (cb_one _) (by omega) (by simp only [maxLen]; omega) (by omega) (by simp; omega) (wr.heap.size + 1) (by simp) ?_; intro g2 cap2 w3 hown' hgrow hat hlt')
                  have R := refcopy_next hwo hown' hgrow hbi hbz hcp.out hio hi2 hgj
                  clear hown' hgrow hat hwo hbi hcell
                  go_wp2
                  go_roundg (gk - 1)
                  case measure => omega
                  case rel => exact R
                · obtain rfl : n = i := by omega
                  have R := ref_next (cur := cur1) hk2 Hb.out hol (Hs1.out.trans (by rw [← hcp.out])) hsa.out hgk Hc1.out hwo hbi
                  clear hwo hbi
                  go_wp2
                  go_roundg (gO - 1)
                  case measure => omega
                  case rel => exact R
    · have HX := Lib.hid (sAll_end hk2 (f := gk - 1) (x := y) (by rw [show gk - 1 + 1 = gk from by omega]; exact hsa.out))
      have hz : cur.size ≤ 0 := by have := Hcz.out; omega
      by_cases hos : out.length < size
      · have HY : Hid (y = (2, [])) := Lib.hid (by rw [HX.out, if_pos hos])
        clear HX
        go_wp2
        go_ret2
        exact ⟨two HY.out, hbb⟩
      · have HY : Hid (y = (0, out)) := Lib.hid (by rw [HX.out, if_neg hos])
        clear HX
        have hcv := run_str_any Tryz.underlying104 Tryz.underlying5 Tryz.underlying9 how
        go_wp2
        go_ret2
        exact ⟨two HY.out, hbb⟩

set_option maxHeartbeats 400000 in
theorem refUnpack_c (s : ByteArray) (most : Int) (w : World) (hs : s.size ≤ 9223372036854775807) :
    Calls Tryz.prog 88 #[.string s, .int .i64 most] w fun e w' => e = .returned (.tuple #[.string ⟨(sUnpack s most).2.toArray⟩, .int .i64 (sUnpack s most).1]) ∧ Below w.heap.size w w' := by
  have hl := fun w => refSize_c s w hs
  have hok := sSize_ok s
  have hz : sUnpack s most = if (sSize s).2.2 ≠ 0 then ((sSize s).2.2, []) else if most < (sSize s).1 then (5, []) else sElems (s.extract (sSize s).2.1 s.size) (sSize s).1 := rfl
  generalize sSize s = x at *
  obtain ⟨n, hd, er⟩ := x
  generalize sUnpack s most = y at *
  simp only at hl hz hok
  have Hl := Lib.hid hl
  have Hz := Lib.hid hz
  clear hl hz
  rcases beq0 er with ⟨h0, h1, h2⟩ | ⟨h0, h1, h2⟩
  · subst h0
    obtain ⟨hn, hd0, hd10, hds⟩ := hok rfl
    clear h1 h2 hok
    by_cases h3 : most < n
    · have Hy : Hid (y = (5, [])) := Lib.hid (by rw [Hz.out, if_neg (by simp), if_pos h3])
      clear Hz
      go_enter Tryz.func88, Tryz.ntmps88
      go_wp2_with fail
      refine (Hl.out _).mono ?_
      rintro e w' ⟨rfl, rfl⟩
      go_wp2
      go_ret2
      exact ⟨two Hy.out, Below.refl _ _⟩
    · have Hy : Hid (y = sElems (s.extract hd s.size) n) := Lib.hid (by rw [Hz.out, if_neg (by simp), if_neg h3])
      clear Hz
      have He := Lib.hid (fun w => elements_c (s.extract hd s.size) n w (by rw [size_cut _ _ _ (Nat.le_refl _)]; omega) hn)
      rw [← Hy.out] at He
      go_enter Tryz.func88, Tryz.ntmps88
      go_wp2_with fail
      refine (Hl.out _).mono ?_
      rintro e w' ⟨rfl, rfl⟩
      go_wp2_with fail
      refine (He.out _).mono ?_
      rintro e w2 ⟨rfl, hb⟩
      go_wp2
      go_ret2
      exact ⟨rfl, hb⟩
  · have H0 := Lib.hid h0
    clear h0 hok
    go_enter Tryz.func88, Tryz.ntmps88
    go_wp2_with fail
    refine (Hl.out _).mono ?_
    rintro e w' ⟨rfl, rfl⟩
    go_wp2
    go_ret2
    exact ⟨by rw [Hz.out, if_pos H0.out]; rfl, Below.refl _ _⟩
end Go.Proofs.YtebllmpdlapefaaGreatDoor
