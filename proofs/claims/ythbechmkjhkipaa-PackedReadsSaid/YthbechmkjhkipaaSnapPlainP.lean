/- What a block of one literal unpacks to; what a block of a literal and a copy unpacks to. No program in sight. -/
import Derived.Test.YthbechmkjhkipaaSnapP
import Derived.Test.YthbechmkjhkipaaWords2
namespace Go.Proofs.Ythbechmkjhkipaa
set_option linter.unusedVariables false
set_option linter.unusedSimpArgs false

theorem lebNext_one (s : ByteArray) (h : 0 < s.size) (hb : s[0].toNat < 128) : lebNext s = (s[0].toNat, 1, 0) := by
  unfold lebNext
  rw [lebGo_last s 9 0 0 h (by omega) hb]
  simp; omega
theorem lebNext_two (s : ByteArray) (h : 1 < s.size) (hb : ¬ s[0].toNat < 128) (hc : s[1].toNat < 128) (hz : s[1].toNat ≠ 0) : lebNext s = (s[0].toNat % 128 + s[1].toNat * 128, 2, 0) := by
  unfold lebNext
  rw [lebGo_more s 9 0 0 (by omega) (by omega) hb, lebGo_last s 8 1 _ h (by omega) hc]
  simp; omega
theorem sSize_one (s : ByteArray) (h : 0 < s.size) (hb : s[0].toNat < 128) : sSize s = (s[0].toNat, 1, 0) := by
  unfold sSize; rw [lebNext_one s h hb, if_pos rfl, if_neg (by simp; omega)]
theorem sSize_two (s : ByteArray) (h : 1 < s.size) (hb : ¬ s[0].toNat < 128) (hc : s[1].toNat < 128) (hz : s[1].toNat ≠ 0) : sSize s = (s[0].toNat % 128 + s[1].toNat * 128, 2, 0) := by
  unfold sSize; rw [lebNext_two s h hb hc hz, if_pos rfl, if_neg (by simp; omega)]
/-- One literal, and nothing behind it. -/
theorem sElems_lit (body : ByteArray) (b hd len : Nat) (h0 : 0 < body.size) (hb : body[0].toNat = b) (hk : b % 4 = 0) (hh : sHead b = hd) (hc : sCount b (sNum body 0 b) = len) (hz : body.size = hd + len) :
    sElems body len = (0, (body.extract hd (hd + len)).data.toList) := by
  have hst : sStep body len 0 b [] = (0, hd + len, (body.extract hd (hd + len)).data.toList) := by
    unfold sStep
    rw [hc, hh, if_neg (by omega), if_neg (by simp; omega), if_pos hk, if_neg (by omega)]
    simp
  have hb' : b < 256 := hb ▸ body[0].toNat_lt
  have hp := sHead_pos b hb'
  unfold sElems
  obtain ⟨f, hf⟩ : ∃ f, body.size = f + 1 := ⟨body.size - 1, by omega⟩
  rw [hf, sAll, dif_pos h0, hb, hst, if_pos rfl, sAll, dif_neg (by simp; omega)]
  rw [if_neg (by rw [toList_size, size_cut _ _ _ (by omega)]; omega)]
theorem get_of {s : ByteArray} {k : Nat} {b : UInt8} (hl : s.data.toList[k]? = some b) : ∃ h : k < s.size, s[k] = b := by
  have h : k < s.size := by
    have := (List.getElem?_eq_some_iff.1 hl).1
    simpa using this
  refine ⟨h, ?_⟩
  rw [byte_at s k h] at hl
  injection hl
/-- A size below 16384, as snap lays it. -/
def szL (n : Nat) : List UInt8 := if n < 128 then [ub n] else [ub (n % 128 + 128 : Nat), ub (n / 128 : Nat)]
theorem sSize_of (s : ByteArray) (n : Nat) (t : List UInt8) (hn : n < 16384) (hs : s.data.toList = szL n ++ t) : sSize s = (n, (szL n).length, 0) := by
  unfold szL at hs ⊢
  by_cases h : n < 128
  · rw [if_pos h] at hs ⊢
    obtain ⟨h0, hb⟩ := get_of (s := s) (k := 0) (b := ub n) (by rw [hs]; rfl)
    have he : s[0].toNat = n := by rw [hb, ub_toNat n (by omega)]
    rw [sSize_one s h0 (by omega), he]; rfl
  · rw [if_neg h] at hs ⊢
    obtain ⟨h0, hb⟩ := get_of (s := s) (k := 0) (b := ub (n % 128 + 128 : Nat)) (by rw [hs]; rfl)
    obtain ⟨h1, hc⟩ := get_of (s := s) (k := 1) (b := ub (n / 128 : Nat)) (by rw [hs]; rfl)
    have he : s[0].toNat = n % 128 + 128 := by rw [hb, ub_toNat _ (by omega)]
    have hf : s[1].toNat = n / 128 := by rw [hc, ub_toNat _ (by omega)]
    rw [sSize_two s h1 (by omega) (by omega) (by omega), he, hf]
    simp; omega
theorem cut_tail (s : ByteArray) (a t : List UInt8) (h : s.data.toList = a ++ t) : (s.extract a.length s.size).data.toList = t := by
  rw [toList_cut, take_all, h]; simp
theorem sUnpack_of (s : ByteArray) (n : Nat) (t : List UInt8) (most : Int) (hn : n < 16384) (hm : (n : Int) ≤ most) (hs : s.data.toList = szL n ++ t) : sUnpack s most = sElems ⟨t.toArray⟩ n := by
  unfold sUnpack
  rw [sSize_of s n t hn hs, if_neg (by simp), if_neg (by simp; omega)]
  congr 1
  apply bytes_ext
  rw [cut_tail s (szL n) t hs]
theorem leL_zeros (n : UInt8) (k : Nat) : leL (n :: List.replicate k 0) = n.toNat := by
  have h : ∀ k, leL (List.replicate k 0) = 0 := by
    intro k
    induction k with
    | zero => rfl
    | succ k ih => rw [List.replicate_succ, leL, ih]; rfl
  rw [leL, h]; omega
/-- A literal's head: of one byte, or of 1 + k more. -/
def litL (n k : Nat) : List UInt8 := if k = 0 then [ub (4 * (n - 1) : Nat)] else ub (4 * (59 + k) : Nat) :: ub (n - 1 : Nat) :: List.replicate (k - 1) 0
theorem litL_length (n k : Nat) : (litL n k).length = k + 1 := by
  unfold litL; split <;> simp <;> omega
theorem sElems_plain (n k : Nat) (l : List UInt8) (hl : l.length = n) (h1 : 1 ≤ n) (h2 : n ≤ 250) (hk : k ≤ 4) (hk0 : k = 0 → n ≤ 60) : sElems ⟨(litL n k ++ l).toArray⟩ n = (0, l) := by
  have hsz : (⟨(litL n k ++ l).toArray⟩ : ByteArray).size = k + 1 + n := by rw [size_of, List.length_append, litL_length, hl]
  have hcut : ((⟨(litL n k ++ l).toArray⟩ : ByteArray).extract (k + 1) (k + 1 + n)).data.toList = l := by
    rw [toList_cut, show k + 1 + n = (⟨(litL n k ++ l).toArray⟩ : ByteArray).size from hsz.symm, take_all, ← litL_length n k]; simp
  by_cases h0 : k = 0
  · subst h0
    obtain ⟨hlt, hb⟩ := get_of (s := ⟨(litL n 0 ++ l).toArray⟩) (k := 0) (b := ub (4 * (n - 1) : Nat)) (by simp [litL])
    have he : (⟨(litL n 0 ++ l).toArray⟩ : ByteArray)[0].toNat = 4 * (n - 1) := by rw [hb, ub_toNat _ (by have := hk0 rfl; omega)]
    have := hk0 rfl
    rw [sElems_lit _ (4 * (n - 1)) 1 n hlt he (by omega) (by unfold sHead; rw [if_pos (by omega), if_neg (by omega)]) (by unfold sCount; rw [if_pos (by omega), if_neg (by omega)]; omega) (by rw [hsz])]
    simp only [Nat.zero_add] at hcut
    rw [hcut]
  · obtain ⟨hlt, hb⟩ := get_of (s := ⟨(litL n k ++ l).toArray⟩) (k := 0) (b := ub (4 * (59 + k) : Nat)) (by simp [litL, h0])
    have he : (⟨(litL n k ++ l).toArray⟩ : ByteArray)[0].toNat = 4 * (59 + k) := by rw [hb, ub_toNat _ (by omega)]
    have hh : sHead (4 * (59 + k)) = k + 1 := by unfold sHead; rw [if_pos (by omega), if_pos (by omega)]; omega
    have hnum : sNum ⟨(litL n k ++ l).toArray⟩ 0 (4 * (59 + k)) = n - 1 := by
      unfold sNum
      rw [hh, toList_cut]
      have : (List.take (0 + (k + 1)) (litL n k ++ l)) = litL n k := by
        rw [Nat.zero_add, ← litL_length n k]; simp
      show leL (List.drop (0 + 1) (List.take (0 + (k + 1)) (litL n k ++ l))) = _
      rw [this]
      simp only [litL, h0, if_false, Nat.zero_add, List.drop_succ_cons, List.drop_zero]
      rw [leL_zeros, ub_toNat _ (by omega)]
    rw [sElems_lit _ (4 * (59 + k)) (k + 1) n hlt he (by omega) hh (by rw [hnum]; unfold sCount; rw [if_pos (by omega), if_pos (by omega)]; omega) hsz, hcut]
/-- THE LAW: any bytes within one literal unpack to themselves. -/
theorem plain_law (b : ByteArray) (n k : Nat) (l : List UInt8) (hl : l.length = n) (h1 : 1 ≤ n) (h2 : n ≤ 250) (hk : k ≤ 4) (hk0 : k = 0 → n ≤ 60) (hb : b.data.toList = szL n ++ (litL n k ++ l)) : sUnpack b 250 = (0, l) := by
  rw [sUnpack_of b n _ 250 (by omega) (by omega) hb, sElems_plain n k l hl h1 h2 hk hk0]
theorem blk_list {S H s : ByteArray} {n k : Nat} (hS : S.data.toList = szL n) (hH : H.data.toList = litL n k) : (S ++ H ++ s).data.toList = szL n ++ (litL n k ++ s.data.toList) := by
  rw [toList_app, toList_app, hS, hH, List.append_assoc]
theorem sz_one {n : Nat} (h : n < 128) : (⟨#[ub n]⟩ : ByteArray).data.toList = szL n := by rw [szL, if_pos h]
theorem sz_two {n : Nat} (h : ¬ n < 128) (h2 : n < 256) : (⟨#[ub ((n : Int) % 128 + 128), ub 1]⟩ : ByteArray).data.toList = szL n := by
  rw [szL, if_neg h, show n / 128 = 1 from by omega, show ((n % 128 + 128 : Nat) : Int) = (n : Int) % 128 + 128 from by omega]; rfl
theorem lit_one {n : Nat} (h : 1 ≤ n) : (⟨#[ub (4 * ((n : Int) - 1))]⟩ : ByteArray).data.toList = litL n 0 := by
  rw [litL, if_pos rfl, show ((4 * (n - 1) : Nat) : Int) = 4 * ((n : Int) - 1) from by omega]
theorem lit_start1 {n : Nat} (h : 1 ≤ n) : (⟨#[ub 240, ub ((n : Int) - 1)]⟩ : ByteArray).data.toList = litL n 1 := by
  rw [litL, if_neg (by omega), show ((n - 1 : Nat) : Int) = (n : Int) - 1 from by omega]; rfl
/-- A long head, j bytes of it laid. -/
theorem lit_start {n k : Nat} (h : 1 ≤ n) : (⟨#[ub (4 * (59 + (k : Int))), ub ((n : Int) - 1)]⟩ : ByteArray).data.toList = ub (4 * (59 + k) : Nat) :: ub (n - 1 : Nat) :: List.replicate (1 - 1) 0 := by
  rw [show ((4 * (59 + k) : Nat) : Int) = 4 * (59 + (k : Int)) from by omega, show ((n - 1 : Nat) : Int) = (n : Int) - 1 from by omega]; rfl
theorem lit_more {x : ByteArray} {a b : UInt8} {j : Nat} (hj : 1 ≤ j) (h : x.data.toList = a :: b :: List.replicate (j - 1) 0) : (x ++ ⟨#[0]⟩).data.toList = a :: b :: List.replicate (j + 1 - 1) 0 := by
  rw [toList_app, h, show j + 1 - 1 = (j - 1) + 1 from by omega, List.replicate_succ']; rfl
theorem lit_done {x : ByteArray} {n k : Nat} (hk : k ≠ 0) (h : x.data.toList = ub (4 * (59 + k) : Nat) :: ub (n - 1 : Nat) :: List.replicate (k - 1) 0) : x.data.toList = litL n k := by
  rw [h, litL, if_neg hk]
end Go.Proofs.Ythbechmkjhkipaa
