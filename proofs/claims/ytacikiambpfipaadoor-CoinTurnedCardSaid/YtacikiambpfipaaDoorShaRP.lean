/- SHA-256 of a text, and the checksum that is a digest's digest, as plain functions. No program in sight. -/
import Derived.Test.YtacikiambpfipaaDoorShaP
import Derived.Test.YtacikiambpfipaaDoorShaKP
namespace Go.Proofs.YtacikiambpfipaaDoor
set_option linter.unusedVariables false
set_option linter.unusedSimpArgs false

def shRun (v : Sh) (s : ByteArray) : Nat → Sh
  | 0 => v
  | i + 1 => shMix shK (shRun v s i) (s.extract (64 * i) (64 * i + 64))
theorem shRun_ok {v : Sh} (h : v.ok) (s : ByteArray) : ∀ i, (shRun v s i).ok
  | 0 => h
  | i + 1 => shMix_ok _ _ _
theorem cut_app_left (s p : ByteArray) (a b : Nat) (h : b ≤ s.size) : (s ++ p).extract a b = s.extract a b := by
  apply bytes_ext
  rw [toList_cut, toList_cut, toList_app, List.take_append_of_le_length (by simpa using h)]
theorem shRun_left (v : Sh) (s p : ByteArray) : ∀ i, 64 * i ≤ s.size → shRun v (s ++ p) i = shRun v s i
  | 0, _ => rfl
  | i + 1, h => by
    rw [shRun, shRun, shRun_left v s p i (by omega), cut_app_left s p _ _ (by omega)]
theorem shRun_add (v : Sh) (t : ByteArray) (a : Nat) : ∀ b, 64 * (a + b) ≤ t.size → shRun v t (a + b) = shRun (shRun v t a) (t.extract (64 * a) t.size) b
  | 0, _ => rfl
  | b + 1, h => by
    rw [← Nat.add_assoc, shRun, shRun, shRun_add v t a b (by omega), cut_cut t _ _ _ (by omega)]
    rw [show 64 * a + 64 * b = 64 * (a + b) from by omega, show 64 * a + (64 * b + 64) = 64 * (a + b) + 64 from by omega]
def shNought (n : Nat) : Nat := (64 - (n + 9) % 64) % 64
def shTail (m : Nat) : List UInt8 := (List.range 8).map fun j => UInt8.ofNat (m / 2 ^ (56 - 8 * j))
def refTail (m i : Nat) : List UInt8 := (List.range i).map fun j => UInt8.ofNat (m / 256 ^ (i - 1 - j))
theorem refTail_succ (m i : Nat) : refTail m (i + 1) = UInt8.ofNat (m / 256 ^ i) :: refTail m i := by
  unfold refTail
  rw [List.range_succ_eq_map, List.map_cons, List.map_map]
  congr 1
  apply List.map_congr_left
  intro j hj
  simp only [Function.comp]
  congr 3; omega
theorem refTail_8 (m : Nat) : refTail m 8 = shTail m := by simp [refTail, shTail, List.range_succ]
theorem shTail_length (m : Nat) : (shTail m).length = 8 := by simp [shTail]
theorem shTail_take (m i : Nat) (h : i < 8) : (shTail m).take (i + 1) = (shTail m).take i ++ [UInt8.ofNat (m / 2 ^ (56 - 8 * i))] := by
  rw [List.take_succ_eq_append_getElem (by rw [shTail_length]; exact h)]
  congr 2
  simp [shTail]
def shPadL (n : Nat) : List UInt8 := 128 :: List.replicate (shNought n) 0 ++ shTail (n * 8)
def shPad (n : Nat) : ByteArray := ⟨(shPadL n).toArray⟩
theorem shPadL_length (n : Nat) : (shPadL n).length = shNought n + 9 := by simp [shPadL, shTail_length]
theorem shPad_size (n : Nat) : (shPad n).size = shNought n + 9 := by rw [shPad, size_of, shPadL_length]
theorem shNought_lt (n : Nat) : shNought n < 64 := Nat.mod_lt _ (by omega)
theorem shNought_mod (n : Nat) : (n + (shNought n + 9)) % 64 = 0 := by unfold shNought; omega
/-- The noughts are the fewest. -/
theorem shNought_least (n z : Nat) (h : z < shNought n) : (n + (1 + z) + 8) % 64 ≠ 0 := by unfold shNought at h; omega
theorem shNought_at (n : Nat) : (n + (1 + shNought n) + 8) % 64 = 0 := by have := shNought_mod n; omega
def shV : Sh := ⟨0x6a09e667, 0xbb67ae85, 0x3c6ef372, 0xa54ff53a, 0x510e527f, 0x9b05688c, 0x1f83d9ab, 0x5be0cd19⟩
theorem shV_ok : shV.ok := ⟨by decide, by decide, by decide, by decide, by decide, by decide, by decide, by decide⟩
def wB (x : Nat) : List UInt8 := [UInt8.ofNat (x / 16777216), UInt8.ofNat (x / 65536), UInt8.ofNat (x / 256), UInt8.ofNat x]
def Sh.list (v : Sh) : List Nat := [v.a, v.b, v.c, v.d, v.e, v.f, v.g, v.h]
def shOut (v : Sh) : List UInt8 := (v.list.map wB).flatten
def shTo (n : Nat) (v : Sh) : List UInt8 := ((v.list.take n).map wB).flatten
theorem shTo_succ (v : Sh) (i : Nat) (h : i < 8) : shTo (i + 1) v = shTo i v ++ wB (v.list.getD i 0) := by
  unfold shTo
  have h2 : i < v.list.length := h
  rw [List.take_succ_eq_append_getElem h2, List.map_append, List.flatten_append, List.getD_eq_getElem?_getD, List.getElem?_eq_getElem h2]
  simp
theorem shTo_8 (v : Sh) : shTo 8 v = shOut v := rfl
theorem shTo_length (v : Sh) (i : Nat) (h : i ≤ 8) : (shTo i v).length = 4 * i := by
  induction i with
  | zero => rfl
  | succ i ih => rw [shTo_succ v i (by omega), List.length_append, ih (by omega)]; simp [wB]; omega
theorem shOut_length (v : Sh) : (shOut v).length = 32 := shTo_length v 8 (Nat.le_refl _)
def shLast (s : ByteArray) : Sh := shRun shV (s ++ shPad s.size) ((s ++ shPad s.size).size / 64)
def shaB (s : ByteArray) : ByteArray := ⟨(shOut (shLast s)).toArray⟩
theorem shaB_size (s : ByteArray) : (shaB s).size = 32 := by rw [shaB, size_of, shOut_length]
/-- In two parts: the whole blocks of the text, and the rest with the padding. -/
theorem shLast_two (s : ByteArray) (r : ByteArray) (hr : r = s.extract (64 * (s.size / 64)) s.size ++ shPad s.size) : shLast s = shRun (shRun shV s (s.size / 64)) r (r.size / 64) := by
  have hz : (s ++ shPad s.size).size = s.size + (shNought s.size + 9) := by rw [size_app, shPad_size]
  have hm := shNought_mod s.size
  have hrz : r.size = s.size - 64 * (s.size / 64) + (shNought s.size + 9) := by rw [hr, size_app, shPad_size, size_cut _ _ _ (Nat.le_refl _)]
  have e1 : r = (s ++ shPad s.size).extract (64 * (s.size / 64)) (s ++ shPad s.size).size := by
    rw [hr]
    apply bytes_ext
    rw [toList_app, toList_cut, toList_cut, take_all, take_all, toList_app, List.drop_append_of_le_length (by simp; omega)]
  have e2 : (s ++ shPad s.size).size / 64 = s.size / 64 + r.size / 64 := by omega
  unfold shLast
  rw [e2, shRun_add _ _ _ _ (by omega), ← e1, shRun_left _ _ _ _ (by omega)]
def sha2 (s : ByteArray) : ByteArray := shaB (shaB s)
def shChk (s : ByteArray) : ByteArray := (sha2 s).extract 0 4
theorem sha2_size (s : ByteArray) : (sha2 s).size = 32 := shaB_size _
theorem shChk_size (s : ByteArray) : (shChk s).size = 4 := by rw [shChk, size_cut _ _ _ (by rw [sha2_size]; omega)]
/-! Reckoned at one text. -/
def schedR (s : ByteArray) : Nat → List Nat
  | 0 => []
  | i + 1 => (fun l => (if i < 16 then wordAt s i else (l.getD 15 0 + sg0 (l.getD 14 0) + l.getD 6 0 + sg1 (l.getD 1 0)) % 4294967296) :: l) (schedR s i)
theorem schedR_eq (s : ByteArray) : ∀ i, schedR s i = (sched s i).reverse
  | 0 => rfl
  | i + 1 => by
    have h := schedR_eq s i
    have hl := sched_length s i
    have hg : ∀ j, j < i → (sched s i).reverse.getD j 0 = (sched s i).getD (i - 1 - j) 0 := by
      intro j hj
      rw [List.getD_eq_getElem?_getD, List.getD_eq_getElem?_getD, List.getElem?_reverse (by omega), hl]
    rw [sched, List.reverse_append, List.reverse_singleton, List.singleton_append]
    show _ :: _ = _
    rw [h]
    congr 1
    unfold nextW
    by_cases h16 : i < 16
    · rw [if_pos h16, if_pos h16]
    · rw [if_neg h16, if_neg h16, hg 15 (by omega), hg 14 (by omega), hg 6 (by omega), hg 1 (by omega)]
      rw [show i - 1 - 15 = i - 16 from by omega, show i - 1 - 14 = i - 15 from by omega, show i - 1 - 6 = i - 7 from by omega, show i - 1 - 1 = i - 2 from by omega]
def roundsL : List (Nat × Nat) → Sh → Sh
  | [], s => s
  | (k, w) :: l, s => roundsL l (shStep k w s)
theorem roundsL_app : ∀ (l m : List (Nat × Nat)) (s : Sh), roundsL (l ++ m) s = roundsL m (roundsL l s)
  | [], _, _ => rfl
  | (k, w) :: l, m, s => roundsL_app l m (shStep k w s)
theorem roundsL_eq (blk : ByteArray) (s : Sh) : ∀ n, n ≤ 64 → roundsL ((List.zip shK (sched blk 64)).take n) s = shRounds shK blk n s
  | 0, _ => rfl
  | n + 1, h => by
    have hl : n < (List.zip shK (sched blk 64)).length := by rw [List.length_zip, shK_length, sched_length]; omega
    rw [List.take_succ_eq_append_getElem hl, roundsL_app, roundsL_eq blk s n (by omega), shRounds]
    have e : (List.zip shK (sched blk 64))[n] = (shK.getD n 0, wAt blk n) := by
      rw [List.getElem_zip]
      unfold wAt
      rw [List.getD_eq_getElem?_getD, List.getD_eq_getElem?_getD, List.getElem?_eq_getElem (by rw [shK_length]; omega), List.getElem?_eq_getElem (by rw [sched_length]; omega)]
      rfl
    rw [e]; rfl
def mixF (s : Sh) (blk : ByteArray) : Sh := shAdd s (roundsL (List.zip shKlit (schedR blk 64).reverse) s)
theorem mixF_eq (s : Sh) (blk : ByteArray) : mixF s blk = shMix shK s blk := by
  unfold mixF shMix
  rw [schedR_eq, List.reverse_reverse, ← shK_lit, ← roundsL_eq blk s 64 (Nat.le_refl _), List.take_of_length_le (by rw [List.length_zip, shK_length, sched_length]; omega)]
def Sh.eqB (s t : Sh) : Bool := s.a == t.a && s.b == t.b && s.c == t.c && s.d == t.d && s.e == t.e && s.f == t.f && s.g == t.g && s.h == t.h
theorem Sh.of_eqB {s t : Sh} (h : s.eqB t = true) : s = t := by
  cases s; cases t
  simp only [Sh.eqB, Bool.and_eq_true, beq_iff_eq] at h
  obtain ⟨⟨⟨⟨⟨⟨⟨h1, h2⟩, h3⟩, h4⟩, h5⟩, h6⟩, h7⟩, h8⟩ := h
  simp [*]
end Go.Proofs.YtacikiambpfipaaDoor
