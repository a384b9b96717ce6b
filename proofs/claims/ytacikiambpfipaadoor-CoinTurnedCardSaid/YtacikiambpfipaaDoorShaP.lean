/- SHA-256, as plain functions of numbers. No program in sight. -/
import Derived.Test.YtacikiambpfipaaDoorBytesP
namespace Go.Proofs.YtacikiambpfipaaDoor
set_option linter.unusedVariables false
set_option linter.unusedSimpArgs false

def rotr (x n : Nat) : Nat := x / 2 ^ n ||| x * 2 ^ (32 - n) % 4294967296
def sg0 (x : Nat) : Nat := rotr x 7 ^^^ rotr x 18 ^^^ x / 2 ^ 3
def sg1 (x : Nat) : Nat := rotr x 17 ^^^ rotr x 19 ^^^ x / 2 ^ 10
def Sg0 (x : Nat) : Nat := rotr x 2 ^^^ rotr x 13 ^^^ rotr x 22
def Sg1 (x : Nat) : Nat := rotr x 6 ^^^ rotr x 11 ^^^ rotr x 25
def shCh (e f g : Nat) : Nat := e &&& f ||| (e ^^^ 4294967295) &&& g
def shMaj (a b c : Nat) : Nat := a &&& b ||| a &&& c ||| b &&& c
theorem lt32 {n : Nat} : n < 4294967296 ↔ n < 2 ^ 32 := by simp
theorem or_lt32 {a b : Nat} (ha : a < 4294967296) (hb : b < 4294967296) : a ||| b < 4294967296 := by
  rw [lt32] at *; exact Nat.or_lt_two_pow ha hb
theorem and_lt32 {a b : Nat} (ha : a < 4294967296) : a &&& b < 4294967296 := Nat.lt_of_le_of_lt Nat.and_le_left ha
theorem xor_lt32 {a b : Nat} (ha : a < 4294967296) (hb : b < 4294967296) : a ^^^ b < 4294967296 := by
  rw [lt32] at *; exact Nat.xor_lt_two_pow ha hb
theorem div_lt32 {a : Nat} (n : Nat) (ha : a < 4294967296) : a / 2 ^ n < 4294967296 := Nat.lt_of_le_of_lt (Nat.div_le_self _ _) ha
theorem rotr_lt {x : Nat} (n : Nat) (h : x < 4294967296) : rotr x n < 4294967296 := or_lt32 (div_lt32 n h) (Nat.mod_lt _ (by omega))
theorem sg0_lt {x : Nat} (h : x < 4294967296) : sg0 x < 4294967296 := xor_lt32 (xor_lt32 (rotr_lt _ h) (rotr_lt _ h)) (div_lt32 _ h)
theorem sg1_lt {x : Nat} (h : x < 4294967296) : sg1 x < 4294967296 := xor_lt32 (xor_lt32 (rotr_lt _ h) (rotr_lt _ h)) (div_lt32 _ h)
theorem Sg0_lt {x : Nat} (h : x < 4294967296) : Sg0 x < 4294967296 := xor_lt32 (xor_lt32 (rotr_lt _ h) (rotr_lt _ h)) (rotr_lt _ h)
theorem Sg1_lt {x : Nat} (h : x < 4294967296) : Sg1 x < 4294967296 := xor_lt32 (xor_lt32 (rotr_lt _ h) (rotr_lt _ h)) (rotr_lt _ h)
theorem shCh_lt {e f g : Nat} (he : e < 4294967296) : shCh e f g < 4294967296 := or_lt32 (and_lt32 he) (and_lt32 (xor_lt32 he (by omega)))
theorem shMaj_lt {a b c : Nat} (ha : a < 4294967296) (hb : b < 4294967296) : shMaj a b c < 4294967296 := or_lt32 (or_lt32 (and_lt32 ha) (and_lt32 ha)) (and_lt32 hb)
/-- The program's choice and vote. -/
theorem shCh_xor (e f g : Nat) (he : e < 4294967296) : e &&& f ^^^ (e ^^^ 4294967295) &&& g = shCh e f g := by
  apply Nat.eq_of_testBit_eq
  intro i
  have h : Nat.testBit 4294967295 i = decide (i < 32) := by
    have := Nat.testBit_two_pow_sub_one 32 i
    simpa using this
  unfold shCh
  simp only [Nat.testBit_xor, Nat.testBit_and, Nat.testBit_or, h]
  by_cases hi : i < 32
  · simp only [hi, decide_true]
    cases Nat.testBit e i <;> cases Nat.testBit f i <;> cases Nat.testBit g i <;> rfl
  · have he2 : Nat.testBit e i = false := Nat.testBit_lt_two_pow (Nat.lt_of_lt_of_le (lt32.1 he) (Nat.pow_le_pow_right (by omega) (by omega)))
    simp [hi, he2]
theorem shMaj_xor (a b c : Nat) : (a &&& b ^^^ a &&& c) ^^^ b &&& c = shMaj a b c := by
  apply Nat.eq_of_testBit_eq
  intro i
  unfold shMaj
  simp only [Nat.testBit_xor, Nat.testBit_and, Nat.testBit_or]
  cases Nat.testBit a i <;> cases Nat.testBit b i <;> cases Nat.testBit c i <;> rfl
/-- The word at a place of a text. -/
def wordAt (s : ByteArray) (i : Nat) : Nat := (s.data.toList.getD (4 * i) 0).toNat * 16777216 + (s.data.toList.getD (4 * i + 1) 0).toNat * 65536 + (s.data.toList.getD (4 * i + 2) 0).toNat * 256 + (s.data.toList.getD (4 * i + 3) 0).toNat
theorem wordAt_lt (s : ByteArray) (i : Nat) : wordAt s i < 4294967296 := by
  have h1 := (s.data.toList.getD (4 * i) 0).toNat_lt
  have h2 := (s.data.toList.getD (4 * i + 1) 0).toNat_lt
  have h3 := (s.data.toList.getD (4 * i + 2) 0).toNat_lt
  have h4 := (s.data.toList.getD (4 * i + 3) 0).toNat_lt
  unfold wordAt; omega
/-- The words that a block spreads to. -/
def nextW (s : ByteArray) (l : List Nat) (i : Nat) : Nat :=
  if i < 16 then wordAt s i else (l.getD (i - 16) 0 + sg0 (l.getD (i - 15) 0) + l.getD (i - 7) 0 + sg1 (l.getD (i - 2) 0)) % 4294967296
def sched (s : ByteArray) : Nat → List Nat
  | 0 => []
  | i + 1 => sched s i ++ [nextW s (sched s i) i]
theorem sched_length (s : ByteArray) (i : Nat) : (sched s i).length = i := by
  induction i with
  | zero => rfl
  | succ i ih => simp [sched, ih]
theorem nextW_lt (s : ByteArray) (l : List Nat) (i : Nat) : nextW s l i < 4294967296 := by
  unfold nextW; split
  · exact wordAt_lt s i
  · exact Nat.mod_lt _ (by omega)
theorem sched_get (s : ByteArray) (i j : Nat) (h : j < i) : (sched s i).getD j 0 = nextW s (sched s j) j := by
  induction i with
  | zero => omega
  | succ i ih =>
    rw [sched, List.getD_eq_getElem?_getD]
    by_cases hj : j < i
    · rw [List.getElem?_append_left (by rw [sched_length]; exact hj), ← List.getD_eq_getElem?_getD]; exact ih hj
    · obtain rfl : j = i := by omega
      rw [List.getElem?_append_right (by rw [sched_length]; exact Nat.le_refl _), sched_length, Nat.sub_self]; rfl
theorem sched_lt (s : ByteArray) (i j : Nat) : (sched s i).getD j 0 < 4294967296 := by
  by_cases h : j < i
  · rw [sched_get s i j h]; exact nextW_lt _ _ _
  · rw [List.getD_eq_getElem?_getD, List.getElem?_eq_none (by rw [sched_length]; omega)]; simp
/-- The word at i. -/
def wAt (s : ByteArray) (i : Nat) : Nat := (sched s 64).getD i 0
theorem wAt_lt (s : ByteArray) (i : Nat) : wAt s i < 4294967296 := sched_lt s 64 i
theorem wAt_first (s : ByteArray) (i : Nat) (h : i < 16) : wAt s i = wordAt s i := by
  unfold wAt; rw [sched_get s 64 i (by omega), nextW, if_pos h]
theorem wAt_rec (s : ByteArray) (i : Nat) (h : 16 ≤ i) (h64 : i < 64) : wAt s i = (wAt s (i - 16) + sg0 (wAt s (i - 15)) + wAt s (i - 7) + sg1 (wAt s (i - 2))) % 4294967296 := by
  unfold wAt
  rw [sched_get s 64 i h64, nextW, if_neg (by omega), sched_get s 64 (i - 16) (by omega), sched_get s 64 (i - 15) (by omega), sched_get s 64 (i - 7) (by omega), sched_get s 64 (i - 2) (by omega),
    sched_get s i (i - 16) (by omega), sched_get s i (i - 15) (by omega), sched_get s i (i - 7) (by omega), sched_get s i (i - 2) (by omega)]
/-- The eight words. -/
structure Sh where
  a : Nat
  b : Nat
  c : Nat
  d : Nat
  e : Nat
  f : Nat
  g : Nat
  h : Nat
structure Sh.ok (s : Sh) : Prop where
  a : s.a < 4294967296
  b : s.b < 4294967296
  c : s.c < 4294967296
  d : s.d < 4294967296
  e : s.e < 4294967296
  f : s.f < 4294967296
  g : s.g < 4294967296
  h : s.h < 4294967296
def shP (k w : Nat) (s : Sh) : Nat := (s.h + Sg1 s.e + k + w + shCh s.e s.f s.g) % 4294967296
def shQ (s : Sh) : Nat := (Sg0 s.a + shMaj s.a s.b s.c) % 4294967296
def shStep (k w : Nat) (s : Sh) : Sh := ⟨(shP k w s + shQ s) % 4294967296, s.a, s.b, s.c, (s.d + shP k w s) % 4294967296, s.e, s.f, s.g⟩
theorem shStep_ok (k w : Nat) {s : Sh} (h : s.ok) : (shStep k w s).ok := ⟨Nat.mod_lt _ (by omega), h.a, h.b, h.c, Nat.mod_lt _ (by omega), h.e, h.f, h.g⟩
def shRounds (K : List Nat) (blk : ByteArray) : Nat → Sh → Sh
  | 0, s => s
  | i + 1, s => shStep (K.getD i 0) (wAt blk i) (shRounds K blk i s)
theorem shRounds_ok (K : List Nat) (blk : ByteArray) (i : Nat) {s : Sh} (h : s.ok) : (shRounds K blk i s).ok := by
  induction i with
  | zero => exact h
  | succ i ih => exact shStep_ok _ _ ih
def shAdd (s t : Sh) : Sh := ⟨(s.a + t.a) % 4294967296, (s.b + t.b) % 4294967296, (s.c + t.c) % 4294967296, (s.d + t.d) % 4294967296, (s.e + t.e) % 4294967296, (s.f + t.f) % 4294967296, (s.g + t.g) % 4294967296, (s.h + t.h) % 4294967296⟩
def shMix (K : List Nat) (s : Sh) (blk : ByteArray) : Sh := shAdd s (shRounds K blk 64 s)
theorem shMix_ok (K : List Nat) (s : Sh) (blk : ByteArray) : (shMix K s blk).ok := ⟨Nat.mod_lt _ (by omega), Nat.mod_lt _ (by omega), Nat.mod_lt _ (by omega), Nat.mod_lt _ (by omega), Nat.mod_lt _ (by omega), Nat.mod_lt _ (by omega), Nat.mod_lt _ (by omega), Nat.mod_lt _ (by omega)⟩
/-- The ring of the last sixteen words, k words having come. -/
def ringAt (blk : ByteArray) (k j : Nat) : Nat := if j < k then wAt blk (j + 16 * ((k - 1 - j) / 16)) else 0
theorem ringAt_lt (blk : ByteArray) (k j : Nat) : ringAt blk k j < 4294967296 := by
  unfold ringAt; split
  · exact wAt_lt _ _
  · omega
theorem ringAt_back (blk : ByteArray) (k d : Nat) (h : 16 ≤ k) (hd : d < 16) : ringAt blk k ((k + d) % 16) = wAt blk (k - 16 + d) := by
  unfold ringAt
  rw [if_pos (by omega), show (k + d) % 16 + 16 * ((k - 1 - (k + d) % 16) / 16) = k - 16 + d from by omega]
theorem ringAt_new (blk : ByteArray) (k : Nat) : ringAt blk (k + 1) (k % 16) = wAt blk k := by
  unfold ringAt
  rw [if_pos (by omega), show k % 16 + 16 * ((k + 1 - 1 - k % 16) / 16) = k from by omega]
theorem ringAt_other (blk : ByteArray) (k j : Nat) (hj : j < 16) (hn : j ≠ k % 16) : ringAt blk (k + 1) j = ringAt blk k j := by
  unfold ringAt
  by_cases h : j < k
  · rw [if_pos (by omega), if_pos h, show (k + 1 - 1 - j) / 16 = (k - 1 - j) / 16 from by omega]
  · rw [if_neg (by omega), if_neg h]
end Go.Proofs.YtacikiambpfipaaDoor
