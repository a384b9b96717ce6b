/- fixed.digits, fits; plain: digits, the least. -/
import Derived.Test.YtacikiambpfipaaDoorProg
import Derived.Test.YtacikiambpfipaaDoorKBuf
import Derived.Test.YtacikiambpfipaaDoorKA1
import Derived.WalkSpells
import Derived.LoopTactic
namespace Go.Proofs.YtacikiambpfipaaDoor
set_option linter.unusedVariables false
set_option linter.unusedSimpArgs false
open Go.RowKit

theorem info_byte' : (Tryd.prog.info? 5).map (fun i => (i.zero, i.size, i.bytes)) = some (some (.int .u8 0), 1, 1) := by kernel_rfl
/-- The lowest k digits of base 256, the lowest first. -/
def leD (n : Nat) : Nat → List UInt8
  | 0 => []
  | k + 1 => leD n k ++ [ub (n / 2 ^ (8 * k) % 256 : Nat)]
theorem leD_length (n k : Nat) : (leD n k).length = k := by
  induction k with
  | zero => rfl
  | succ k ih => simp [leD, ih]
def DigInv (n sz : Nat) (w : World) (i : Value) (wr : World) : Prop :=
  ∃ k : Nat, k ≤ sz ∧ i = .int .i64 k ∧ Buf wr w.heap.size 5 (.slice (some ⟨w.heap.size, 0, none⟩) sz sz) (leD n k ++ List.replicate (sz - k) 0) ∧ Kept 5 w.heap.size w wr
theorem dig_step {n k sz : Nat} (h : k < sz) : (leD n k ++ List.replicate (sz - k) (0 : UInt8)).set k (ub (n / 2 ^ (8 * k) % 256 : Nat)) = leD n (k + 1) ++ List.replicate (sz - (k + 1)) 0 := by
  obtain ⟨d, hd⟩ : ∃ d, sz - k = d + 1 := ⟨sz - k - 1, by omega⟩
  rw [hd, List.replicate_succ, List.set_append_right _ _ (by rw [leD_length]; exact Nat.le_refl _), leD_length, Nat.sub_self, List.set_cons_zero, show sz - (k + 1) = d from by omega]
  simp [leD]

theorem dig_val (n k : Nat) : (n : Int) / 2 ^ (8 * k) % 256 = ((ub (n / 2 ^ (8 * k) % 256 : Nat)).toNat : Int) := by
  rw [ub_toNat _ (by omega)]
  simp
theorem leD_cons (n k : Nat) : leD n (k + 1) = ub (n % 256 : Nat) :: leD (n / 256) k := by
  induction k with
  | zero => simp [leD]
  | succ k ih =>
    rw [leD, ih, leD, List.cons_append]
    congr 4
    rw [Nat.div_div_eq_div_mul, show (256 : Nat) = 2 ^ 8 from rfl, ← Nat.pow_add, show 8 + 8 * k = 8 * (k + 1) from by omega]
/-- A number's least digits, the highest first. -/
def minL (n : Nat) : List UInt8 := if h : n = 0 then [] else minL (n / 256) ++ [ub (n % 256 : Nat)]
termination_by n
theorem minL_zero : minL 0 = [] := by rw [minL]; simp
theorem minL_pos {n : Nat} (h : n ≠ 0) : minL n = minL (n / 256) ++ [ub (n % 256 : Nat)] := by rw [minL]; simp [h]
theorem pow8 (k : Nat) : 2 ^ (8 * (k + 1)) = 256 * 2 ^ (8 * k) := by rw [show 8 * (k + 1) = 8 + 8 * k from by omega, Nat.pow_add]
theorem minL_length (k : Nat) : ∀ n, n < 2 ^ (8 * k) → (minL n).length ≤ k := by
  induction k with
  | zero => intro n h; simp at h; subst h; simp [minL_zero]
  | succ k ih =>
    intro n h
    by_cases h0 : n = 0
    · subst h0; simp [minL_zero]
    · rw [minL_pos h0, List.length_append]
      have := ih (n / 256) (by rw [pow8] at h; exact Nat.div_lt_of_lt_mul h)
      simp; omega
theorem least_pad (k : Nat) : ∀ n, n < 2 ^ (8 * k) → List.replicate (k - (minL n).length) 0 ++ minL n = (leD n k).reverse := by
  induction k with
  | zero => intro n h; simp at h; subst h; simp [minL_zero, leD]
  | succ k ih =>
    intro n h
    have hl := minL_length (k + 1) n h
    have hd : n / 256 < 2 ^ (8 * k) := by rw [pow8] at h; exact Nat.div_lt_of_lt_mul h
    rw [leD_cons, List.reverse_cons, ← ih _ hd]
    by_cases h0 : n = 0
    · subst h0
      simp [minL_zero, ub]
      rw [List.replicate_succ']
    · rw [minL_pos h0, List.length_append, List.length_singleton, show k + 1 - ((minL (n / 256)).length + 1) = k - (minL (n / 256)).length from by omega, List.append_assoc]
set_option maxRecDepth 100000 in
set_option maxHeartbeats 1000000 in
theorem digits_c (n sz : Nat) (w : World) (hn : n < 18446744073709551616) (hsz : sz ≤ 8) :
    Calls Tryd.prog 106 #[.int .u64 n, .int .i64 sz] w fun e w' => e = .returned (.slice (some ⟨w.heap.size, 0, none⟩) sz sz) ∧ Buf w' w.heap.size 5 (.slice (some ⟨w.heap.size, 0, none⟩) sz sz) (leD n sz) ∧ Kept 5 w.heap.size w w' := by
  obtain ⟨i0, hi, hz0, hz1, hz2⟩ := info_parts info_byte'
  go_enter Tryd.func106, Tryd.ntmps106
  go_wp2_with (at_make; refine wpList_make_full _ rfl _ _ 54 rfl w.heap.size 5 i0 (.int .u8 0) 1 Tryd.underlying54 hi hz0 hz1 .i64 .i64 _ _ sz rfl rfl (by omega) (by omega) (by rw [hz2]; omega) (by simp only [maxLen]; omega) (by omega) ?_; intro w1 hown1 hgrow1)
  have hb1 : Buf w1 w.heap.size 5 (.slice (some ⟨w.heap.size, 0, none⟩) sz sz) (List.replicate sz 0) := by
    rw [made_bytes] at hown1
    have := Buf.own (l := List.replicate sz 0) (by simpa using hown1)
    simpa using this
  have hk1 : Kept 5 w.heap.size w w1 := Kept.of_none hgrow1 (Nat.le_refl _)
  clear hown1 hgrow1
  go_loopw [10] (fun i wr => DigInv n sz w i wr) (fun i _ => sz - (intOf i).toNat)
  case atStart => exact ⟨0, by omega, rfl, by simpa [leD] using hb1, hk1⟩
  case round =>
    obtain ⟨k, hk, rfl, hbuf, hkept⟩ := hrel
    have hsz' := hkept.size
    clear hb1 hk1
    by_cases hlt : k < sz
    · have hl : (leD n k ++ List.replicate (sz - k) (0 : UInt8)).length = sz := by rw [List.length_append, leD_length, List.length_replicate]; omega
      obtain ⟨c1, f1, g1, g2⟩ := hbuf.at_ (k := k) (by omega)
      have HS := Lib.hid (hbuf.set (k := k) (by omega) (ub (n / 2 ^ (8 * k) % 256 : Nat)))
      rw [dig_step hlt] at HS
      obtain ⟨cur, fr, hcur, _⟩ := hbuf.block
      have HK := Lib.hid (fun v => hkept.store (k := k) hcur (Nat.le_refl _) v)
      clear hl hcur hbuf hkept
      go_wp2
      go_roundw
      case rel =>
        rw [dig_val]
        exact ⟨k + 1, by omega, by go_num, HS.out, HK.out _⟩
      case measure => simp [intOf]; omega
    · go_wp2
      go_ret
      obtain rfl : sz = k := by omega
      exact ⟨rfl, by simpa using hbuf, hkept⟩
end Go.Proofs.YtacikiambpfipaaDoor
