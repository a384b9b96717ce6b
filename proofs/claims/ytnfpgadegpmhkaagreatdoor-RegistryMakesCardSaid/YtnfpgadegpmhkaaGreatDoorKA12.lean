/- fixed.digits, fits; plain: digits, the least. -/
import Derived.Test.YtnfpgadegpmhkaaGreatDoorProg
import Derived.Test.YtnfpgadegpmhkaaGreatDoorKA4
import Derived.Test.YtnfpgadegpmhkaaGreatDoorKA3
import Derived.WalkSpells
import Derived.LoopTactic
set_option linter.unusedVariables false
set_option linter.unusedSimpArgs false
set_option maxRecDepth 100000
set_option maxHeartbeats 1000000
namespace Go.Proofs.YtnfpgadegpmhkaaGreatDoor
open Go.RowKit
theorem info_byte' : (Tryz.prog.info? 5).map (fun i => (i.zero, i.size, i.bytes)) = some (some (.int .u8 0), 1, 1) := by kernel_rfl
def DigInv (n sz : Nat) (w : World) (i : Value) (wr : World) : Prop :=
 ∃ k : Nat, k ≤ sz ∧ i = .int .i64 k ∧ Buf wr w.heap.size 5 (.slice (some ⟨w.heap.size, 0, none⟩) sz sz) (leD n k ++ List.replicate (sz - k) 0) ∧ Kept 5 w.heap.size w wr
theorem digits_c (n sz : Nat) (w : World) (hn : n < 18446744073709551616) (hsz : sz ≤ 8) :
 Calls Tryz.prog 143 #[.int .u64 n, .int .i64 sz] w fun e w' => e = .returned (.slice (some ⟨w.heap.size, 0, none⟩) sz sz) ∧ Buf w' w.heap.size 5 (.slice (some ⟨w.heap.size, 0, none⟩) sz sz) (leD n sz) ∧ Kept 5 w.heap.size w w' := by
 obtain ⟨i0, hi, hz0, hz1, hz2⟩ := info_parts info_byte'
 go_enter Tryz.func143, Tryz.ntmps143
 go_wp2_with (at_make; refine wpList_make_full _ rfl _ _ 117 rfl w.heap.size 5 i0 (.int .u8 0) 1 Tryz.underlying117 hi hz0 hz1 .i64 .i64 _ _ sz rfl rfl (by omega) (by omega) (by rw [hz2]; omega) (by simp only [maxLen]; omega) (by omega) ?_; intro w1 hown1 hgrow1)
 have hb1 : Buf w1 w.heap.size 5 (.slice (some ⟨w.heap.size, 0, none⟩) sz sz) (List.replicate sz 0) := by
  rw [made_bytes] at hown1
  have := Buf.own (l := List.replicate sz 0) (by simpa using hown1)
  simpa using this
 have hk1 : Kept 5 w.heap.size w w1 := Kept.of_none hgrow1 (Nat.le_refl _)
 clear hown1 hgrow1
 go_loopw [10] (fun i wr => DigInv n sz w i wr) (fun i _ => sz - (intOf i).toNat)
 case atStart => exact ⟨0, by omega, rfl, by simpa [leD] using hb1, hk1⟩
 case round =>
  obtain ⟨k, hk, rfl, hbuf, hkept⟩ := hrel
  have hsz' := hkept.size
  clear hb1 hk1
  by_cases hlt : k < sz
  ·have hl : (leD n k ++ List.replicate (sz - k) (0 : UInt8)).length = sz := by rw [List.length_append, leD_length, List.length_replicate]; omega
   obtain ⟨c1, f1, g1, g2⟩ := hbuf.at_ (k := k) (by omega)
   have HS := Lib.hid (hbuf.set (k := k) (by omega) (ub (n / 2 ^ (8 * k) % 256 : Nat)))
   rw [dig_step hlt] at HS
   obtain ⟨cur, fr, hcur, _⟩ := hbuf.block
   have HK := Lib.hid (fun v => hkept.store (k := k) hcur (Nat.le_refl _) v)
   clear hl hcur hbuf hkept
   go_wp2
   go_roundw
   case rel =>
    rw [dig_val]
    exact ⟨k + 1, by omega, by go_num, HS.out, HK.out _⟩
   case measure => simp [intOf]; omega
  ·go_wp2
   go_ret
   obtain rfl : sz = k := by omega
   exact ⟨rfl, by simpa using hbuf, hkept⟩
theorem dfits_c (n sz : Nat) (w : World) (hn : n < 2 ^ (8 * sz)) (h1 : 1 ≤ sz) (h8 : sz ≤ 8) :
 Calls Tryz.prog 148 #[.int .u64 n, .int .i64 sz] w fun e w' => e = .returned (.int .i64 0) ∧ w = w' := by
 have e0 : (n : Int) / 2 ^ (8 * sz) = 0 := by
  have : ((n / 2 ^ (8 * sz) : Nat) : Int) = 0 := by rw [Nat.div_eq_of_lt hn]; rfl
  simpa using this
 have H := Lib.hid hn
 clear hn
 go_enter Tryz.func148, Tryz.ntmps148
 go_wp2
 go_ret
 exact ⟨rfl, rfl⟩
theorem little_c (n sz : Nat) (w : World) (hn : n < 2 ^ (8 * sz)) (h1 : 1 ≤ sz) (h8 : sz ≤ 8) :
 Calls Tryz.prog 108 #[.int .u64 n, .int .i64 sz] w fun e w' => e = .returned (.tuple #[.string ⟨(leD n sz).toArray⟩, .int .i64 0]) ∧ Below w.heap.size w w' := by
 have hp := le_pow sz h8
 have HF := Lib.hid (dfits_c n sz w hn h1 h8)
 have HD := Lib.hid (digits_c n sz w (by omega) h8)
 clear hn hp
 go_enter Tryz.func108, Tryz.ntmps108
 go_wp2_with fail
 refine HF.out.mono ?_
 rintro e w' ⟨rfl, rfl⟩
 go_wp2_with fail
 refine HD.out.mono ?_
 rintro e w' ⟨rfl, hbuf, hkept⟩
 have hs := Buf.str (P := Tryz.prog) (l := leD n sz) (A := some ⟨w.heap.size, 0, none⟩) (cap := sz) Tryz.underlying117 Tryz.underlying5 Tryz.underlying9 (by rw [leD_length]; exact hbuf)
 rw [leD_length] at hs
 have hb := hkept.below
 clear hbuf hkept
 go_wp2
 go_ret2
 exact ⟨rfl, hb⟩
def rv (l : List UInt8) : Nat → List UInt8
 | 0 => l
 | k + 1 => ((rv l k).set k ((rv l k).getD (l.length - 1 - k) 0)).set (l.length - 1 - k) ((rv l k).getD k 0)
theorem rv_length (l : List UInt8) (k : Nat) : (rv l k).length = l.length := by
 induction k with
 | zero => rfl
 | succ k ih => simp [rv, ih]
theorem rv_at (l : List UInt8) (k : Nat) : 2 * k ≤ l.length + 1 → ∀ j, j < l.length → (rv l k)[j]? = if j < k ∨ l.length - k ≤ j then l[l.length - 1 - j]? else l[j]? := by
 induction k with
 | zero => intro _ j hj; rw [if_neg (by omega)]; rfl
 | succ k ih =>
  intro hk j hj
  have IH := ih (by omega)
  have e1 := IH k (by omega)
  have e2 := IH (l.length - 1 - k) (by omega)
  have hl := rv_length l k
  simp only [rv, List.getElem?_set, List.getD_eq_getElem?_getD, List.length_set, hl]
  by_cases h1 : l.length - 1 - k = j
  ·subst h1
   rw [if_pos rfl, if_pos hj, if_pos (by omega), e1]
   by_cases h3 : k = l.length - 1 - k
   ·rw [if_neg (by omega), ← h3, List.getElem?_eq_getElem (by omega), ]
    simp only [Option.getD_some]
    rw [show l.length - 1 - k = k from by omega, List.getElem?_eq_getElem (by omega)]
   ·rw [if_neg (by omega), show l.length - 1 - (l.length - 1 - k) = k from by omega, List.getElem?_eq_getElem (by omega)]
    rfl
  ·rw [if_neg h1]
   by_cases h2 : k = j
   ·subst h2
    rw [if_pos rfl, if_pos hj, if_pos (by omega), e2, if_neg (by omega), List.getElem?_eq_getElem (by omega)]
    rfl
   ·rw [if_neg h2, IH j hj]
    by_cases h3 : j < k ∨ l.length - k ≤ j
    ·rw [if_pos h3, if_pos (by omega)]
    ·rw [if_neg h3, if_neg (by omega)]
theorem rv_all (l : List UInt8) (k : Nat) (h : l.length ≤ 2 * k + 1) (hk : 2 * k ≤ l.length + 1) : rv l k = l.reverse := by
 apply List.ext_getElem?
 intro j
 by_cases hj : j < l.length
 ·rw [rv_at l k hk j hj, List.getElem?_reverse hj]
  by_cases h3 : j < k ∨ l.length - k ≤ j
  ·rw [if_pos h3]
  ·rw [if_neg h3, show l.length - 1 - j = j from by omega]
 ·rw [List.getElem?_eq_none (by rw [rv_length]; omega), List.getElem?_eq_none (by simp; omega)]
theorem reverse_c (base g cap : Nat) (l : List UInt8) (w : World) (hbuf : Buf w base 5 (.slice (some ⟨g, 0, none⟩) l.length cap) l) (hl : l.length ≤ 1099511627776) :
 Calls Tryz.prog 169 #[.slice (some ⟨g, 0, none⟩) l.length cap] w fun e w' => e = .returned (.tuple #[]) ∧ Buf w' base 5 (.slice (some ⟨g, 0, none⟩) l.length cap) l.reverse ∧ Kept 5 base w w' := by
 obtain ⟨n, hn⟩ : ∃ n, l.length = n := ⟨_, rfl⟩
 rw [hn] at hbuf hl ⊢
 have HN := Lib.hid hn
 have hc := hbuf.len.2
 clear hn
 go_enter Tryz.func169, Tryz.ntmps169
 go_wp2
 go_loopw [2, 3] (fun i j wr => ∃ k : Nat, 2 * k ≤ n + 1 ∧ i = .int .i64 k ∧ j = .int .i64 ((n : Int) - 1 - k) ∧ Buf wr base 5 (.slice (some ⟨g, 0, none⟩) n cap) (rv l k) ∧ Kept 5 base w wr) (fun i _ _ => n - (intOf i).toNat)
 case atStart => exact ⟨0, by omega, rfl, by go_num, hbuf, Kept.refl _ _ _⟩
 case round =>
  obtain ⟨k, hk, rfl, rfl, hb, hkept⟩ := hrel
  clear hbuf
  by_cases hlt : 2 * k + 1 < n
  ·have hlen : (rv l k).length = n := by rw [rv_length, HN.out]
   obtain ⟨d, hd⟩ : ∃ d : Nat, n - 1 - k = d := ⟨_, rfl⟩
   have hdi : (n : Int) - 1 - k = d := by omega
   obtain ⟨c1, f1, g1, g2⟩ := hb.at_ (k := k) (by omega)
   obtain ⟨c2, f2, _, _⟩ := hb.at_ (k := d) (by omega)
   have HS := Lib.hid ((hb.set (k := k) (by omega) ((rv l k).getD d 0)).set (k := d) (by rw [List.length_set]; omega) ((rv l k).getD k 0))
   obtain ⟨cur, fr, hcur, hbg⟩ := hb.block
   have HK := Lib.hid (((hkept.store (k := k) hcur hbg (.int .u8 ((rv l k).getD d 0).toNat))).store (k := d) (setCell_heap _ hcur) hbg (.int .u8 ((rv l k).getD k 0).toNat))
   have HR : Hid (((rv l k).set k ((rv l k).getD d 0)).set d ((rv l k).getD k 0) = rv l (k + 1)) := Lib.hid (by simp only [rv]; rw [HN.out, hd])
   rw [HR.out] at HS
   have hne : (⟨g, d, none⟩ : Addr) ≠ ⟨g, k, none⟩ := fun e => by have := congrArg Addr.off e; simp at this; omega
   rw [hdi]
   have ht : ((rv l k).getD d 0).toNat < 256 := UInt8.toNat_lt _
   have ht2 : ((rv l k).getD k 0).toNat < 256 := UInt8.toNat_lt _
   generalize ((rv l k).getD d 0).toNat = y at *
   generalize ((rv l k).getD k 0).toNat = x at *
   have hkd : k < d := by omega
   have hdn : d < n := by omega
   clear hcur hb hkept hlen hd
   go_wp2
   go_region
   all_goals
    go_wp2
    go_roundw
    case rel => exact ⟨k + 1, by omega, by go_num, by go_num, HS.out.drew, HK.out.drew⟩
    case measure => simp [intOf]; omega
  ·have e : rv l k = l.reverse := rv_all l k (by rw [HN.out]; omega) (by rw [HN.out]; omega)
   rw [e] at hb
   go_wp2
   go_end0
   exact ⟨rfl, hb, hkept⟩
theorem turnedB_c (base g cap : Nat) (l : List UInt8) (w : World) (hbuf : Buf w base 5 (.slice (some ⟨g, 0, none⟩) l.length cap) l) (hl : l.length ≤ 1099511627776) :
 Calls Tryz.prog 142 #[.slice (some ⟨g, 0, none⟩) l.length cap] w fun e w' => e = .returned (.string ⟨l.reverse.toArray⟩) ∧ Kept 5 base w w' := by
 have HC := Lib.hid (reverse_c base g cap l w hbuf hl)
 clear hbuf
 go_enter Tryz.func142, Tryz.ntmps142
 go_wp2_with fail
 refine HC.out.mono ?_
 rintro e w1 ⟨rfl, hb, hk⟩
 have hst := hb.str' (P := Tryz.prog) Tryz.underlying117 Tryz.underlying5 Tryz.underlying9
 have HK := Lib.hid hk
 clear hb hk
 obtain ⟨X, HX⟩ : ∃ X, Hid ((⟨l.reverse.toArray⟩ : ByteArray) = X) := ⟨_, Lib.hid rfl⟩
 rw [HX.out] at hst
 generalize l.length = n at *
 go_wp2
 go_ret
 exact ⟨by rw [HX.out]; rfl, HK.out⟩
end Go.Proofs.YtnfpgadegpmhkaaGreatDoor
