/- The document's key: the roots, found once. -/
import Derived.Test.YtebllmpdlapefaaGreatDoorKA19
import Derived.Test.YtebllmpdlapefaaGreatDoorKA1
import Derived.Test.YtebllmpdlapefaaGreatDoorKA13
import Derived.Laws.Rows
import Derived.Laws.Tables
import Derived.Laws.ResultCell
namespace Go.Proofs.YtebllmpdlapefaaGreatDoor
set_option linter.unusedVariables false
set_option linter.unusedSimpArgs false
open Go.RowKit

def kNum (K H : List Nat) (n i : Nat) : Nat := if i < 64 then (if i < n then K.getD i 0 else 0) else (if i - 64 < n then H.getD (i - 64) 0 else 0)
/-- The key's cells, n primes having been found. -/
def kLG (K H : List Nat) (n : Nat) : List Value := (List.range 72).map fun i => .int .u32 (kNum K H n i : Nat)
def kL (n : Nat) : List Value := kLG shK shH n
def kC (n : Nat) : Array Value := (kL n).toArray
def keyV : Value := .agg (kC 64)
theorem kLG_length (K H : List Nat) (n : Nat) : (kLG K H n).length = 72 := by simp [kLG]
theorem kL_length (n : Nat) : (kL n).length = 72 := kLG_length _ _ n
theorem kC_size (n : Nat) : (kC n).size = 72 := by simp [kC, kL_length]
theorem kC_at (n i : Nat) (h : i < 72) : (kC n)[i]? = some (.int .u32 (kNum shK shH n i : Nat)) := by
  simp [kC, kL, kLG, h]
theorem kC_one (n : Nat) : (kC n).all (·.oneCell') = true := by
  rw [Array.all_eq_true_iff_forall_mem]
  intro v hv
  simp only [kC, List.mem_toArray, kL, kLG, List.mem_map] at hv
  obtain ⟨i, _, rfl⟩ := hv
  rfl
theorem kLG_step (K H : List Nat) (n : Nat) (h : n < 64) : (if n < 8 then ((kLG K H n).set n (.int .u32 (K.getD n 0 : Nat))).set (64 + n) (.int .u32 (H.getD n 0 : Nat)) else (kLG K H n).set n (.int .u32 (K.getD n 0 : Nat))) = kLG K H (n + 1) := by
  apply List.ext_getElem
  · split <;> simp [kLG_length]
  · intro i h1 h2
    have hi : i < 72 := by simpa [kLG_length] using h2
    have e2 : (kLG K H (n + 1))[i] = .int .u32 (kNum K H (n + 1) i : Nat) := by simp [kLG]
    refine Eq.trans ?_ e2.symm
    by_cases h8 : n < 8
    · simp only [if_pos h8]
      simp only [List.getElem_set]
      by_cases a : 64 + n = i
      · rw [if_pos a]
        congr 2
        unfold kNum
        rw [if_neg (by omega), if_pos (by omega)]
        congr 1; omega
      · rw [if_neg a]
        by_cases c : n = i
        · subst c
          rw [if_pos rfl]
          congr 2
          unfold kNum
          rw [if_pos (by omega), if_pos (by omega)]
        · rw [if_neg c]
          simp only [kLG, List.getElem_map, List.getElem_range]
          congr 2
          unfold kNum
          by_cases d : i < 64
          · rw [if_pos d, if_pos d]
            by_cases e : i < n
            · rw [if_pos e, if_pos (by omega)]
            · rw [if_neg e, if_neg (by omega)]
          · rw [if_neg d, if_neg d]
            by_cases e : i - 64 < n
            · rw [if_pos e, if_pos (by omega)]
            · rw [if_neg e, if_neg (by omega)]
    · simp only [if_neg h8]
      simp only [List.getElem_set]
      by_cases c : n = i
      · subst c
        rw [if_pos rfl]
        congr 2
        unfold kNum
        rw [if_pos (by omega), if_pos (by omega)]
      · rw [if_neg c]
        simp only [kLG, List.getElem_map, List.getElem_range]
        congr 2
        unfold kNum
        by_cases d : i < 64
        · rw [if_pos d, if_pos d]
          by_cases e : i < n
          · rw [if_pos e, if_pos (by omega)]
          · rw [if_neg e, if_neg (by omega)]
        · rw [if_neg d, if_neg d, if_pos (by omega), if_pos (by omega)]
theorem kL_step (n : Nat) (h : n < 64) : (if n < 8 then ((kL n).set n (.int .u32 (shK.getD n 0 : Nat))).set (64 + n) (.int .u32 (shH.getD n 0 : Nat)) else (kL n).set n (.int .u32 (shK.getD n 0 : Nat))) = kL (n + 1) := kLG_step shK shH n h
theorem kC_set (n i : Nat) (v : Value) : (kC n).setIfInBounds i v = ((kL n).set i v).toArray := by simp [kC]
theorem kC_less (n : Nat) (h : n < 64) (h8 : n < 8) : ((kC n).setIfInBounds n (.int .u32 (shK.getD n 0 : Nat))).setIfInBounds (64 + n) (.int .u32 (shH.getD n 0 : Nat)) = kC (n + 1) := by
  have := kL_step n h
  rw [if_pos h8] at this
  rw [kC_set, List.setIfInBounds_toArray, this]; rfl
theorem kC_more (n : Nat) (h : n < 64) (h8 : ¬ n < 8) : (kC n).setIfInBounds n (.int .u32 (shK.getD n 0 : Nat)) = kC (n + 1) := by
  have := kL_step n h
  rw [if_neg h8] at this
  rw [kC_set, this]; rfl
theorem at_of_pre {T l t : List Nat} {p : Nat} (h : l ++ [p] ++ t = T) : T[l.length]? = some p := by subst h; simp
theorem map_at {T : List Nat} (f : Nat → Nat) {i p : Nat} (h : T[i]? = some p) : (T.map f).getD i 0 = f p := by
  rw [List.getD_eq_getElem?_getD, List.getElem?_map, h]; rfl
/-- The n-th prime's roots. -/
theorem key_at (p : Nat) (hp : p ≤ 311) (h : 2 ≤ p ∧ divsB p p = true) : shK.getD (primesTo p).length 0 = fracN p 3 ∧ ((primesTo p).length < 8 → shH.getD (primesTo p).length 0 = fracN p 2) ∧ (primesTo (p + 1)).length = (primesTo p).length + 1 := by
  have hs := primesTo_succ p
  rw [if_pos h] at hs
  have hpre := primes_pre (show p + 1 ≤ 312 by omega)
  rw [hs] at hpre
  obtain ⟨t, ht⟩ := hpre
  have hat := at_of_pre ht
  refine ⟨map_at _ hat, fun h8 => map_at _ (by rw [List.getElem?_take_of_lt h8]; exact hat), by rw [hs, List.length_append, List.length_singleton]⟩
theorem zero_key : Tryz.zeroCells32 = kC 0 := by kernel_rfl
theorem info_key : (Tryz.prog.info? 32).map (·.size) = some 72 := by kernel_rfl
theorem info_key' (n : Nat) : (Tryz.prog.info? 32).map (·.size) = some (kC n).size := by rw [kC_size]; exact info_key
structure KeyAt (w : World) (nv pv : Value) (wr : World) : Prop where
  ex : ∃ p n : Nat, pv = .int .u64 p ∧ nv = .int .i64 n ∧ n = (primesTo p).length ∧ 2 ≤ p ∧ p ≤ 312 ∧ Blk wr (w.heap.size + 1) 32 (kC n) ∧ Blk wr w.heap.size 32 (kC 0) ∧ Below w.heap.size w wr
set_option maxRecDepth 100000 in
set_option maxHeartbeats 4000000 in
theorem makeKey_c (w : World) : Calls Tryz.prog 14 #[] w fun e w' => e = .returned keyV ∧ Below w.heap.size w w' := by
  have HZ := Lib.hid zero_key
  go_enter Tryz.func14, Tryz.ntmps14
  go_wp2
  rw [HZ.out]
  obtain ⟨W0, hW0⟩ : ∃ W0, (w.alloc (.cells (kC 0) 32)).alloc (.cells (kC 0) 32) = W0 := ⟨_, rfl⟩
  have HS0 : Hid (KeyAt w (.int .i64 0) (.int .u64 2) W0) := Lib.hid (by
    rw [← hW0]
    refine ⟨2, 0, rfl, rfl, rfl, by omega, by omega, ?_, (Blk.new w _ _).alloc _, ((Below.refl _ w).alloc (Nat.le_refl _) _).alloc (by simp) _⟩
    have := Blk.new (w.alloc (.cells (kC 0) 32)) 32 (kC 0)
    rwa [World.size_alloc] at this)
  rw [hW0]
  clear hW0
  go_loopw [2, 3] (fun n p wr => KeyAt w n p wr) (fun _ p _ => 312 - (intOf p).toNat)
  case atStart => exact HS0.out
  case round =>
    obtain ⟨p, n, rfl, rfl, hn, hp2, hp, hk, hr, hb⟩ := hrel.ex
    have HK := Lib.hid hk
    have HR := Lib.hid hr
    have HB := Lib.hid hb
    have HN := Lib.hid hn
    have hkl := hk.lt
    have hsz := hb.size
    clear hk hr hb
    by_cases hn64 : n < 64
    · have hp311 : p ≤ 311 := primes_below (by omega)
      clear hn
      go_wp2
      go_loop [4, 5] (fun c d => ∃ k : Nat, 2 ≤ k ∧ k ≤ p ∧ d = .int .u64 k ∧ c = .bool (divsB p k)) (fun _ d => p - (intOf d).toNat)
      case atStart => exact ⟨2, by omega, hp2, rfl, by rw [divsB_two]⟩
      case round =>
        obtain ⟨k, hk2, hkp, rfl, rfl⟩ := hrel
        by_cases hlt : k < p
        · have HD := Lib.hid (divsB_succ p k hk2)
          have hk0 : (k : Int) ≠ 0 := by omega
          have hkk0 : 0 < k := by omega
          cases hc : divsB p k with
          | true =>
            rw [hc] at HD
            by_cases hm : 0 < p % k
            · have dm : decide ((0 : Int) < (p : Int) % (k : Int)) = true := decide_eq_true (by omega)
              have HD' : Hid (divsB p (k + 1) = true) := Lib.hid (by rw [HD.out]; simp [hm])
              clear hm hc
              go_wp2
              go_round
              case rel => exact ⟨k + 1, by omega, by omega, by go_num, by rw [HD'.out]⟩
              case measure => simp [intOf]; omega
            · have dm : decide ((0 : Int) < (p : Int) % (k : Int)) = false := decide_eq_false (by omega)
              have HD' : Hid (divsB p (k + 1) = false) := Lib.hid (by rw [HD.out]; simp [hm])
              clear hm hc
              go_wp2
              go_round
              case rel => exact ⟨k + 1, by omega, by omega, by go_num, by rw [HD'.out]⟩
              case measure => simp [intOf]; omega
          | false =>
            rw [hc] at HD
            have HD' : Hid (divsB p (k + 1) = false) := Lib.hid (by rw [HD.out]; rfl)
            clear hc
            go_wp2
            go_round
            case rel => exact ⟨k + 1, by omega, by omega, by go_num, by rw [HD'.out]⟩
            case measure => simp [intOf]; omega
        · obtain rfl : k = p := by omega
          cases hc : divsB k k with
          | false =>
            have HNN : Hid (n = (primesTo (k + 1)).length) := Lib.hid (by rw [primesTo_succ, if_neg (by simp [hc])]; exact HN.out)
            clear hc
            go_wp2
            go_roundw
            case rel => exact ⟨k + 1, n, by go_num, rfl, HNN.out, by omega, by omega, HK.out, HR.out, HB.out⟩
            case measure => simp [intOf]; omega
          | true =>
            obtain ⟨q1, q2, q3⟩ := key_at k hp311 ⟨hp2, hc⟩
            rw [← HN.out] at q1 q2 q3
            have HF3 := Lib.hid (fun w => fraction3_c k w (by omega))
            have HF2 := Lib.hid (fun w => fraction2_c k w (by omega))
            have HQ3 := Lib.hid q3
            have HQ2 := Lib.hid q2
            rw [← q1] at HF3
            obtain ⟨kv, hkv⟩ : ∃ kv, shK.getD n 0 = kv := ⟨_, rfl⟩
            rw [hkv] at HF3
            have HKV := Lib.hid hkv
            clear hc q1 q2 q3 hkv
            have hst := fun i hi => (kC_at n i hi)
            have c1 : wr.cell? ⟨w.heap.size + 1, n, none⟩ = some (.int .u32 (kNum shK shH n n : Nat)) := (HK.out.cell n).trans (kC_at n n (by omega))
            have f1 := HK.out.frozen n
            clear hst
            have HX := Lib.hid (fun (W : World) (hW : Blk W (w.heap.size + 1) 32 (kC n)) => hW.set n (.int .u32 (kv : Nat)))
            go_wp2_with fail
            refine (HF3.out _).mono ?_
            rintro e w2 ⟨rfl, hb2⟩
            have hz2 := hb2.size
            have hk2 : Blk w2 (w.heap.size + 1) 32 (kC n) := (hb2.block _ hkl).trans HK.out
            have c2 : w2.cell? ⟨w.heap.size + 1, n, none⟩ = some (.int .u32 (kNum shK shH n n : Nat)) := (hk2.cell n).trans (kC_at n n (by omega))
            have f2 := hk2.frozen n
            have HS := Lib.hid (hk2.set n (.int .u32 (kv : Nat)))
            have HR2 : Hid (Blk (w2.setCell ⟨w.heap.size + 1, n, none⟩ (.int .u32 (kv : Nat))) w.heap.size 32 (kC 0)) := Lib.hid (Blk.far ((hb2.block _ (by omega)).trans HR.out) (by simp) _)
            have HB2 : Hid (Below w.heap.size w (w2.setCell ⟨w.heap.size + 1, n, none⟩ (.int .u32 (kv : Nat)))) := Lib.hid ((HB.out.trans (hb2.mono hsz)).setCell (by simp) _)
            have hsz2 : (w2.setCell ⟨w.heap.size + 1, n, none⟩ (.int .u32 (kv : Nat))).heap.size = w2.heap.size := by simp [World.setCell]
            have HZ2 := Lib.hid hsz2
            obtain ⟨kn, hkn⟩ : ∃ kn, kNum shK shH n n = kn := ⟨_, rfl⟩
            rw [hkn] at c2
            clear c1 f1 hkn hk2 hb2 hsz2
            by_cases h8 : n < 8
            · have HF2' := HF2
              have hq2 := HQ2.out h8
              rw [← hq2] at HF2'
              obtain ⟨hv, hhv⟩ : ∃ hv, shH.getD n 0 = hv := ⟨_, rfl⟩
              rw [hhv] at HF2'
              have HHV := Lib.hid hhv
              clear hq2 hhv
              have hk3 := HS.out
              have hkl3 : w.heap.size + 1 < (w2.setCell ⟨w.heap.size + 1, n, none⟩ (.int .u32 (kv : Nat))).heap.size := hk3.lt
              have h64 : (64 + n : Nat) < ((kC n).setIfInBounds n (.int .u32 (kv : Nat))).size := by simp [kC_size]; omega
              obtain ⟨vv, hvv⟩ : ∃ vv, ((kC n).setIfInBounds n (.int .u32 (kv : Nat)))[64 + n]? = some vv := ⟨_, Array.getElem?_eq_getElem h64⟩
              obtain ⟨W3, hW3⟩ : ∃ W3, w2.setCell ⟨w.heap.size + 1, n, none⟩ (.int .u32 (kv : Nat)) = W3 := ⟨_, rfl⟩
              have HK3 := Lib.hid hk3
              have HVV := Lib.hid hvv
              rw [hW3] at HK3 HR2 HB2 hkl3
              have HL3 := Lib.hid (HB2.out.size)
              clear hk3 h64 hvv
              go_wp2_with fail
              refine (HF2'.out _).mono ?_
              rintro e w4 ⟨rfl, hb4⟩
              have hk4 : Blk w4 (w.heap.size + 1) 32 ((kC n).setIfInBounds n (.int .u32 (kv : Nat))) := (hb4.block _ hkl3).trans HK3.out
              have c4 : w4.cell? ⟨w.heap.size + 1, 64 + n, none⟩ = some vv := (hk4.cell _).trans HVV.out
              have f4 := hk4.frozen (64 + n)
              have HNN : Hid (KeyAt w (.int .i64 ((n : Int) + 1)) (.int .u64 ((k : Int) + 1)) (w4.setCell ⟨w.heap.size + 1, 64 + n, none⟩ (.int .u32 (hv : Nat)))) := Lib.hid (by
                have hst := hk4.set (64 + n) (.int .u32 (hv : Nat))
                have hke := kC_less n hn64 h8
                rw [HKV.out, HHV.out] at hke
                rw [hke] at hst
                refine ⟨k + 1, n + 1, by go_num, by go_num, by rw [HQ3.out], by omega, by omega, hst, Blk.far ((hb4.block _ (by omega)).trans HR2.out) (by simp) _, (HB2.out.trans (hb4.mono HL3.out)).setCell (by simp) _⟩)
              clear hk4 hb4
              go_wp2
              go_roundw
              case rel => exact HNN.out
              case measure => simp [intOf]; omega
            · have HNN : Hid (KeyAt w (.int .i64 ((n : Int) + 1)) (.int .u64 ((k : Int) + 1)) (w2.setCell ⟨w.heap.size + 1, n, none⟩ (.int .u32 (kv : Nat)))) := Lib.hid (by
                have hst := HS.out
                have hke := kC_more n hn64 h8
                rw [HKV.out] at hke
                rw [hke] at hst
                refine ⟨k + 1, n + 1, by go_num, by go_num, by rw [HQ3.out], by omega, by omega, hst, HR2.out, HB2.out⟩)
              go_wp2
              go_roundw
              case rel => exact HNN.out
              case measure => simp [intOf]; omega
    · have hn4 : n = 64 := by
        have := primes_le hp
        omega
      subst hn4
      have hu := Tryz.underlying32
      have HI := Lib.hid (info_key' 64)
      have HO := Lib.hid (kC_one 64)
      have HSZ : Hid ((kC 0).size = (kC 64).size) := Lib.hid (by rw [kC_size, kC_size])
      clear hn
      go_wp2_with (first | (refine wpList_load_row (by rfl) 32 (.tmp 1) (by rfl) (w.heap.size + 1) (by rfl) 32 (kC 64) (0, 0) _ HK.out hu rfl HI.out ?_) | (refine wpList_store_row (by rfl) 32 (.tmp 0) (.tmp 38) (by rfl) w.heap.size (kC 64) (by rfl) (by rfl) 32 (kC 0) HR.out HI.out HSZ.out HO.out ?_))
      have hbl := HB.out
      refine bodyPost_ret (v := keyV) (results_cell_row (by rfl) _ _ w.heap.size 32 (kC 64) (0, 0) _ (by rfl) (setRow_heap _ _ _ _ _ _ HR.out) hu rfl HI.out) rfl ?_
      exact ⟨rfl, ⟨hbl.os, hbl.tape, hbl.output, by rw [setRow_size]; exact hbl.size, fun j hj => (setRow_other _ _ _ _ (by omega)).trans (hbl.block j hj)⟩⟩
end Go.Proofs.YtebllmpdlapefaaGreatDoor
