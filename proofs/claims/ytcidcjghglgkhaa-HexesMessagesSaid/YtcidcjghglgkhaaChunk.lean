/- slices.Chunk of bytes: the iterator. -/
import Derived.Test.YtcidcjghglgkhaaSeq
import Derived.Test.YtcidcjghglgkhaaProg
import Derived.Test.YtcidcjghglgkhaaBufR
import Derived.Sort.QuietIn
import Derived.WalkSpells
import Derived.LoopTactic
namespace Go.Proofs.Ytcidcjghglgkhaa
set_option linter.unusedVariables false
set_option linter.unusedSimpArgs false
open Go.RowKit Go.Shelf

theorem chunk_c (v : Value) (m : Nat) (w : World) (h1 : 1 ≤ m) (hm : m ≤ 4096) (A : Option Addr) (n c : Nat) (hv : v = .slice A n c) :
    Calls Try.prog 66 #[v, .int .i64 m] w fun e w' => e = .returned (.func (.func 83) #[] #[.pointer (some ⟨w.heap.size, 0, none⟩), .pointer (some ⟨w.heap.size + 1, 0, none⟩)]) ∧ w' = (w.alloc (.cells #[v] 80)).alloc (.cells #[.int .i64 m] 3) := by
  subst hv
  go_enter Try.func66, Try.ntmps66
  go_wp2
  go_ret
  exact ⟨rfl, rfl⟩
/-- How many pieces. -/
def nCh (len m : Nat) : Nat := (len + m - 1) / m
theorem nCh_lt (len m k : Nat) (hm : 1 ≤ m) : k < nCh len m ↔ k * m < len := by
  unfold nCh
  have h := Nat.le_div_iff_mul_le (x := k + 1) (y := len + m - 1) (k := m) (by omega)
  rw [Nat.succ_mul] at h
  generalize k * m = q at *
  generalize (len + m - 1) / m = z at *
  constructor
  · intro h1; have := h.1 h1; omega
  · intro h1; exact h.2 (by omega)
theorem nCh_le (len m : Nat) (hm : 1 ≤ m) : nCh len m ≤ len := by
  rcases Nat.lt_or_ge len (nCh len m) with h | h
  · have := (nCh_lt len m len hm).1 h
    have h2 : len * 1 ≤ len * m := Nat.mul_le_mul_left _ hm
    omega
  · exact h
/-- The length of the piece j. -/
def lenCh (len m j : Nat) : Nat := min m (len - j * m)
def encCh (g len m : Nat) (j : Nat) : Array Value := #[.slice (some ⟨g, j * m, none⟩) (lenCh len m j) (lenCh len m j)]
def KeepB (bb : Nat) (W W' : World) : Prop := W'.heap[bb]? = W.heap[bb]? ∧ W'.heap[bb + 1]? = W.heap[bb + 1]?
theorem KeepB.trans {bb : Nat} {A B C : World} (h : KeepB bb A B) (k : KeepB bb B C) : KeepB bb A C := ⟨k.1.trans h.1, k.2.trans h.2⟩
theorem KeepB.below {bb B : Nat} {W W' : World} (h : Below B W W') (hb : bb + 1 < B) : KeepB bb W W' := ⟨h.block _ (by omega), h.block _ hb⟩
set_option maxRecDepth 100000 in
set_option maxHeartbeats 1000000 in
theorem chunk_stops (n bb g len c m : Nat) (w : World) (h1 : 1 ≤ m) (hm : m ≤ 4096) (hlen : len ≤ 1099511627776) (hc : len ≤ c) (hc2 : c ≤ 9223372036854775807)
    (hb0 : Blk w bb 80 #[.slice (some ⟨g, 0, none⟩) len c]) (hb1 : Blk w (bb + 1) 3 #[.int .i64 m]) :
    SeqStopsK Fence.wide n Try.prog 83 #[.pointer (some ⟨bb, 0, none⟩), .pointer (some ⟨bb + 1, 0, none⟩)] (encCh g len m) (KeepB bb) (fun xs => xs = List.range (nCh len m)) (fun pre => ∃ k, k ≤ nCh len m ∧ pre = List.range k) (nCh len m) w := by
  intro l J Jx W hW hJ hJx hY h0
  have HJ := Lib.hid hJ
  have HY := Lib.hid hY
  clear hJ hY hJx
  have hB0 := hb0.keep hW hb0.lt
  have hB1 := hb1.keep hW hb1.lt
  refine callsIn_of_wp Try.func83 rfl trivial ?_ rfl
  simp only [Try.ntmps83, List.size_toArray, List.length_cons, List.length_nil, Nat.reduceAdd, Nat.reduceSub, Array.replicate_succ, Array.replicate_zero, List.push_toArray, List.append_toArray, List.nil_append, List.cons_append]
  gi_wp2
  gi_loopw [4] (fun i wr => ∃ k q : Nat, Hid (q = k * m) ∧ Hid (k ≤ nCh len m) ∧ q ≤ len + m ∧ i = .int .i64 q ∧ Hid (J (List.range k) wr) ∧ Blk wr bb 80 #[.slice (some ⟨g, 0, none⟩) len c] ∧ Blk wr (bb + 1) 3 #[.int .i64 m]) (fun i _ => len + m + 1 - (intOf i).toNat)
  case atStart => exact ⟨0, 0, Lib.hid (by simp), Lib.hid (by omega), by omega, rfl, Lib.hid h0, hB0, hB1⟩
  case round =>
    obtain ⟨k, q, Hq, Hk, hq, rfl, HJk, hblk0, hblk1⟩ := hrel
    have c0 : wr.cell? ⟨bb, 0, none⟩ = some (.slice (some ⟨g, 0, none⟩) len c) := hblk0.cell 0
    have c1 : wr.cell? ⟨bb + 1, 0, none⟩ = some (.int .i64 m) := hblk1.cell 0
    have HBL := Lib.hid (And.intro hblk0 hblk1)
    clear hblk0 hblk1 hB0 hB1 hb0 hb1
    by_cases hlt : q < len
    · have HKN : Hid (k < nCh len m) := Lib.hid ((nCh_lt len m k h1).2 (by rw [← Hq.out]; exact hlt))
      obtain ⟨d, hd⟩ : ∃ d, lenCh len m k = d := ⟨_, rfl⟩
      have hd2 : (if len - q < m then ((len - q : Nat) : Int) else (m : Int)) = (d : Int) := by
        have h : lenCh len m k = min m (len - q) := by unfold lenCh; rw [← Hq.out]
        rw [← hd, h]
        split <;> omega
      have hdm : d ≤ m := by split at hd2 <;> omega
      have hd1 : 1 ≤ d := by split at hd2 <;> omega
      have hdl : q + d ≤ len := by split at hd2 <;> omega
      gi_wp2
      gi_quiet (fail)
      obtain ⟨wq, hwq⟩ : ∃ wq, wr.drewN nq = wq := ⟨_, rfl⟩
      have c0' : wq.cell? ⟨bb, 0, none⟩ = some (.slice (some ⟨g, 0, none⟩) len c) := by rw [← hwq]; exact c0
      have HBQ : Hid (Blk wq bb 80 #[.slice (some ⟨g, 0, none⟩) len c] ∧ Blk wq (bb + 1) 3 #[.int .i64 m]) := by rw [← hwq]; exact HBL
      have HJQ : Hid (J (List.range k) wq) := Lib.hid (by rw [← hwq]; exact HJ.out _ _ _ none HJk.out ⟨rfl, rfl, rfl, Nat.le_refl _, fun _ _ _ => rfl⟩ (fun r e => by cases e))
      rw [hwq]
      clear hwq c0 c1 HBL HJk hd2
      have HYQ := Lib.hid (HY.out (List.range k) k wq HJQ.out (by simpa using HKN.out))
      have HS : Hid (List.range k ++ [k] = List.range (k + 1)) := Lib.hid (List.range_succ).symm
      have HQ2 : Hid (q + m = (k + 1) * m) := Lib.hid (by rw [Nat.succ_mul, Hq.out])
      clear HY HJQ
      obtain ⟨fn, tmps, assign, body, hy, hR⟩ := HYQ.out
      simp only [encCh, hd, ← Hq.out] at hy
      have HRR := Lib.hid hR
      clear hR HYQ hd
      gi_wp2
      refine ⟨(fun h => by cases h), HRR.out.mono ?_⟩
      rintro e W3 (⟨rfl, hJ3, hk3⟩ | ⟨rfl, hJx3⟩)
      · have HB3 : Hid (Blk W3 bb 80 #[.slice (some ⟨g, 0, none⟩) len c] ∧ Blk W3 (bb + 1) 3 #[.int .i64 m]) := Lib.hid ⟨hk3.1.trans HBQ.out.1, hk3.2.trans HBQ.out.2⟩
        have d1 : W3.cell? ⟨bb + 1, 0, none⟩ = some (.int .i64 m) := HB3.out.2.cell 0
        clear hk3
        gi_wp2
        go_roundw
        case rel => exact ⟨k + 1, q + m, HQ2, Lib.hid HKN.out, by omega, by go_num, Lib.hid (by rw [← HS.out]; exact hJ3), HB3.out.1, HB3.out.2⟩
        case measure => simp [intOf]; omega
      · gi_wp2
        (try simp only [Exit.inBlock, Exit.then])
        refine bodyPost_ret (results_none rfl _ _ _) rfl ?_
        exact ⟨⟨_, rfl⟩, .inr ⟨_, ⟨k + 1, HKN.out, HS.out⟩, hJx3⟩⟩
    · have HE : Hid (k = nCh len m) := Lib.hid (by
        have := Hk.out
        rcases Nat.lt_or_ge k (nCh len m) with h | h
        · have := (nCh_lt len m k h1).1 h; rw [← Hq.out] at this; omega
        · omega)
      gi_wp2
      go_end0
      exact ⟨⟨_, rfl⟩, .inl ⟨_, by rw [HE.out], HJk.out⟩⟩
end Go.Proofs.Ytcidcjghglgkhaa
