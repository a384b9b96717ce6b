/- slices.Reverse of bytes, fixed.turned, fixed.Big. -/
import Derived.Test.YtmcdgmepheibkaaDoorDigitsD
namespace Go.Proofs.YtmcdgmepheibkaaDoor
set_option linter.unusedVariables false
set_option linter.unusedSimpArgs false
open Go.RowKit

/-- k pairs swapped, from both ends. -/
def rv (l : List UInt8) : Nat → List UInt8
  | 0 => l
  | k + 1 => ((rv l k).set k ((rv l k).getD (l.length - 1 - k) 0)).set (l.length - 1 - k) ((rv l k).getD k 0)
theorem rv_length (l : List UInt8) (k : Nat) : (rv l k).length = l.length := by
  induction k with
  | zero => rfl
  | succ k ih => simp [rv, ih]
theorem rv_at (l : List UInt8) (k : Nat) : 2 * k ≤ l.length + 1 → ∀ j, j < l.length → (rv l k)[j]? = if j < k ∨ l.length - k ≤ j then l[l.length - 1 - j]? else l[j]? := by
  induction k with
  | zero => intro _ j hj; rw [if_neg (by omega)]; rfl
  | succ k ih =>
    intro hk j hj
    have IH := ih (by omega)
    have e1 := IH k (by omega)
    have e2 := IH (l.length - 1 - k) (by omega)
    have hl := rv_length l k
    simp only [rv, List.getElem?_set, List.getD_eq_getElem?_getD, List.length_set, hl]
    by_cases h1 : l.length - 1 - k = j
    · subst h1
      rw [if_pos rfl, if_pos hj, if_pos (by omega), e1]
      by_cases h3 : k = l.length - 1 - k
      · rw [if_neg (by omega), ← h3, List.getElem?_eq_getElem (by omega), ]
        simp only [Option.getD_some]
        rw [show l.length - 1 - k = k from by omega, List.getElem?_eq_getElem (by omega)]
      · rw [if_neg (by omega), show l.length - 1 - (l.length - 1 - k) = k from by omega, List.getElem?_eq_getElem (by omega)]
        rfl
    · rw [if_neg h1]
      by_cases h2 : k = j
      · subst h2
        rw [if_pos rfl, if_pos hj, if_pos (by omega), e2, if_neg (by omega), List.getElem?_eq_getElem (by omega)]
        rfl
      · rw [if_neg h2, IH j hj]
        by_cases h3 : j < k ∨ l.length - k ≤ j
        · rw [if_pos h3, if_pos (by omega)]
        · rw [if_neg h3, if_neg (by omega)]
theorem rv_all (l : List UInt8) (k : Nat) (h : l.length ≤ 2 * k + 1) (hk : 2 * k ≤ l.length + 1) : rv l k = l.reverse := by
  apply List.ext_getElem?
  intro j
  by_cases hj : j < l.length
  · rw [rv_at l k hk j hj, List.getElem?_reverse hj]
    by_cases h3 : j < k ∨ l.length - k ≤ j
    · rw [if_pos h3]
    · rw [if_neg h3, show l.length - 1 - j = j from by omega]
  · rw [List.getElem?_eq_none (by rw [rv_length]; omega), List.getElem?_eq_none (by simp; omega)]
set_option maxRecDepth 100000 in
set_option maxHeartbeats 1000000 in
theorem reverse_c (base g cap : Nat) (l : List UInt8) (w : World) (hbuf : Buf w base 5 (.slice (some ⟨g, 0, none⟩) l.length cap) l) (hl : l.length ≤ 1099511627776) :
    Calls Tryd.prog 128 #[.slice (some ⟨g, 0, none⟩) l.length cap] w fun e w' => e = .returned (.tuple #[]) ∧ Buf w' base 5 (.slice (some ⟨g, 0, none⟩) l.length cap) l.reverse ∧ Kept 5 base w w' := by
  obtain ⟨n, hn⟩ : ∃ n, l.length = n := ⟨_, rfl⟩
  rw [hn] at hbuf hl ⊢
  have HN := Lib.hid hn
  have hc := hbuf.len.2
  clear hn
  go_enter Tryd.func128, Tryd.ntmps128
  go_wp2
  go_loopw [2, 3] (fun i j wr => ∃ k : Nat, 2 * k ≤ n + 1 ∧ i = .int .i64 k ∧ j = .int .i64 ((n : Int) - 1 - k) ∧ Buf wr base 5 (.slice (some ⟨g, 0, none⟩) n cap) (rv l k) ∧ Kept 5 base w wr) (fun i _ _ => n - (intOf i).toNat)
  case atStart => exact ⟨0, by omega, rfl, by go_num, hbuf, Kept.refl _ _ _⟩
  case round =>
    obtain ⟨k, hk, rfl, rfl, hb, hkept⟩ := hrel
    clear hbuf
    by_cases hlt : 2 * k + 1 < n
    · have hlen : (rv l k).length = n := by rw [rv_length, HN.out]
      obtain ⟨d, hd⟩ : ∃ d : Nat, n - 1 - k = d := ⟨_, rfl⟩
      have hdi : (n : Int) - 1 - k = d := by omega
      obtain ⟨c1, f1, g1, g2⟩ := hb.at_ (k := k) (by omega)
      obtain ⟨c2, f2, _, _⟩ := hb.at_ (k := d) (by omega)
      have HS := Lib.hid ((hb.set (k := k) (by omega) ((rv l k).getD d 0)).set (k := d) (by rw [List.length_set]; omega) ((rv l k).getD k 0))
      obtain ⟨cur, fr, hcur, hbg⟩ := hb.block
      have HK := Lib.hid (((hkept.store (k := k) hcur hbg (.int .u8 ((rv l k).getD d 0).toNat))).store (k := d) (setCell_heap _ hcur) hbg (.int .u8 ((rv l k).getD k 0).toNat))
      have HR : Hid (((rv l k).set k ((rv l k).getD d 0)).set d ((rv l k).getD k 0) = rv l (k + 1)) := Lib.hid (by simp only [rv]; rw [HN.out, hd])
      rw [HR.out] at HS
      have hne : (⟨g, d, none⟩ : Addr) ≠ ⟨g, k, none⟩ := fun e => by have := congrArg Addr.off e; simp at this; omega
      rw [hdi]
      have ht : ((rv l k).getD d 0).toNat < 256 := UInt8.toNat_lt _
      have ht2 : ((rv l k).getD k 0).toNat < 256 := UInt8.toNat_lt _
      generalize ((rv l k).getD d 0).toNat = y at *
      generalize ((rv l k).getD k 0).toNat = x at *
      have hkd : k < d := by omega
      have hdn : d < n := by omega
      clear hcur hb hkept hlen hd
      go_wp2
      go_region
      all_goals
        go_wp2
        go_roundw
        case rel => exact ⟨k + 1, by omega, by go_num, by go_num, HS.out.drew, HK.out.drew⟩
        case measure => simp [intOf]; omega
    · have e : rv l k = l.reverse := rv_all l k (by rw [HN.out]; omega) (by rw [HN.out]; omega)
      rw [e] at hb
      go_wp2
      go_end0
      exact ⟨rfl, hb, hkept⟩
set_option maxRecDepth 100000 in
theorem turnedB_c (base g cap : Nat) (l : List UInt8) (w : World) (hbuf : Buf w base 5 (.slice (some ⟨g, 0, none⟩) l.length cap) l) (hl : l.length ≤ 1099511627776) :
    Calls Tryd.prog 106 #[.slice (some ⟨g, 0, none⟩) l.length cap] w fun e w' => e = .returned (.string ⟨l.reverse.toArray⟩) ∧ Kept 5 base w w' := by
  have HC := Lib.hid (reverse_c base g cap l w hbuf hl)
  clear hbuf
  go_enter Tryd.func106, Tryd.ntmps106
  go_wp2_with fail
  refine HC.out.mono ?_
  rintro e w1 ⟨rfl, hb, hk⟩
  have hst := hb.str' (P := Tryd.prog) Tryd.underlying83 Tryd.underlying5 Tryd.underlying9
  have HK := Lib.hid hk
  clear hb hk
  obtain ⟨X, HX⟩ : ∃ X, Hid ((⟨l.reverse.toArray⟩ : ByteArray) = X) := ⟨_, Lib.hid rfl⟩
  rw [HX.out] at hst
  generalize l.length = n at *
  go_wp2
  go_ret
  exact ⟨by rw [HX.out]; rfl, HK.out⟩
end Go.Proofs.YtmcdgmepheibkaaDoor
