/- rlp.head tells hd. -/
import Derived.Test.YtacikiambpfipaaDoorKRlpRP
import Derived.Test.YtacikiambpfipaaDoorKTypedA
namespace Go.Proofs.YtacikiambpfipaaDoor
set_option linter.unusedVariables false
set_option linter.unusedSimpArgs false
open Go.RowKit

def hdV (r : Bool × Nat × Nat × Int) : Value := .tuple #[.bool r.1, .int .i64 r.2.1, .int .i64 r.2.2.1, .int .i64 r.2.2.2]
set_option maxRecDepth 100000 in
set_option maxHeartbeats 4000000 in
theorem rlpHead_c (s : ByteArray) (d m : Bool) (w : World) (hs : s.size ≤ 4611686018427387904) :
    Calls Tryd.prog 155 #[.string s, .bool d, .bool m] w fun e w' => e = .returned (hdV (hd s d m)) ∧ w = w' := by
  unfold hdV
  rcases empty_ways s with ⟨hz, rfl⟩ | ⟨hz, hz1, hz2⟩
  · have HT : Hid (hd ⟨#[]⟩ d m = (false, 0, 0, 2)) := Lib.hid (by unfold hd; rw [if_pos (by simp [ByteArray.size])])
    clear hz
    go_enter Tryd.func155, Tryd.ntmps155
    go_wp2
    refine bodyPost_ret (v := .tuple #[.bool false, .int .i64 (0 : Int), .int .i64 (0 : Int), .int .i64 2]) (by simp [results, Tryd.results155, go_sem]) rfl ?_
    rw [HT.out]
    exact ⟨rfl, rfl⟩
  have hp : 0 < s.size := by
    rcases Nat.eq_zero_or_pos s.size with h | h
    · exact absurd h (by first | exact hz | omega)
    · exact h
  cases d with
  | true =>
    have HT : Hid (hd s true m = (false, 0, 0, 6)) := Lib.hid (by unfold hd; rw [if_neg (by omega), if_pos rfl])
    go_enter Tryd.func155, Tryd.ntmps155
    go_wp2
    refine bodyPost_ret (v := .tuple #[.bool false, .int .i64 (0 : Int), .int .i64 (0 : Int), .int .i64 6]) (by simp [results, Tryd.results155, go_sem]) rfl ?_
    rw [HT.out]
    exact ⟨rfl, rfl⟩
  | false =>
  cases m with
  | true =>
    have HT : Hid (hd s false true = (false, 0, 0, 4)) := Lib.hid (by unfold hd; rw [if_neg (by omega), if_neg (by simp), if_pos rfl])
    go_enter Tryd.func155, Tryd.ntmps155
    go_wp2
    refine bodyPost_ret (v := .tuple #[.bool false, .int .i64 (0 : Int), .int .i64 (0 : Int), .int .i64 4]) (by simp [results, Tryd.results155, go_sem]) rfl ?_
    rw [HT.out]
    exact ⟨rfl, rfl⟩
  | false =>
  have HR : hd s false false = hdR s := by unfold hd; rw [if_neg (by omega), if_neg (by simp), if_neg (by simp)]
  have hg0 : s.data.toList.getD 0 0 = s[0] := by rw [List.getD_eq_getElem?_getD, byte_at s 0 hp]; rfl
  have hlt := s[0].toNat_lt
  by_cases hb : s[0].toNat < 128
  · have HT : Hid (hd s false false = (false, 0, 1, 0)) := Lib.hid (by rw [HR]; unfold hdR; dsimp only; rw [hg0, if_pos hb])
    clear HR
    go_enter Tryd.func155, Tryd.ntmps155
    go_wp2
    refine bodyPost_ret (v := .tuple #[.bool false, .int .i64 (0 : Int), .int .i64 (1 : Int), .int .i64 0]) (by simp [results, Tryd.results155, go_sem]) rfl ?_
    rw [HT.out]
    exact ⟨rfl, rfl⟩
  by_cases h192 : 192 ≤ s[0].toNat
  · obtain ⟨t, ht⟩ : ∃ t, s[0].toNat = 192 + t := ⟨s[0].toNat - 192, by omega⟩
    have hD := HR
    unfold hdR at hD
    dsimp only at hD
    rw [hg0, ht, if_neg (by omega : ¬ 192 + t < 128), show decide (192 ≤ 192 + t) = true from by simp, if_pos (by omega : 192 ≤ 192 + t), show 192 + t - 192 = t from by omega] at hD
    have d1 : decide (192 ≤ 192 + (t : Int)) = true := decide_eq_true (by omega)
    have ht63 : t ≤ 63 := by omega
    clear HR hg0 hb h192
    by_cases h55 : t ≤ 55
    · rw [if_pos h55, if_pos h55, if_pos h55] at hD
      have e1 : 192 + (t : Int) - 192 = t := by omega
      by_cases h1 : s.size < 1 + t
      · have HT : Hid (hd s false false = (false, 0, 0, 2)) := Lib.hid (by rw [hD, if_pos h1])
        clear hD
        go_enter Tryd.func155, Tryd.ntmps155
        go_wp2
        refine bodyPost_ret (v := .tuple #[.bool false, .int .i64 (0 : Int), .int .i64 (0 : Int), .int .i64 2]) (by simp [results, Tryd.results155, go_sem]) rfl ?_
        rw [HT.out]
        exact ⟨rfl, rfl⟩
      · have HT : Hid (hd s false false = (true, 1, t, 0)) := Lib.hid (by rw [hD, if_neg h1, if_neg (by simp)])
        clear hD
        go_enter Tryd.func155, Tryd.ntmps155
        go_wp2
        refine bodyPost_ret (v := .tuple #[.bool true, .int .i64 (1 : Int), .int .i64 (t : Int), .int .i64 0]) (by simp [results, Tryd.results155, go_sem]) rfl ?_
        rw [HT.out]
        exact ⟨rfl, rfl⟩
    · rw [if_neg h55, if_neg h55, if_neg h55] at hD
      obtain ⟨k, rfl⟩ : ∃ k, t = 55 + k := ⟨t - 55, by omega⟩
      rw [show 55 + k - 55 = k from by omega] at hD
      have e1 : 192 + (55 + (k : Int)) - 192 = 55 + k := by omega
      have e2 : 55 + (k : Int) - 55 = k := by omega
      by_cases h1 : s.size < 1 + k
      · have HT : Hid (hd s false false = (false, 0, 0, 2)) := Lib.hid (by rw [hD, if_pos h1])
        clear hD
        go_enter Tryd.func155, Tryd.ntmps155
        go_wp2
        refine bodyPost_ret (v := .tuple #[.bool false, .int .i64 (0 : Int), .int .i64 (0 : Int), .int .i64 2]) (by simp [results, Tryd.results155, go_sem]) rfl ?_
        rw [HT.out]
        exact ⟨rfl, rfl⟩
      rw [if_neg h1] at hD
      have h1s : 1 < s.size := by omega
      have hg1 : s.data.toList.getD 1 0 = s[1] := by rw [List.getD_eq_getElem?_getD, byte_at s 1 h1s]; rfl
      rw [hg1] at hD
      have hxz : (s.extract 1 (1 + k)).size = k := by rw [size_cut _ _ _ (by omega)]; omega
      have hld : lead0 (s.extract 1 (1 + k)).data.toList = decide (s[1].toNat = 0) := by
        have hx0 : (s.extract 1 (1 + k)).data.toList = s[1] :: (s.extract 1 (1 + k)).data.toList.drop 1 := by
          rw [toList_cut]
          have h2 : (s.data.toList.take (1 + k)).drop 1 = ((s.data.toList.drop 1).take k) := by rw [List.drop_take, show 1 + k - 1 = k from by omega]
          rw [h2, drop_cons s 1 h1s, show k = (k - 1) + 1 from by omega, List.take_succ_cons]
          rfl
        rw [hx0]
        simp only [lead0]
        by_cases e : s[1] = 0
        · simp [e]
        · have : s[1].toNat ≠ 0 := fun h => e (UInt8.toNat_inj.1 h)
          simp [e, this]
      have HGL := Lib.hid (getLeast_c (s.extract 1 (1 + k)) w (by omega))
      by_cases h0 : s[1].toNat = 0
      · have hE : glE (s.extract 1 (1 + k)) = 3 := by unfold glE; rw [if_neg (by omega), if_neg (by omega), hld, h0]; rfl
        have HT : Hid (hd s false false = (false, 0, 0, 3)) := Lib.hid (by rw [hD, if_pos (.inl h0)])
        rw [hE] at HGL
        clear hD hE hld hg1
        generalize glN (s.extract 1 (1 + k)) = N at *
        go_enter Tryd.func155, Tryd.ntmps155
        go_wp2_with fail
        refine HGL.out.mono ?_
        rintro e w' ⟨rfl, rfl⟩
        go_wp2
        refine bodyPost_ret (v := .tuple #[.bool false, .int .i64 (0 : Int), .int .i64 (0 : Int), .int .i64 3]) (by simp [results, Tryd.results155, go_sem]) rfl ?_
        rw [HT.out]
        exact ⟨rfl, rfl⟩
      have hE : glE (s.extract 1 (1 + k)) = 0 := by unfold glE; rw [if_neg (by omega), if_neg (by omega), hld, decide_eq_false h0]; rfl
      have hN : glN (s.extract 1 (1 + k)) = beL (s.extract 1 (1 + k)).data.toList := by unfold glN; rw [if_pos hE]
      have hN64 : beL (s.extract 1 (1 + k)).data.toList < 18446744073709551616 := by
        have h2 := beL_lt (s.extract 1 (1 + k)).data.toList
        rw [toList_size, hxz] at h2
        have h3 : 2 ^ (8 * k) ≤ 2 ^ (8 * 8) := Nat.pow_le_pow_right (by omega) (by omega)
        exact Nat.lt_of_lt_of_le h2 h3
      rw [hE, hN] at HGL
      clear hE hN hld hg1 hxz
      generalize beL (s.extract 1 (1 + k)).data.toList = N at *
      by_cases h2 : N ≤ 55
      · have HT : Hid (hd s false false = (false, 0, 0, 3)) := Lib.hid (by rw [hD, if_pos (.inr h2)])
        clear hD
        go_enter Tryd.func155, Tryd.ntmps155
        go_wp2_with fail
        refine HGL.out.mono ?_
        rintro e w' ⟨rfl, rfl⟩
        go_wp2
        refine bodyPost_ret (v := .tuple #[.bool false, .int .i64 (0 : Int), .int .i64 (0 : Int), .int .i64 3]) (by simp [results, Tryd.results155, go_sem]) rfl ?_
        rw [HT.out]
        exact ⟨rfl, rfl⟩
      rw [if_neg (fun h => h.elim h0 h2)] at hD
      by_cases h3 : s.size < N
      · have HT : Hid (hd s false false = (false, 0, 0, 2)) := Lib.hid (by rw [hD, if_pos (by omega)])
        clear hD
        go_enter Tryd.func155, Tryd.ntmps155
        go_wp2_with fail
        refine HGL.out.mono ?_
        rintro e w' ⟨rfl, rfl⟩
        go_wp2
        refine bodyPost_ret (v := .tuple #[.bool false, .int .i64 (0 : Int), .int .i64 (0 : Int), .int .i64 2]) (by simp [results, Tryd.results155, go_sem]) rfl ?_
        rw [HT.out]
        exact ⟨rfl, rfl⟩
      by_cases h4 : s.size < 1 + k + N
      · have HT : Hid (hd s false false = (false, 0, 0, 2)) := Lib.hid (by rw [hD, if_pos h4])
        clear hD
        go_enter Tryd.func155, Tryd.ntmps155
        go_wp2_with fail
        refine HGL.out.mono ?_
        rintro e w' ⟨rfl, rfl⟩
        go_wp2
        refine bodyPost_ret (v := .tuple #[.bool false, .int .i64 (0 : Int), .int .i64 (0 : Int), .int .i64 2]) (by simp [results, Tryd.results155, go_sem]) rfl ?_
        rw [HT.out]
        exact ⟨rfl, rfl⟩
      have HT : Hid (hd s false false = (true, 1 + k, N, 0)) := Lib.hid (by rw [hD, if_neg h4])
      have hn1 : ((N : Int) == 1) = false := by simp; omega
      clear hD
      go_enter Tryd.func155, Tryd.ntmps155
      go_wp2_with fail
      refine HGL.out.mono ?_
      rintro e w' ⟨rfl, rfl⟩
      go_wp2
      refine bodyPost_ret (v := .tuple #[.bool true, .int .i64 ((1 + k : Nat) : Int), .int .i64 (N : Int), .int .i64 0]) (by simp [results, Tryd.results155, go_sem] <;> omega) rfl ?_
      rw [HT.out]
      exact ⟨rfl, rfl⟩
  · obtain ⟨t, ht⟩ : ∃ t, s[0].toNat = 128 + t := ⟨s[0].toNat - 128, by omega⟩
    have hD := HR
    unfold hdR at hD
    dsimp only at hD
    have h192' : ¬ 192 ≤ 128 + t := by omega
    rw [hg0, ht, if_neg (by omega : ¬ 128 + t < 128), decide_eq_false h192', if_neg h192', show 128 + t - 128 = t from by omega] at hD
    have d1 : decide (192 ≤ 128 + (t : Int)) = false := decide_eq_false (by omega)
    have ht63 : t ≤ 63 := by omega
    clear HR hg0 hb h192 h192'
    by_cases h55 : t ≤ 55
    · rw [if_pos h55, if_pos h55, if_pos h55] at hD
      have e1 : 128 + (t : Int) - 128 = t := by omega
      by_cases h1 : s.size < 1 + t
      · have HT : Hid (hd s false false = (false, 0, 0, 2)) := Lib.hid (by rw [hD, if_pos h1])
        clear hD
        go_enter Tryd.func155, Tryd.ntmps155
        go_wp2
        refine bodyPost_ret (v := .tuple #[.bool false, .int .i64 (0 : Int), .int .i64 (0 : Int), .int .i64 2]) (by simp [results, Tryd.results155, go_sem]) rfl ?_
        rw [HT.out]
        exact ⟨rfl, rfl⟩
      · rw [if_neg h1] at hD
        by_cases ht1 : t = 1
        · subst ht1
          have h1s : 1 < s.size := by omega
          have hg1 : s.data.toList.getD 1 0 = s[1] := by rw [List.getD_eq_getElem?_getD, byte_at s 1 h1s]; rfl
          rw [hg1] at hD
          by_cases h2 : s[1].toNat < 128
          · have HT : Hid (hd s false false = (false, 0, 0, 3)) := Lib.hid (by rw [hD, if_pos ⟨rfl, rfl, h2⟩])
            clear hD hg1
            go_enter Tryd.func155, Tryd.ntmps155
            go_wp2
            refine bodyPost_ret (v := .tuple #[.bool false, .int .i64 (0 : Int), .int .i64 (0 : Int), .int .i64 3]) (by simp [results, Tryd.results155, go_sem]) rfl ?_
            rw [HT.out]
            exact ⟨rfl, rfl⟩
          · have HT : Hid (hd s false false = (false, 1, 1, 0)) := Lib.hid (by rw [hD, if_neg (by simp; omega)])
            clear hD hg1
            go_enter Tryd.func155, Tryd.ntmps155
            go_wp2
            refine bodyPost_ret (v := .tuple #[.bool false, .int .i64 (1 : Int), .int .i64 (1 : Int), .int .i64 0]) (by simp [results, Tryd.results155, go_sem]) rfl ?_
            rw [HT.out]
            exact ⟨rfl, rfl⟩
        · have HT : Hid (hd s false false = (false, 1, t, 0)) := Lib.hid (by rw [hD, if_neg (fun h => ht1 h.2.1)])
          have ht1' : ((t : Int) == 1) = false := by simp; omega
          clear hD
          go_enter Tryd.func155, Tryd.ntmps155
          go_wp2
          refine bodyPost_ret (v := .tuple #[.bool false, .int .i64 (1 : Int), .int .i64 (t : Int), .int .i64 0]) (by simp [results, Tryd.results155, go_sem]) rfl ?_
          rw [HT.out]
          exact ⟨rfl, rfl⟩
    · rw [if_neg h55, if_neg h55, if_neg h55] at hD
      obtain ⟨k, rfl⟩ : ∃ k, t = 55 + k := ⟨t - 55, by omega⟩
      rw [show 55 + k - 55 = k from by omega] at hD
      have e1 : 128 + (55 + (k : Int)) - 128 = 55 + k := by omega
      have e2 : 55 + (k : Int) - 55 = k := by omega
      by_cases h1 : s.size < 1 + k
      · have HT : Hid (hd s false false = (false, 0, 0, 2)) := Lib.hid (by rw [hD, if_pos h1])
        clear hD
        go_enter Tryd.func155, Tryd.ntmps155
        go_wp2
        refine bodyPost_ret (v := .tuple #[.bool false, .int .i64 (0 : Int), .int .i64 (0 : Int), .int .i64 2]) (by simp [results, Tryd.results155, go_sem]) rfl ?_
        rw [HT.out]
        exact ⟨rfl, rfl⟩
      rw [if_neg h1] at hD
      have h1s : 1 < s.size := by omega
      have hg1 : s.data.toList.getD 1 0 = s[1] := by rw [List.getD_eq_getElem?_getD, byte_at s 1 h1s]; rfl
      rw [hg1] at hD
      have hxz : (s.extract 1 (1 + k)).size = k := by rw [size_cut _ _ _ (by omega)]; omega
      have hld : lead0 (s.extract 1 (1 + k)).data.toList = decide (s[1].toNat = 0) := by
        have hx0 : (s.extract 1 (1 + k)).data.toList = s[1] :: (s.extract 1 (1 + k)).data.toList.drop 1 := by
          rw [toList_cut]
          have h2 : (s.data.toList.take (1 + k)).drop 1 = ((s.data.toList.drop 1).take k) := by rw [List.drop_take, show 1 + k - 1 = k from by omega]
          rw [h2, drop_cons s 1 h1s, show k = (k - 1) + 1 from by omega, List.take_succ_cons]
          rfl
        rw [hx0]
        simp only [lead0]
        by_cases e : s[1] = 0
        · simp [e]
        · have : s[1].toNat ≠ 0 := fun h => e (UInt8.toNat_inj.1 h)
          simp [e, this]
      have HGL := Lib.hid (getLeast_c (s.extract 1 (1 + k)) w (by omega))
      by_cases h0 : s[1].toNat = 0
      · have hE : glE (s.extract 1 (1 + k)) = 3 := by unfold glE; rw [if_neg (by omega), if_neg (by omega), hld, h0]; rfl
        have HT : Hid (hd s false false = (false, 0, 0, 3)) := Lib.hid (by rw [hD, if_pos (.inl h0)])
        rw [hE] at HGL
        clear hD hE hld hg1
        generalize glN (s.extract 1 (1 + k)) = N at *
        go_enter Tryd.func155, Tryd.ntmps155
        go_wp2_with fail
        refine HGL.out.mono ?_
        rintro e w' ⟨rfl, rfl⟩
        go_wp2
        refine bodyPost_ret (v := .tuple #[.bool false, .int .i64 (0 : Int), .int .i64 (0 : Int), .int .i64 3]) (by simp [results, Tryd.results155, go_sem]) rfl ?_
        rw [HT.out]
        exact ⟨rfl, rfl⟩
      have hE : glE (s.extract 1 (1 + k)) = 0 := by unfold glE; rw [if_neg (by omega), if_neg (by omega), hld, decide_eq_false h0]; rfl
      have hN : glN (s.extract 1 (1 + k)) = beL (s.extract 1 (1 + k)).data.toList := by unfold glN; rw [if_pos hE]
      have hN64 : beL (s.extract 1 (1 + k)).data.toList < 18446744073709551616 := by
        have h2 := beL_lt (s.extract 1 (1 + k)).data.toList
        rw [toList_size, hxz] at h2
        have h3 : 2 ^ (8 * k) ≤ 2 ^ (8 * 8) := Nat.pow_le_pow_right (by omega) (by omega)
        exact Nat.lt_of_lt_of_le h2 h3
      rw [hE, hN] at HGL
      clear hE hN hld hg1 hxz
      generalize beL (s.extract 1 (1 + k)).data.toList = N at *
      by_cases h2 : N ≤ 55
      · have HT : Hid (hd s false false = (false, 0, 0, 3)) := Lib.hid (by rw [hD, if_pos (.inr h2)])
        clear hD
        go_enter Tryd.func155, Tryd.ntmps155
        go_wp2_with fail
        refine HGL.out.mono ?_
        rintro e w' ⟨rfl, rfl⟩
        go_wp2
        refine bodyPost_ret (v := .tuple #[.bool false, .int .i64 (0 : Int), .int .i64 (0 : Int), .int .i64 3]) (by simp [results, Tryd.results155, go_sem]) rfl ?_
        rw [HT.out]
        exact ⟨rfl, rfl⟩
      rw [if_neg (fun h => h.elim h0 h2)] at hD
      by_cases h3 : s.size < N
      · have HT : Hid (hd s false false = (false, 0, 0, 2)) := Lib.hid (by rw [hD, if_pos (by omega)])
        clear hD
        go_enter Tryd.func155, Tryd.ntmps155
        go_wp2_with fail
        refine HGL.out.mono ?_
        rintro e w' ⟨rfl, rfl⟩
        go_wp2
        refine bodyPost_ret (v := .tuple #[.bool false, .int .i64 (0 : Int), .int .i64 (0 : Int), .int .i64 2]) (by simp [results, Tryd.results155, go_sem]) rfl ?_
        rw [HT.out]
        exact ⟨rfl, rfl⟩
      by_cases h4 : s.size < 1 + k + N
      · have HT : Hid (hd s false false = (false, 0, 0, 2)) := Lib.hid (by rw [hD, if_pos h4])
        clear hD
        go_enter Tryd.func155, Tryd.ntmps155
        go_wp2_with fail
        refine HGL.out.mono ?_
        rintro e w' ⟨rfl, rfl⟩
        go_wp2
        refine bodyPost_ret (v := .tuple #[.bool false, .int .i64 (0 : Int), .int .i64 (0 : Int), .int .i64 2]) (by simp [results, Tryd.results155, go_sem]) rfl ?_
        rw [HT.out]
        exact ⟨rfl, rfl⟩
      have HT : Hid (hd s false false = (false, 1 + k, N, 0)) := Lib.hid (by rw [hD, if_neg h4])
      have hn1 : ((N : Int) == 1) = false := by simp; omega
      clear hD
      go_enter Tryd.func155, Tryd.ntmps155
      go_wp2_with fail
      refine HGL.out.mono ?_
      rintro e w' ⟨rfl, rfl⟩
      go_wp2
      refine bodyPost_ret (v := .tuple #[.bool false, .int .i64 ((1 + k : Nat) : Int), .int .i64 (N : Int), .int .i64 0]) (by simp [results, Tryd.results155, go_sem] <;> omega) rfl ?_
      rw [HT.out]
      exact ⟨rfl, rfl⟩
end Go.Proofs.YtacikiambpfipaaDoor
