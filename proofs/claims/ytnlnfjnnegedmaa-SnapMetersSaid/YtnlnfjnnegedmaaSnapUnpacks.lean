/- hatchwaylaw11.SnapUnpacks: what any bytes unpack to, by any cap, or the error, is the document's; how many bytes that are, too. -/
import Derived.Test.YtnlnfjnnegedmaaSnapPlain
import Derived.Test.YtnlnfjnnegedmaaSnapRef
namespace Go.Proofs.Ytnlnfjnnegedmaa
set_option linter.unusedVariables false
set_option linter.unusedSimpArgs false
open Go.RowKit

theorem sAll_len {s : ByteArray} {size : Nat} : ∀ (f k : Nat) (out : List UInt8), out.length ≤ size → (sAll s size f k out).1 = 0 → (sAll s size f k out).2.length = size := by
  intro f
  induction f with
  | zero => intro k out _ h; simp [sAll] at h
  | succ f ih =>
    intro k out ho h
    by_cases hk : k < s.size
    · by_cases h0 : (sStep s size k s[k].toNat out).1 = 0
      · rw [← sAll_next hk rfl h0] at h ⊢
        exact ih _ _ (sStep_ok s[k].toNat_lt hk ho h0).2.2 h
      · rw [sAll_err hk rfl h0] at h
        exact absurd h h0
    · rw [sAll_end hk rfl] at h ⊢
      by_cases hl : out.length < size
      · rw [if_pos hl] at h; simp at h
      · rw [if_neg hl]; simp; omega
theorem sUnpack_len (s : ByteArray) (most : Int) (h : (sUnpack s most).1 = 0) : (sUnpack s most).2.length = (sSize s).1 ∧ ((sSize s).1 : Int) ≤ most := by
  unfold sUnpack at h ⊢
  by_cases h1 : (sSize s).2.2 ≠ 0
  · rw [if_pos h1] at h; exact absurd h h1
  · rw [if_neg h1] at h ⊢
    by_cases h2 : most < (sSize s).1
    · rw [if_pos h2] at h; simp at h
    · rw [if_neg h2] at h ⊢
      exact ⟨sAll_len _ _ _ (by simp) h, by omega⟩

set_option maxRecDepth 100000 in
set_option maxHeartbeats 800000 in
theorem snapUnpacks_w (s : ByteArray) (most : Int) (w : World) (hs : s.size ≤ 9223372036854775807) :
    Calls Try.prog 11 #[.string s, .int .i64 most] w fun e w' => e = .returned (.bool true) ∧ Below w.heap.size w w' := by
  by_cases h0 : 1500 < s.size
  · go_enter Try.func11, Try.ntmps11
    go_wp2_with fail
    refine (snapAlive w).mono ?_
    rintro e w1 ⟨rfl, hb⟩
    go_wp2
    go_ret
    exact ⟨rfl, hb⟩
  · have hlen := sUnpack_len s most
    have H1 := Lib.hid (fun w => size_c s w hs)
    have H2 := Lib.hid (fun w => refSize_c s w hs)
    have H3 := Lib.hid (fun w => unpack_nil s most w hs)
    have H4 := Lib.hid (fun w => refUnpack_c s most w hs)
    generalize sUnpack s most = y at *
    obtain ⟨er, l⟩ := y
    generalize sSize s = x at *
    obtain ⟨n, hd, es⟩ := x
    simp only at hlen H3 H4 H1 H2
    have n1 : ((n : Int) != n) = false := by simp
    have n2 : ((hd : Int) != hd) = false := by simp
    have n3 : (es != es) = false := by simp
    have n4 : (er == er) = true := by simp
    by_cases h1 : 20000 < most ∧ 20000 < n
    · obtain ⟨h1, h2⟩ := h1
      clear hlen
      go_enter Try.func11, Try.ntmps11
      go_wp2_with fail
      refine (snapAlive w).mono ?_
      rintro e w1 ⟨rfl, hb⟩
      go_wp2_with fail
      refine (H1.out _).mono ?_
      rintro e w' ⟨rfl, rfl⟩
      go_wp2_with fail
      refine (H2.out _).mono ?_
      rintro e w' ⟨rfl, rfl⟩
      go_wp2
      go_ret
      exact ⟨rfl, hb⟩
    · have hways : (most ≤ 20000) ∨ (20000 < most ∧ n ≤ 20000) := by omega
      clear h1
      obtain ⟨T, hT⟩ : ∃ T : ByteArray, (⟨l.toArray⟩ : ByteArray) = T := ⟨_, rfl⟩
      have hTs : T.size = l.length := by rw [← hT, size_of]
      rw [hT] at H3 H4
      rcases beq0 er with ⟨e0, e1, e2⟩ | ⟨e0, e1, e2⟩
      · obtain ⟨hl1, hl2⟩ := hlen e0
        have n6 : ((T.size : Int) == (n : Int)) = true := by simp; omega
        subst e0
        clear hlen hl1 hTs hT e1 e2 n4
        rcases hways with hw | ⟨hw, hw2⟩
        · go_enter Try.func11, Try.ntmps11
          go_wp2_with fail
          refine (snapAlive w).mono ?_
          rintro e w1 ⟨rfl, hb⟩
          go_wp2_with fail
          refine (H1.out _).mono ?_
          rintro e w' ⟨rfl, rfl⟩
          go_wp2_with fail
          refine (H2.out _).mono ?_
          rintro e w' ⟨rfl, rfl⟩
          go_wp2_with fail
          refine (H3.out _).mono ?_
          rintro e w2 ⟨rfl, hb2⟩
          go_wp2_with fail
          refine (H4.out _).mono ?_
          rintro e w3 ⟨rfl, hb3⟩
          have hz1 := hb.size
          have hz2 := hb2.size
          have hB := (hb.trans (hb2.mono hz1)).trans (hb3.mono (by omega))
          clear hb hb2 hb3
          go_wp2
          go_ret
          exact ⟨rfl, hB⟩
        · go_enter Try.func11, Try.ntmps11
          go_wp2_with fail
          refine (snapAlive w).mono ?_
          rintro e w1 ⟨rfl, hb⟩
          go_wp2_with fail
          refine (H1.out _).mono ?_
          rintro e w' ⟨rfl, rfl⟩
          go_wp2_with fail
          refine (H2.out _).mono ?_
          rintro e w' ⟨rfl, rfl⟩
          go_wp2_with fail
          refine (H3.out _).mono ?_
          rintro e w2 ⟨rfl, hb2⟩
          go_wp2_with fail
          refine (H4.out _).mono ?_
          rintro e w3 ⟨rfl, hb3⟩
          have hz1 := hb.size
          have hz2 := hb2.size
          have hB := (hb.trans (hb2.mono hz1)).trans (hb3.mono (by omega))
          clear hb hb2 hb3
          go_wp2
          go_ret
          exact ⟨rfl, hB⟩
      · have E0 := Lib.hid e0
        clear hlen hTs hT e0
        rcases hways with hw | ⟨hw, hw2⟩
        · go_enter Try.func11, Try.ntmps11
          go_wp2_with fail
          refine (snapAlive w).mono ?_
          rintro e w1 ⟨rfl, hb⟩
          go_wp2_with fail
          refine (H1.out _).mono ?_
          rintro e w' ⟨rfl, rfl⟩
          go_wp2_with fail
          refine (H2.out _).mono ?_
          rintro e w' ⟨rfl, rfl⟩
          go_wp2_with fail
          refine (H3.out _).mono ?_
          rintro e w2 ⟨rfl, hb2⟩
          go_wp2_with fail
          refine (H4.out _).mono ?_
          rintro e w3 ⟨rfl, hb3⟩
          have hz1 := hb.size
          have hz2 := hb2.size
          have hB := (hb.trans (hb2.mono hz1)).trans (hb3.mono (by omega))
          clear hb hb2 hb3
          go_wp2
          go_ret
          exact ⟨rfl, hB⟩
        · go_enter Try.func11, Try.ntmps11
          go_wp2_with fail
          refine (snapAlive w).mono ?_
          rintro e w1 ⟨rfl, hb⟩
          go_wp2_with fail
          refine (H1.out _).mono ?_
          rintro e w' ⟨rfl, rfl⟩
          go_wp2_with fail
          refine (H2.out _).mono ?_
          rintro e w' ⟨rfl, rfl⟩
          go_wp2_with fail
          refine (H3.out _).mono ?_
          rintro e w2 ⟨rfl, hb2⟩
          go_wp2_with fail
          refine (H4.out _).mono ?_
          rintro e w3 ⟨rfl, hb3⟩
          have hz1 := hb.size
          have hz2 := hb2.size
          have hB := (hb.trans (hb2.mono hz1)).trans (hb3.mono (by omega))
          clear hb hb2 hb3
          go_wp2
          go_ret
          exact ⟨rfl, hB⟩

theorem snapUnpacks_row (s : ByteArray) (most : Int) (w : World) (hs : s.size ≤ maxLen) (_ : (Lit.int .i64 most).wf = true) :
    Calls Try.prog 11 #[.string s, .int .i64 most] w fun e w' => e = .returned (.bool true) ∧ Below w.heap.size w w' :=
  snapUnpacks_w s most w (by simpa [maxLen] using hs)
end Go.Proofs.Ytnlnfjnnegedmaa
