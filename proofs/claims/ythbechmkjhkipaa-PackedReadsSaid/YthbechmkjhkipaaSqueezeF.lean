/- squeeze.Match, appendLiteral, appendCopy, and the document's. -/
import Derived.Test.YthbechmkjhkipaaLebPut
import Derived.Test.YthbechmkjhkipaaDigits
import Derived.Test.YthbechmkjhkipaaFixed
import Derived.Deep.QuietTactic
import Derived.BigQuiet
namespace Go.Proofs.Ythbechmkjhkipaa
set_option linter.unusedVariables false
set_option linter.unusedSimpArgs false
open Go.RowKit

theorem mt_yes {L : List UInt8} {j i n : Nat} {X : Nat} (hX : n + mt L (j + n) (i + n) (64 - n) = X) (hn : n < 64) (hlt : i + n < L.length) (he : L[j + n]? = L[i + n]?) : (n + 1) + mt L (j + (n + 1)) (i + (n + 1)) (64 - (n + 1)) = X := by
  rw [← hX, show 64 - n = (64 - (n + 1)) + 1 from by omega, mt, if_pos ⟨hlt, he⟩]
  rw [show j + (n + 1) = j + n + 1 from by omega, show i + (n + 1) = i + n + 1 from by omega]
  omega
theorem mt_no {L : List UInt8} {j i n : Nat} {X : Nat} (hX : n + mt L (j + n) (i + n) (64 - n) = X) (hn : n ≤ 64) (h : ¬ n < 64 ∨ ¬ i + n < L.length ∨ L[j + n]? ≠ L[i + n]?) : X = n := by
  rw [← hX]
  by_cases h64 : n < 64
  · rw [show 64 - n = (64 - (n + 1)) + 1 from by omega, mt, if_neg (by
      rintro ⟨h1, h2⟩
      rcases h with h | h | h
      · exact h h64
      · exact h h1
      · exact h h2)]; rfl
  · rw [show 64 - n = 0 from by omega]; rfl
theorem byte_eq {s : ByteArray} {a b : Nat} (ha : a < s.size) (hb : b < s.size) : (s[a].toNat == s[b].toNat) = true ↔ s.data.toList[a]? = s.data.toList[b]? := by
  rw [byte_at s a ha, byte_at s b hb]
  simp [UInt8.toNat_inj]

theorem drewN2 (w : World) (a b : Nat) : (w.drewN a).drewN b = w.drewN (a + b) := by simp [World.drewN, Nat.add_assoc]
theorem ret_num {k : IntKind} {a b : Nat} (h : a = b) : Ending.returned (.int k b) = .returned (.int k a) := by rw [h]
set_option maxRecDepth 100000 in
set_option maxHeartbeats 1000000 in
theorem match_c (s : ByteArray) (j i : Nat) (w : World) (hj : j < i) (hi : i ≤ s.size) (hs : s.size ≤ 9223372036854775000) :
    Calls Try.prog 25 #[.string s, .int .i64 j, .int .i64 i] w fun e w' => e = .returned (.int .i64 (mt s.data.toList j i 64)) ∧ ∃ m, w' = w.drewN m := by
  go_enter Try.func25, Try.ntmps25
  go_wp2
  go_loopw [7] (fun v wr => ∃ n : Nat, n ≤ 64 ∧ n ≤ 64 ∧ v = .int .i64 n ∧ Hid (n + mt s.data.toList (j + n) (i + n) (64 - n) = mt s.data.toList j i 64) ∧ ∃ m, wr = w.drewN m) (fun v _ => 64 - (intOf v).toNat)
  case atStart => exact ⟨0, by omega, by omega, rfl, Lib.hid (by simp), 0, rfl⟩
  case round =>
    obtain ⟨n, hn, _, rfl, hX, m, rfl⟩ := hrel
    by_cases hn64 : n < 64
    · have d0 : decide ((n : Int) < 64) = true := decide_eq_true (by omega)
      have e1 : IntKind.i64.wrap ((i : Int) + n) = (i : Int) + n := IntWalk.i64_in _ (by omega)
      have e2 : IntKind.i64.wrap ((j : Int) + n) = (j : Int) + n := IntWalk.i64_in _ (by omega)
      by_cases hlt : i + n < s.size
      · have d1 : decide ((i : Int) + n < s.size) = true := decide_eq_true (by omega)
        have e3 : ((j : Int) + n).toNat = j + n := by omega
        have e4 : ((i : Int) + n).toNat = i + n := by omega
        have e5 : 0 ≤ (j : Int) + n := by omega
        have e6 : 0 ≤ (i : Int) + n := by omega
        have e7 : (j : Int) + n < s.size := by omega
        have e8 : (i : Int) + n < s.size := by omega
        have e9 : j + n < s.size := by omega
        rcases Bool.eq_false_or_eq_true (s[j + n].toNat == s[i + n].toNat) with hb | hb
        · have HB := Lib.hid ((byte_eq e9 hlt).1 hb)
          have hb' : ((s[j + n].toNat : Int) == s[i + n].toNat) = true := by
            have := eq_of_beq hb
            rw [this]; simp
          clear hb
          go_wp2
          go_quiet (fail)
          go_wp2
          go_roundw
          case rel => exact ⟨n + 1, by omega, by omega, by go_num, Lib.hid (mt_yes hX.out hn64 (by simpa using hlt) HB.out), _, rfl⟩
          case measure => simp [intOf]; omega
        · have HB : Hid (¬ (s.data.toList[j + n]? = s.data.toList[i + n]?)) := Lib.hid (by
            intro h
            rw [(byte_eq e9 hlt).2 h] at hb
            exact absurd hb (by decide))
          have hb' : ((s[j + n].toNat : Int) == s[i + n].toNat) = false := by
            have := ne_of_beq_false hb
            exact beq_eq_false_iff_ne.2 (by omega)
          clear hb
          go_wp2
          go_quiet (fail)
          go_wp2
          go_ret
          exact ⟨ret_num (mt_no hX.out hn (.inr (.inr HB.out))), _, drewN2 _ _ _⟩
      · have d1 : decide ((i : Int) + n < s.size) = false := decide_eq_false (by omega)
        go_wp2
        go_quiet (fail)
        go_wp2
        go_ret
        exact ⟨ret_num (mt_no hX.out hn (.inr (.inl (by simpa using hlt)))), _, drewN2 _ _ _⟩
    · have d0 : decide ((n : Int) < 64) = false := decide_eq_false (by omega)
      go_wp2
      go_quiet (fail)
      go_wp2
      go_ret
      exact ⟨ret_num (mt_no hX.out hn (.inl hn64)), _, drewN2 _ _ _⟩
set_option maxRecDepth 100000 in
set_option maxHeartbeats 1000000 in
theorem refMatch_c (s : ByteArray) (j i : Nat) (w : World) (hj : j < i) (hi : i ≤ s.size) (hs : s.size ≤ 9223372036854775000) :
    Calls Try.prog 37 #[.string s, .int .i64 j, .int .i64 i] w fun e w' => e = .returned (.int .i64 (mt s.data.toList j i 64)) ∧ ∃ m, w' = w.drewN m := by
  go_enter Try.func37, Try.ntmps37
  go_wp2
  go_loopw [7] (fun v wr => ∃ n : Nat, n ≤ 64 ∧ n ≤ 64 ∧ v = .int .i64 n ∧ Hid (n + mt s.data.toList (j + n) (i + n) (64 - n) = mt s.data.toList j i 64) ∧ ∃ m, wr = w.drewN m) (fun v _ => 64 - (intOf v).toNat)
  case atStart => exact ⟨0, by omega, by omega, rfl, Lib.hid (by simp), 0, rfl⟩
  case round =>
    obtain ⟨n, hn, _, rfl, hX, m, rfl⟩ := hrel
    have e1 : IntKind.i64.wrap ((i : Int) + n) = (i : Int) + n := IntWalk.i64_in _ (by omega)
    have e2 : IntKind.i64.wrap ((j : Int) + n) = (j : Int) + n := IntWalk.i64_in _ (by omega)
    by_cases hn64 : n < 64
    · have d0 : decide ((n : Int) < 64) = true := decide_eq_true (by omega)
      by_cases hlt : i + n < s.size
      · have d1 : decide ((i : Int) + n < s.size) = true := decide_eq_true (by omega)
        have d2 : decide ((j : Int) + n < s.size) = true := decide_eq_true (by omega)
        have e3 : ((j : Int) + n).toNat = j + n := by omega
        have e4 : ((i : Int) + n).toNat = i + n := by omega
        have e5 : 0 ≤ (j : Int) + n := by omega
        have e6 : 0 ≤ (i : Int) + n := by omega
        have e7 : (j : Int) + n < s.size := by omega
        have e8 : (i : Int) + n < s.size := by omega
        have e9 : j + n < s.size := by omega
        rcases Bool.eq_false_or_eq_true (s[j + n].toNat == s[i + n].toNat) with hb | hb
        · have HB := Lib.hid ((byte_eq e9 hlt).1 hb)
          have hb' : ((s[j + n].toNat : Int) == s[i + n].toNat) = true := by
            have := eq_of_beq hb
            rw [this]; simp
          clear hb
          go_wp2
          go_quiet (fail)
          go_wp2
          go_roundw
          case rel => exact ⟨n + 1, by omega, by omega, by go_num, Lib.hid (mt_yes hX.out hn64 (by simpa using hlt) HB.out), _, rfl⟩
          case measure => simp [intOf]; omega
        · have HB : Hid (¬ (s.data.toList[j + n]? = s.data.toList[i + n]?)) := Lib.hid (by
            intro h
            rw [(byte_eq e9 hlt).2 h] at hb
            exact absurd hb (by decide))
          have hb' : ((s[j + n].toNat : Int) == s[i + n].toNat) = false := by
            have := ne_of_beq_false hb
            exact beq_eq_false_iff_ne.2 (by omega)
          clear hb
          go_wp2
          go_quiet (fail)
          go_wp2
          go_ret
          exact ⟨ret_num (mt_no hX.out hn (.inr (.inr HB.out))), _, drewN2 _ _ _⟩
      · have d1 : decide ((i : Int) + n < s.size) = false := decide_eq_false (by omega)
        by_cases hl2 : j + n < s.size
        · have d2 : decide ((j : Int) + n < s.size) = true := decide_eq_true (by omega)
          go_wp2
          go_quiet (fail)
          go_wp2
          go_ret
          exact ⟨ret_num (mt_no hX.out hn (.inr (.inl (by simpa using hlt)))), _, drewN2 _ _ _⟩
        · have d2 : decide ((j : Int) + n < s.size) = false := decide_eq_false (by omega)
          go_wp2
          go_quiet (fail)
          go_wp2
          go_ret
          exact ⟨ret_num (mt_no hX.out hn (.inr (.inl (by simpa using hlt)))), _, drewN2 _ _ _⟩
    · have d0 : decide ((n : Int) < 64) = false := decide_eq_false (by omega)
      go_wp2
      go_quiet (fail)
      go_wp2
      go_ret
      exact ⟨ret_num (mt_no hX.out hn (.inl hn64)), _, drewN2 _ _ _⟩
end Go.Proofs.Ythbechmkjhkipaa
