/- leb.Next, and the document's: both tell 'lebNext'. -/
import Derived.Test.YtebllmpdlapefaaGreatDoorProg
import Derived.Test.YtebllmpdlapefaaGreatDoorKA1
import Derived.WalkSpells
namespace Go.Proofs.YtebllmpdlapefaaGreatDoor
set_option linter.unusedVariables false
set_option linter.unusedSimpArgs false
open Go.RowKit

/-- What the walk leaves of 'n |= uint64(b&127) << (7*i)'. -/
theorem leb_bits (m b k : Nat) (hb : b < 256) (hk : k ≤ 9) (hm : m < 2 ^ (7 * k)) (hbad : ¬ ((k = 9 ∧ 1 < b) ∨ (0 < k ∧ b = 0))) :
    bits .or .u64 (m : Int) (IntKind.u64.wrap (IntKind.u64.wrap (bits .and .u8 (b : Int) 127) * 2 ^ (7 * k))) = ((m + b % 128 * 2 ^ (7 * k) : Nat) : Int) := by
  have h1 : bits .and .u8 (b : Int) 127 = ((b % 128 : Nat) : Int) := by
    have := u8_and_nat b 127 hb (by omega)
    rw [nat_mask7] at this
    exact this
  have hl := leb_last m b k hk hm hbad
  have hp := leb_pow k hk
  have h2 : ((b % 128 : Nat) : Int) * 2 ^ (7 * k) = ((b % 128 * 2 ^ (7 * k) : Nat) : Int) := by simp
  rw [h1, IntWalk.u64_in ((b % 128 : Nat) : Int) (by omega), h2, IntWalk.u64_in _ (by omega), u64_or_nat _ _ (by omega) (by omega), leb_or _ _ _ hm]
theorem leb_ret {a b : Nat} {c : Int} {x : Nat × Nat × Int} {v : Int} (h : x = (a, b, c)) (hv : v = (a : Int)) : Ending.returned (.tuple #[.int .u64 v, .int .i64 b, .int .i64 c]) = .returned (.tuple #[.int .u64 x.1, .int .i64 x.2.1, .int .i64 x.2.2]) := by
  subst h; subst hv; rfl
theorem leb_next {s : ByteArray} {k m : Nat} {x : Nat × Nat × Int} (hlt : k < s.size) (h9 : k ≤ 8) (hgo : lebGo s (10 - k) k m = x) (hbad : ¬ ((k = 9 ∧ 1 < s[k].toNat) ∨ (0 < k ∧ s[k].toNat = 0))) (hl : ¬ s[k].toNat < 128) :
    lebGo s (10 - (k + 1)) (k + 1) (m + s[k].toNat % 128 * 2 ^ (7 * k)) = x := by
  rw [← hgo, show 10 - k = (10 - (k + 1)) + 1 from by omega, lebGo_more s _ k m hlt hbad hl]
theorem leb_done {s : ByteArray} {k m : Nat} {x : Nat × Nat × Int} (hlt : k < s.size) (h9 : k ≤ 9) (hgo : lebGo s (10 - k) k m = x) (hbad : ¬ ((k = 9 ∧ 1 < s[k].toNat) ∨ (0 < k ∧ s[k].toNat = 0))) (hl : s[k].toNat < 128) :
    x = (m + s[k].toNat % 128 * 2 ^ (7 * k), k + 1, 0) := by
  rw [← hgo, show 10 - k = (9 - k) + 1 from by omega, lebGo_last s _ k m hlt hbad hl]
theorem leb_no {s : ByteArray} {k m : Nat} {x : Nat × Nat × Int} (hlt : k < s.size) (h9 : k ≤ 9) (hgo : lebGo s (10 - k) k m = x) (hbad : (k = 9 ∧ 1 < s[k].toNat) ∨ (0 < k ∧ s[k].toNat = 0)) : x = (0, 0, 3) := by
  rw [← hgo, show 10 - k = (9 - k) + 1 from by omega, lebGo_bad s _ k m hlt hbad]
theorem leb_ends {s : ByteArray} {k m : Nat} {x : Nat × Nat × Int} (hk : k ≤ s.size) (hlt : ¬ (k < s.size ∧ k < 10)) (hk10 : k ≤ 10) (hgo : lebGo s (10 - k) k m = x) : x = (0, 0, 2) := by
  rw [← hgo]
  rcases Nat.lt_or_ge k 10 with h | h
  · exact lebGo_end s _ k m (by omega)
  · rw [show 10 - k = 0 from by omega]; rfl
/-- The six ways through a round's tests. -/
theorem leb_ways (k b : Nat) (hk : k < 10) :
    (((k = 9 ∧ 1 < b) ∨ (0 < k ∧ b = 0)) ∧ ((((k : Int) == 9) = true ∧ 1 < b) ∨ (((k : Int) == 9) = true ∧ b ≤ 1 ∧ 0 < k ∧ ((b : Int) == 0) = true) ∨ (((k : Int) == 9) = false ∧ 0 < k ∧ ((b : Int) == 0) = true))) ∨
    ((¬ ((k = 9 ∧ 1 < b) ∨ (0 < k ∧ b = 0))) ∧ ((((k : Int) == 9) = true ∧ b ≤ 1 ∧ 0 < k ∧ ((b : Int) == 0) = false) ∨ (((k : Int) == 9) = false ∧ 0 < k ∧ ((b : Int) == 0) = false ∧ k ≤ 8) ∨ (((k : Int) == 9) = false ∧ k ≤ 0))) := by
  simp only [beq_iff_eq, decide_eq_true_eq, decide_eq_false_iff_not, beq_eq_false_iff_ne, ne_eq]
  omega

set_option maxRecDepth 100000 in
set_option maxHeartbeats 2000000 in
theorem lebNext_c (s : ByteArray) (w : World) (hs : s.size ≤ 9223372036854775807) :
    Calls Tryz.prog 117 #[.string s] w fun e w' => e = .returned (.tuple #[.int .u64 (lebNext s).1, .int .i64 (lebNext s).2.1, .int .i64 (lebNext s).2.2]) ∧ w = w' := by
  by_cases h10 : s.size ≤ 10
  all_goals
    go_enter Tryz.func117, Tryz.ntmps117
    go_wp2
    go_loop [5, 11] (fun n i => ∃ k m : Nat, k ≤ 10 ∧ k ≤ s.size ∧ Hid (m < 2 ^ (7 * k)) ∧ Hid (lebGo s (10 - k) k m = lebNext s) ∧ n = .int .u64 m ∧ i = .int .i64 k) (fun _ i => 10 - (intOf i).toNat)
    case atStart => exact ⟨0, 0, by omega, by omega, Lib.hid (by simp), rfl, rfl, rfl⟩
    case round =>
      obtain ⟨k, m, hk, hk2, hm, hgo, rfl, rfl⟩ := hrel
      by_cases hlt : k < s.size ∧ k < 10
      · obtain ⟨hlt, hlt2⟩ := hlt
        rcases leb_ways k s[k].toNat hlt2 with ⟨hbad, hways⟩ | ⟨hbad, hways⟩
        · have HB := Lib.hid hbad
          clear hbad
          rcases hways with ⟨e1, e2⟩ | ⟨e1, e2, e3, e4⟩ | ⟨e1, e2, e3⟩
          all_goals
            go_wp2
            go_ret3
            exact ⟨leb_ret (leb_no hlt (by omega) hgo.out HB.out) rfl, rfl⟩
        · have HB := Lib.hid hbad
          clear hbad
          have hb := Lib.hid (s[k].toNat_lt)
          rcases hways with ⟨e1, e2, e3, e4⟩ | ⟨e1, e2, e3, e4⟩ | ⟨e1, e2⟩
          · go_wp2
            go_ret3
            exact ⟨leb_ret (leb_done hlt (by omega) hgo.out HB.out (by omega)) (leb_bits m _ k hb.out (by omega) hm.out HB.out), rfl⟩
          all_goals
            go_wp2
            · go_ret3
              exact ⟨leb_ret (leb_done hlt (by omega) hgo.out HB.out (by omega)) (leb_bits m _ k hb.out (by omega) hm.out HB.out), rfl⟩
            · go_round
              case rel => exact ⟨k + 1, _, by omega, by omega, Lib.hid (leb_step m s[k].toNat k hm.out), Lib.hid (leb_next hlt (by omega) hgo.out HB.out (by omega)), by rw [leb_bits m _ k hb.out (by omega) hm.out HB.out], by go_num⟩
              case measure => simp [intOf]; omega
      · go_wp2
        go_ret3
        exact ⟨leb_ret (leb_ends hk2 hlt hk hgo.out) rfl, rfl⟩

theorem leb_sum (m b k q : Nat) (hk : k ≤ 9) (hq : q = 2 ^ (7 * k)) (hm : m < 2 ^ (7 * k)) (hbad : ¬ ((k = 9 ∧ 1 < b) ∨ (0 < k ∧ b = 0))) :
    IntKind.u64.wrap ((m : Int) + IntKind.u64.wrap ((b : Int) % 128 * q)) = ((m + b % 128 * 2 ^ (7 * k) : Nat) : Int) := by
  subst hq
  have hl := leb_last m b k hk hm hbad
  have h2 : (b : Int) % 128 * ((2 ^ (7 * k) : Nat) : Int) = ((b % 128 * 2 ^ (7 * k) : Nat) : Int) := by simp
  rw [h2, IntWalk.u64_in ((b % 128 * 2 ^ (7 * k) : Nat) : Int) (by omega), IntWalk.u64_in _ (by omega)]
  omega
theorem leb_by (k q : Nat) (hk : k ≤ 8) (hq : q = 2 ^ (7 * k)) : IntKind.u64.wrap ((q : Int) * 128) = ((2 ^ (7 * (k + 1)) : Nat) : Int) := by
  have h2 : 2 ^ (7 * (k + 1)) = 128 * 2 ^ (7 * k) := by rw [show 7 * (k + 1) = 7 + 7 * k from by omega, Nat.pow_add]
  have h3 := leb_pow (k + 1) (by omega)
  subst hq
  rw [h2] at h3 ⊢
  rw [IntWalk.u64_in _ (by omega)]
  omega

set_option maxRecDepth 100000 in
set_option maxHeartbeats 2000000 in
theorem refLebNext_c (s : ByteArray) (w : World) (hs : s.size ≤ 9223372036854775807) :
    Calls Tryz.prog 83 #[.string s] w fun e w' => e = .returned (.tuple #[.int .u64 (lebNext s).1, .int .i64 (lebNext s).2.1, .int .i64 (lebNext s).2.2]) ∧ w = w' := by
  go_enter Tryz.func83, Tryz.ntmps83
  go_wp2
  go_loop [5, 6, 7] (fun n p i => ∃ k m q : Nat, k ≤ 9 ∧ k ≤ s.size ∧ Hid (q = 2 ^ (7 * k)) ∧ Hid (m < 2 ^ (7 * k)) ∧ Hid (lebGo s (10 - k) k m = lebNext s) ∧ n = .int .u64 m ∧ p = .int .u64 q ∧ i = .int .i64 k) (fun _ _ i => 10 - (intOf i).toNat)
  case atStart => exact ⟨0, 0, 1, by omega, by omega, Lib.hid (by simp), Lib.hid (by simp), rfl, rfl, rfl, rfl⟩
  case round =>
    obtain ⟨k, m, q, hk, hk2, hq, hm, hgo, rfl, rfl, rfl⟩ := hrel
    by_cases hlt : k < s.size
    · rcases leb_ways k s[k].toNat (by omega) with ⟨hbad, hways⟩ | ⟨hbad, hways⟩
      · have HB := Lib.hid hbad
        clear hbad
        rcases hways with ⟨e1, e2⟩ | ⟨e1, e2, e3, e4⟩ | ⟨e1, e2, e3⟩
        all_goals
          go_wp2
          go_ret3
          exact ⟨leb_ret (leb_no hlt (by omega) hgo.out HB.out) rfl, rfl⟩
      · have HB := Lib.hid hbad
        clear hbad
        have hb := Lib.hid (s[k].toNat_lt)
        rcases hways with ⟨e1, e2, e3, e4⟩ | ⟨e1, e2, e3, e4⟩ | ⟨e1, e2⟩
        · go_wp2
          go_ret3
          exact ⟨leb_ret (leb_done hlt (by omega) hgo.out HB.out (by omega)) (leb_sum m _ k q (by omega) hq.out hm.out HB.out), rfl⟩
        all_goals
          go_wp2
          · go_ret3
            exact ⟨leb_ret (leb_done hlt (by omega) hgo.out HB.out (by omega)) (leb_sum m _ k q (by omega) hq.out hm.out HB.out), rfl⟩
          · go_round
            case rel => exact ⟨k + 1, _, _, by omega, by omega, Lib.hid rfl, Lib.hid (leb_step m s[k].toNat k hm.out), Lib.hid (leb_next hlt (by omega) hgo.out HB.out (by omega)), by rw [leb_sum m _ k q (by omega) hq.out hm.out HB.out], by rw [leb_by k q (by omega) hq.out], by go_num⟩
            case measure => simp [intOf]; omega
    · go_wp2
      go_ret3
      exact ⟨leb_ret (leb_ends hk2 (by omega) (by omega) hgo.out) rfl, rfl⟩
end Go.Proofs.YtebllmpdlapefaaGreatDoor
