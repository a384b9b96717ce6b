/- hatchwaylaw11.SnapRuns: a copy lays what it laid itself. -/
import Derived.Test.YtnlnfjnnegedmaaSnapPlain
import Derived.Test.YtnlnfjnnegedmaaSnapRunsP
namespace Go.Proofs.Ytnlnfjnnegedmaa
set_option linter.unusedVariables false
set_option linter.unusedSimpArgs false
open Go.RowKit

/-- Unpack at a block of a literal and a copy of all of it. -/
theorem unpack_runs (b s : ByteArray) (n : Nat) (w : World) (h1 : 1 ≤ s.size) (h2 : s.size ≤ 60) (hn1 : 1 ≤ n) (hn2 : n ≤ 64) (ht : s.size + n < 128)
    (hb : b = (⟨#[ub ((s.size : Int) + n), ub (4 * ((s.size : Int) - 1))]⟩ ++ s) ++ ⟨#[ub (4 * ((n : Int) - 1) + 2), ub s.size, ub 0]⟩) :
    Calls Try.prog 48 #[.string b, .int .i64 200, .pointer none] w fun e w' => (∃ t : ByteArray, e = .returned (.tuple #[.string t, .int .i64 0]) ∧ t.size = s.size + n ∧ ∀ i (h : i < t.size) (h' : i % s.size < s.size), t[i] = s[i % s.size]) ∧ Below w.heap.size w w' := by
  have hl : b.data.toList = szL (s.data.toList.length + n) ++ (ub (4 * (s.data.toList.length - 1) : Nat) :: (s.data.toList ++ [ub (4 * (n - 1) + 2 : Nat), ub (s.data.toList.length : Nat), 0])) := by
    rw [hb, toList_app, toList_app, toList_size, szL, if_pos ht, show ((4 * (s.size - 1) : Nat) : Int) = 4 * ((s.size : Int) - 1) from by omega, show ((4 * (n - 1) + 2 : Nat) : Int) = 4 * ((n : Int) - 1) + 2 from by omega, show ((s.size + n : Nat) : Int) = (s.size : Int) + n from by omega]
    simp [ub]
  have hz : b.size ≤ 9223372036854775807 := by
    rw [hb, size_app, size_app]
    show 2 + s.size + 3 ≤ _
    omega
  have hu := unpack_nil b 200 w hz
  rw [runs_law b s.data.toList n (by simpa using h1) (by simpa using h2) hn1 hn2 (by simpa using ht) hl] at hu
  refine hu.mono ?_
  rintro e w' ⟨rfl, hb⟩
  have hsz : (⟨(cpy s.data.toList s.data.toList.length n).toArray⟩ : ByteArray).size = s.size + n := by rw [size_of, cpy_length, toList_size]
  refine ⟨⟨_, rfl, hsz, fun i h h' => ?_⟩, hb⟩
  have hp := cpy_period s.data.toList (by rw [toList_size]; omega) n i (by rw [hsz] at h; simpa using h)
  have e1 := byte_at _ i h
  rw [show i % s.data.toList.length = i % s.size from by rw [toList_size], byte_at s _ h'] at hp
  simp only at e1
  rw [hp] at e1
  injection e1 with e1
  exact e1.symm

set_option maxRecDepth 100000 in
set_option maxHeartbeats 800000 in
theorem snapRuns_w (s : ByteArray) (long : Int) (w : World) (hl : 0 ≤ long ∧ long ≤ 255) :
    Calls Try.prog 13 #[.string s, .int .u8 long] w fun e w' => e = .returned (.bool true) ∧ Below w.heap.size w w' := by
  have k2 := fun (w : World) (a b : Int) => run_str2 Try.underlying69 Try.underlying5 Try.underlying9 w a b
  have k3 := fun (w : World) (o : Obj) (a b c : Int) => run_str3_1 Try.underlying69 Try.underlying5 Try.underlying9 w o a b c
  by_cases h0 : s.size = 0
  · have e1 : ((s.size : Int) == 0) = true := by simp [h0]
    clear h0
    go_enter Try.func13, Try.ntmps13
    go_wp2_with fail
    refine (snapAlive w).mono ?_
    rintro e w1 ⟨rfl, hb⟩
    go_wp2
    go_ret
    exact ⟨rfl, hb⟩
  · have e1 : ((s.size : Int) == 0) = false := beq_eq_false_iff_ne.2 (by omega)
    by_cases h1 : 60 < s.size
    · go_enter Try.func13, Try.ntmps13
      go_wp2_with fail
      refine (snapAlive w).mono ?_
      rintro e w1 ⟨rfl, hb⟩
      go_wp2
      go_ret
      exact ⟨rfl, hb⟩
    · have hs1 : 1 ≤ s.size := by omega
      have hs2 : s.size ≤ 60 := by omega
      clear h0 h1
      obtain ⟨n, hn⟩ : ∃ n : Nat, 1 + long % 64 = n := ⟨(1 + long % 64).toNat, by omega⟩
      have hn1 : 1 ≤ n := by omega
      have hn2 : n ≤ 64 := by omega
      · have h3 : s.size + n < 128 := by omega
        go_enter Try.func13, Try.ntmps13
        go_wp2_with fail
        refine (snapAlive w).mono ?_
        rintro e w1 ⟨rfl, hb⟩
        have hbz := hb.size
        go_wp2_with fail
        refine (unpack_runs _ s n _ hs1 hs2 hn1 hn2 h3 (by exact rfl)).mono ?_
        rintro e w2 ⟨⟨t, rfl, htz, htg⟩, hb2⟩
        have hB : Below w.heap.size w w2 := Below.trans (Below.trans hb (by repeat (first | exact Below.refl _ _ | assumption | with_reducible refine Below.drewN' ?_ _ | with_reducible refine Below.drew ?_ | ((with_reducible refine Below.alloc' ?_ ?_ _); · (first | omega | (simp <;> omega)))))) (hb2.mono (by simp; omega))
        have hTZ : ((t.size : Int) != (s.size : Int) + n) = false := by simp; omega
        have htl : t.size ≤ 128 := by omega
        have HG := Lib.hid htg
        clear htz htg hb2 hb hbz
        go_wp2_with fail
        go_loopw [9] (fun i wr => ∃ j : Nat, j ≤ t.size ∧ i = .int .i64 j ∧ Below w.heap.size w wr) (fun i _ => t.size - (intOf i).toNat)
        case atStart => exact ⟨0, by omega, rfl, hB⟩
        case round =>
          obtain ⟨j, hj, rfl, hbr⟩ := hrel
          by_cases hj2 : j < t.size
          · have hm : j % s.size < s.size := Nat.mod_lt _ (by omega)
            have he := HG.out j hj2 hm
            have hq : ((t[j].toNat : Int) != (s[j % s.size].toNat : Int)) = false := by rw [he]; simp
            clear he
            have hm2 : (0 : Int) ≤ (j : Int) % (s.size : Int) := by omega
            have hm3 : (j : Int) % (s.size : Int) < (s.size : Int) := by omega
            have hm4 : ((j : Int) % (s.size : Int)).toNat = j % s.size := by omega
            go_wp2
            go_quiet (fail)
            go_wp2
            go_roundw
            case rel => exact ⟨j + 1, by omega, by go_num, hbr.drewN' _⟩
            case measure => simp [intOf]; omega
          · go_wp2
            go_ret
            exact ⟨rfl, hbr⟩

theorem snapRuns_row (s : ByteArray) (long : Int) (w : World) (_ : s.size ≤ maxLen) (hl : (Lit.int .u8 long).wf = true) :
    Calls Try.prog 13 #[.string s, .int .u8 long] w fun e w' => e = .returned (.bool true) ∧ Below w.heap.size w w' :=
  snapRuns_w s long w (by have := bounds_u8 hl; omega)
end Go.Proofs.Ytnlnfjnnegedmaa
