/- hatchwaylaw11.SnapMeters: by a meter with any room just the size is taken, if it is at most the cap and fits; else nothing, and it is over. -/
import Derived.Test.YtnlnfjnnegedmaaSnapUnpacks
import Derived.Test.YtnlnfjnnegedmaaSnapM
namespace Go.Proofs.Ytnlnfjnnegedmaa
set_option linter.unusedVariables false
set_option linter.unusedSimpArgs false
open Go.RowKit


theorem max_ways (room : Int) (n : Nat) : (room.toNat < n ∧ (room < 0 ∨ (room ≤ 0 ∧ 0 ≤ room) ∨ 0 < room)) ∨ (n ≤ room.toNat ∧ (room < 0 ∨ (room ≤ 0 ∧ 0 ≤ room) ∨ 0 < room)) := by omega

set_option maxRecDepth 100000 in
set_option maxHeartbeats 1600000 in
theorem snapMeters_w (s : ByteArray) (most room : Int) (w : World) (hs : s.size ≤ 9223372036854775807) (hr : room ≤ 9223372036854775807) :
    Calls Try.prog 14 #[.string s, .int .i64 most, .int .i64 room] w fun e w' => e = .returned (.bool true) ∧ Below w.heap.size w w' := by
  by_cases h0 : 1500 < s.size
  · go_enter Try.func14, Try.ntmps14
    go_wp2_with fail
    refine (snapAlive w).mono ?_
    rintro e w1 ⟨rfl, hb⟩
    go_wp2
    go_ret
    exact ⟨rfl, hb⟩
  · have hok := sSize_ok s
    have H2 := Lib.hid (fun w => refSize_c s w hs)
    have H4 := Lib.hid (fun w => refUnpack_c s most w hs)
    have C1 := Lib.hid (fun mg w => unpackM_err s most mg w hs)
    have C2 := Lib.hid (fun mg w => unpackM_most s most mg w hs)
    have C3 := Lib.hid (fun mg a u t p w => unpackM_over s most mg a u t p w hs)
    have C4 := Lib.hid (fun mg a u t p w => unpackM_ok s most mg a u t p w hs)
    generalize sUnpack s most = y at *
    obtain ⟨er, l⟩ := y
    generalize sSize s = x at *
    obtain ⟨n, hd, es⟩ := x
    dsimp only at *
    by_cases h1 : 20000 < most ∧ 20000 < n
    · obtain ⟨h1, h2⟩ := h1
      clear hok
      go_enter Try.func14, Try.ntmps14
      go_wp2_with fail
      refine (snapAlive w).mono ?_
      rintro e w1 ⟨rfl, hb⟩
      go_wp2_with fail
      refine (H2.out _).mono ?_
      rintro e w' ⟨rfl, rfl⟩
      go_wp2
      go_ret
      exact ⟨rfl, hb⟩
    · have hways : (most ≤ 20000) ∨ (20000 < most ∧ n ≤ 20000) := by omega
      clear h1
      have n4 : (er == er) = true := by simp
      have n5 : ((n : Int) == n) = true := by simp
      have ne0 : (es == es) = true := by simp
      obtain ⟨T, hT⟩ : ∃ T : ByteArray, (⟨l.toArray⟩ : ByteArray) = T := ⟨_, rfl⟩
      rw [hT] at C4 H4
      clear hT
      rcases beq0 es with ⟨e0, e1, e2⟩ | ⟨e0, e1, e2⟩
      · subst e0
        obtain ⟨hn, hd0, hd10, hds⟩ := hok rfl
        clear hok e1 e2 ne0
        by_cases h3 : most < n
        · have CC := Lib.hid (fun mg w => C2.out mg w rfl h3)
          clear C1 C2 C3 C4
          rcases hways with hw | ⟨hw, hw2⟩
          · go_enter Try.func14, Try.ntmps14
            go_wp2_with fail
            refine (snapAlive w).mono ?_
            rintro e w1 ⟨rfl, hb⟩
            go_wp2_with fail
            refine (H2.out _).mono ?_
            rintro e w' ⟨rfl, rfl⟩
            go_wp2_with fail
            refine (meterNew_c room w1).mono ?_
            rintro e w2 ⟨rfl, hw2⟩
            have hM : Mtr w2 w1.heap.size room.toNat 0 0 0 := by rw [hw2]; exact Blk.new w1 _ _
            have hz1 := hb.size
            have hb2 : Below w.heap.size w w2 := by rw [hw2]; exact hb.alloc hz1 _
            have hz2 : w1.heap.size < w2.heap.size := by rw [hw2]; simp
            clear hw2
            generalize w1.heap.size = g at *
            go_wp2_with fail
            refine (CC.out _ _).mono ?_
            rintro e w' ⟨rfl, rfl⟩
            -- Used and Taken of the meter, as they stand
            go_wp2_with fail
            refine (used_c g _ _ _ _ _ hM).mono ?_
            rintro e w' ⟨rfl, rfl⟩
            go_wp2_with fail
            refine (taken_c g _ _ _ _ _ hM).mono ?_
            rintro e w' ⟨rfl, rfl⟩
            go_wp2
            go_ret
            exact ⟨rfl, hb2⟩
          · omega
        · have h3' : (n : Int) ≤ most := by omega
          rcases max_ways room n with ⟨hmx, hwx⟩ | ⟨hmx, hwx⟩
          · have CC := Lib.hid (fun mg p w hM => C3.out mg room.toNat 0 0 p w hM (by omega) (by omega) rfl h3' (by omega))
            clear C1 C2 C3 C4
            rcases hways with hw | ⟨hw, hw2⟩ <;> rcases hwx with hx | ⟨hx, hx2⟩ | hx
            all_goals
              go_enter Try.func14, Try.ntmps14
              go_wp2_with fail
              refine (snapAlive w).mono ?_
              rintro e w1 ⟨rfl, hb⟩
              go_wp2_with fail
              refine (H2.out _).mono ?_
              rintro e w' ⟨rfl, rfl⟩
              go_wp2_with fail
              refine (meterNew_c room w1).mono ?_
              rintro e w2 ⟨rfl, hw2⟩
              have hM : Mtr w2 w1.heap.size room.toNat 0 0 0 := by rw [hw2]; exact Blk.new w1 _ _
              have hz1 := hb.size
              have hb2 : Below w.heap.size w w2 := by rw [hw2]; exact hb.alloc hz1 _
              have hz2 : w1.heap.size < w2.heap.size := by rw [hw2]; simp
              clear hw2
              generalize w1.heap.size = g at *
              go_wp2_with fail
              refine (CC.out _ _ _ hM).mono ?_
              rintro e w3 ⟨rfl, hon⟩
              have hM3 := hM.only hon (by simp)
              have hb3 := hb2.trans (hon.below (by omega) (by simp))
              go_wp2_with fail
              all_goals
                refine (used_c g _ _ _ _ _ hM3).mono ?_
                rintro e w' ⟨rfl, rfl⟩
                go_wp2
                go_ret
                exact ⟨rfl, hb3⟩
          · have CC := Lib.hid (fun mg p w hM => C4.out mg room.toNat 0 0 p w hM (by omega) rfl h3' (by omega) (by omega))
            simp only [Nat.zero_add] at CC
            clear C1 C2 C3 C4
            rcases hways with hw | ⟨hw, hw2⟩ <;> rcases hwx with hx | ⟨hx, hx2⟩ | hx
            all_goals
              go_enter Try.func14, Try.ntmps14
              go_wp2_with fail
              refine (snapAlive w).mono ?_
              rintro e w1 ⟨rfl, hb⟩
              go_wp2_with fail
              refine (H2.out _).mono ?_
              rintro e w' ⟨rfl, rfl⟩
              go_wp2_with fail
              refine (meterNew_c room w1).mono ?_
              rintro e w2 ⟨rfl, hw2⟩
              have hM : Mtr w2 w1.heap.size room.toNat 0 0 0 := by rw [hw2]; exact Blk.new w1 _ _
              have hz1 := hb.size
              have hb2 : Below w.heap.size w w2 := by rw [hw2]; exact hb.alloc hz1 _
              have hz2 : w1.heap.size < w2.heap.size := by rw [hw2]; simp
              clear hw2
              generalize w1.heap.size = g at *
              go_wp2_with fail
              refine (CC.out _ _ _ hM).mono ?_
              rintro e w3 ⟨rfl, hM3, hon⟩
              have hb3 := hb2.trans (hon.below (by omega) (by simp; omega))
              have hz3 := hb3.size
              go_wp2_with fail
              all_goals
                refine (H4.out _).mono ?_
                rintro e w4 ⟨rfl, hb4⟩
                have hM4 := hM3.only (Only.of_below hb4 (Nat.le_refl _)) (by simp)
                have hb5 := hb3.trans (hb4.mono hz3)
                go_wp2_with fail
                refine (used_c g _ _ _ _ _ hM4).mono ?_
                rintro e w' ⟨rfl, rfl⟩
                go_wp2_with fail
                refine (taken_c g _ _ _ _ _ hM4).mono ?_
                rintro e w' ⟨rfl, rfl⟩
                go_wp2
                go_ret
                exact ⟨rfl, hb5⟩
      · have CC := Lib.hid (fun mg w => C1.out mg w e0)
        clear C1 C2 C3 C4 hok e0
        rcases hways with hw | ⟨hw, hw2⟩
        all_goals
          go_enter Try.func14, Try.ntmps14
          go_wp2_with fail
          refine (snapAlive w).mono ?_
          rintro e w1 ⟨rfl, hb⟩
          go_wp2_with fail
          refine (H2.out _).mono ?_
          rintro e w' ⟨rfl, rfl⟩
          go_wp2_with fail
          refine (meterNew_c room w1).mono ?_
          rintro e w2 ⟨rfl, hw2⟩
          have hM : Mtr w2 w1.heap.size room.toNat 0 0 0 := by rw [hw2]; exact Blk.new w1 _ _
          have hz1 := hb.size
          have hb2 : Below w.heap.size w w2 := by rw [hw2]; exact hb.alloc hz1 _
          have hz2 : w1.heap.size < w2.heap.size := by rw [hw2]; simp
          clear hw2
          generalize w1.heap.size = g at *
          go_wp2_with fail
          refine (CC.out _ _).mono ?_
          rintro e w' ⟨rfl, rfl⟩
          -- Used and Taken of the meter, as they stand
          go_wp2_with fail
          refine (used_c g _ _ _ _ _ hM).mono ?_
          rintro e w' ⟨rfl, rfl⟩
          go_wp2_with fail
          refine (taken_c g _ _ _ _ _ hM).mono ?_
          rintro e w' ⟨rfl, rfl⟩
          go_wp2
          go_ret
          exact ⟨rfl, hb2⟩

theorem snapMeters_row (s : ByteArray) (most room : Int) (w : World) (hs : s.size ≤ maxLen) (_ : (Lit.int .i64 most).wf = true) (hr : (Lit.int .i64 room).wf = true) :
    Calls Try.prog 14 #[.string s, .int .i64 most, .int .i64 room] w fun e w' => e = .returned (.bool true) ∧ Below w.heap.size w w' :=
  snapMeters_w s most room w (by simpa [maxLen] using hs) (by have := bounds_i64 hr; omega)
end Go.Proofs.Ytnlnfjnnegedmaa
