/- hatchwaylaw16.PackedPuts, PackedOver. -/
import Derived.Test.YthbechmkjhkipaaPackedN
import Derived.OpenShut
namespace Go.Proofs.Ythbechmkjhkipaa
set_option linter.unusedVariables false
set_option linter.unusedSimpArgs false
open Go.RowKit

theorem max_ways (room : Int) (n : Nat) : (room.toNat < n ∧ (room < 0 ∨ (room ≤ 0 ∧ 0 ≤ room) ∨ 0 < room)) ∨ (n ≤ room.toNat ∧ (room < 0 ∨ (room ≤ 0 ∧ 0 ≤ room) ∨ 0 < room)) := by omega
theorem alive_packed : plPut 5 (pack [97, 98]) = [5, 5, 2, 4, 97, 98] := by
  have h1 : pack [97, 98] = [2, 4, 97, 98] := by
    unfold pack
    rw [show ([97, 98] : List UInt8).length = 2 from rfl, lebL_small (by omega)]
    decide +kernel
  rw [h1, plPut, lebL_small (by omega : 5 < 128)]
  rw [show ([ub (5 : Nat)] ++ ([2, 4, 97, 98] : List UInt8)).length = 5 from rfl, lebL_small (by omega)]
  rfl
theorem packedAlive (w : World) : Calls Try.prog 15 #[] w fun e w' => e = .returned (.bool true) ∧ Below w.heap.size w w' := by
  have H := packedPut_c 5 ⟨#[97, 98]⟩ w (by omega) (by decide)
  rw [show (⟨#[97, 98]⟩ : ByteArray).data.toList = [97, 98] from rfl, alive_packed] at H
  have HP := Lib.hid H
  clear H
  go_enter Try.func15, Try.ntmps15
  go_wp2_with fail
  refine HP.out.mono ?_
  rintro e w' ⟨rfl, hb⟩
  go_wp2
  go_ret
  exact ⟨rfl, hb⟩
/-- What is known of a frame that was put. -/
theorem packed_told (id : Nat) (body more : ByteArray) (hid : id < 18446744073709551616) (hb : body.size ≤ 400) (unp : Int) :
    ∃ S T : ByteArray, (⟨(plPut id (pack body.data.toList)).toArray⟩ : ByteArray) = S ∧ S.size ≤ 1000 ∧ plNext 65536 (S ++ more) = (0, id, T, S.size) ∧ (sSize T).2.2 = 0 ∧ (sSize T).1 = body.size ∧ ((body.size : Int) ≤ unp → pkNext 65536 unp (S ++ more) = (0, id, body, S.size, body.size)) ∧ (unp < body.size → pkNext 65536 unp (S ++ more) = (5, 0, ByteArray.empty, 0, 0)) := by
  have h1 := lebL_length 10 id (by omega) (by omega)
  have h2 := pack_length body.data.toList (by rw [toList_size]; omega)
  rw [toList_size] at h2
  have hsz : (plPut id (pack body.data.toList)).length ≤ 1000 := by
    unfold plPut
    have h3 := lebL_length 10 (lebL id ++ pack body.data.toList).length (by rw [List.length_append]; omega) (by omega)
    simp only [List.length_append] at h3 ⊢
    omega
  have hT : ∀ m : Int, (body.size : Int) ≤ m → sUnpack ⟨(pack body.data.toList).toArray⟩ m = (0, body.data.toList) := fun m hm => unpack_pack _ body.data.toList (by rw [toList_size]; omega) rfl m (by rw [toList_size]; exact hm)
  have hh := pack_head ⟨(pack body.data.toList).toArray⟩ body.data.toList (by rw [toList_size]; omega) rfl
  rw [toList_size] at hh
  have hpl := plNext_put 65536 id ⟨(pack body.data.toList).toArray⟩ (⟨(plPut id (pack body.data.toList)).toArray⟩ ++ more) more.data.toList hid (by rw [toList_app]) (by rw [size_of]; omega) (by rw [size_of]; omega)
  simp only at hpl
  rw [← size_of (plPut id (pack body.data.toList))] at hpl
  refine ⟨_, ⟨(pack body.data.toList).toArray⟩, rfl, by rw [size_of]; exact hsz, hpl, by rw [hh], by rw [hh], fun hm => ?_, fun hm => ?_⟩
  · rw [pkNext_eq, hpl]
    simp only [ne_eq, not_true_eq_false, if_false]
    rw [hh]
    simp only [not_true_eq_false, if_false]
    rw [if_neg (by omega), hT unp hm]
    simp only [not_true_eq_false, if_false, bytes_of]
  · rw [pkNext_eq, hpl]
    simp only [ne_eq, not_true_eq_false, if_false]
    rw [hh]
    simp only [not_true_eq_false, if_false]
    rw [if_pos hm]

set_option maxRecDepth 100000 in
set_option maxHeartbeats 2000000 in
theorem packedPuts_w (id : Nat) (body more : ByteArray) (w : World) (hid : id < 18446744073709551616) (hb1 : body.size ≤ 9223372036854775807) (hm1 : more.size ≤ 9223372036854775807) :
    Calls Try.prog 6 #[.int .u64 id, .string body, .string more] w fun e w' => e = .returned (.bool true) ∧ Below w.heap.size w w' := by
  by_cases h1 : 65536 < body.size
  · have d1 : decide ((body.size : Int) ≤ 65536) = false := decide_eq_false (by omega)
    by_cases h2 : 100 < more.size
    · go_enter Try.func6, Try.ntmps6
      go_wp2_with fail
      refine (packedAlive w).mono ?_
      rintro e w1 ⟨rfl, hb⟩
      have hz1 := hb.size
      go_wp2
      go_ret
      exact ⟨rfl, hb⟩
    · have HP := Lib.hid (fun w => packedPut_over id body w h1 hb1)
      go_enter Try.func6, Try.ntmps6
      go_wp2_with fail
      refine (packedAlive w).mono ?_
      rintro e w1 ⟨rfl, hb⟩
      have hz1 := hb.size
      go_wp2_with fail
      refine (HP.out _).mono ?_
      rintro e w' ⟨rfl, rfl⟩
      go_wp2
      go_ret
      exact ⟨rfl, hb⟩
  · have d1 : decide ((body.size : Int) ≤ 65536) = true := decide_eq_true (by omega)
    by_cases h2 : 400 < body.size
    · go_enter Try.func6, Try.ntmps6
      go_wp2_with fail
      refine (packedAlive w).mono ?_
      rintro e w1 ⟨rfl, hb⟩
      have hz1 := hb.size
      go_wp2
      go_ret
      exact ⟨rfl, hb⟩
    · by_cases h3 : 100 < more.size
      · go_enter Try.func6, Try.ntmps6
        go_wp2_with fail
        refine (packedAlive w).mono ?_
        rintro e w1 ⟨rfl, hb⟩
        have hz1 := hb.size
        go_wp2
        go_ret
        exact ⟨rfl, hb⟩
      · have HP := Lib.hid (fun w => packedPut_c id body w hid (by omega))
        have HR := Lib.hid (fun w => refPackedPut_c id body w hid (by omega))
        obtain ⟨S, T, hS, hSz, hpl, hs1, hs2, hpk, _⟩ := packed_told id body more hid (by omega) body.size
        have hpk := hpk (Int.le_refl _)
        rw [hS] at HP HR
        have HN := Lib.hid (fun mg w hM => packedNext_ok 65536 body.size mg body.size 0 0 0 (S ++ more) w (by rw [size_app]; omega) (by omega) (by omega) hM (by omega) (by rw [hpl]) (by rw [hpl]; exact hs1) (by rw [hpl]; dsimp only; omega) (by rw [hpl]; dsimp only; omega) (by rw [hpl]; dsimp only; omega))
        rw [hpk, hpl] at HN
        dsimp only at HN
        rw [hs2] at HN
        simp only [Nat.zero_add] at HN
        have n1 := str_ways S S
        have n2 := str_ways body body
        simp only [ne_eq, not_true_eq_false, false_and, or_false, true_and] at n1 n2
        obtain ⟨n1, n3⟩ := n1
        obtain ⟨n2, n4⟩ := n2
        clear hpl hs1 hs2 hpk hS T
        go_enter Try.func6, Try.ntmps6
        go_wp2_with fail
        refine (packedAlive w).mono ?_
        rintro e w1 ⟨rfl, hb⟩
        have hz1 := hb.size
        go_wp2_with fail
        refine (HP.out _).mono ?_
        rintro e w2 ⟨rfl, hb2⟩
        have hz2 := hb2.size
        go_wp2_with fail
        refine (HR.out _).mono ?_
        rintro e w3 ⟨rfl, hb3⟩
        have hz3 := hb3.size
        have hW3 : Below w.heap.size w w3 := hb.trans ((hb2.mono hz1).trans (hb3.mono (by omega)))
        clear hb hb2 hb3
        go_wp2_with fail
        refine (meterNew_c _ w3).mono ?_
        rintro e w4 ⟨rfl, hw4⟩
        simp only [Int.toNat_natCast] at hw4
        have hM : Mtr w4 w3.heap.size body.size 0 0 0 := by rw [hw4]; exact Blk.new w3 _ _
        have hW4 : Below w.heap.size w w4 := by rw [hw4]; exact hW3.alloc (by omega) _
        have hz4 : w3.heap.size < w4.heap.size := by rw [hw4]; simp
        clear hw4
        go_wp2_with fail
        refine (HN.out _ _ hM).mono ?_
        rintro e w5 ⟨rfl, ⟨q, hM5⟩, ho5⟩
        have hz5 := ho5.size
        have hW5 : Below w.heap.size w w5 := hW4.trans (ho5.below (by omega) (by simp; omega))
        unfold pkRet
        dsimp only
        go_wp2_with fail
        refine (used_c _ _ _ _ _ _ (hM5.alloc _)).mono ?_
        rintro e w' ⟨rfl, rfl⟩
        go_wp2
        go_ret
        exact ⟨rfl, hW5.alloc (by omega) _⟩
theorem packedPuts_row (id : Int) (body more : ByteArray) (w : World) (hid : (Lit.int .u64 id).wf = true) (hb : body.size ≤ maxLen) (hm : more.size ≤ maxLen) :
    Calls Try.prog 6 #[.int .u64 id, .string body, .string more] w fun e w' => e = .returned (.bool true) ∧ Below w.heap.size w w' := by
  have h1 : 0 ≤ id ∧ id ≤ 18446744073709551615 := by simpa [Lit.wf, IntKind.min, IntKind.max, IntKind.signed, IntKind.bits] using hid
  obtain ⟨x, rfl⟩ : ∃ x : Nat, id = (x : Int) := ⟨id.toNat, by omega⟩
  exact packedPuts_w x body more w (by omega) (by simpa [maxLen] using hb) (by simpa [maxLen] using hm)

theorem app_empty (s : ByteArray) : s ++ ⟨#[]⟩ = s := bytes_ext (by rw [toList_app]; simp)
set_option maxRecDepth 100000 in
set_option maxHeartbeats 2000000 in
theorem packedOver_w (id : Nat) (body : ByteArray) (cap room : Int) (w : World) (hid : id < 18446744073709551616) (hb1 : body.size ≤ 9223372036854775807) (hr : room ≤ 9223372036854775807) :
    Calls Try.prog 8 #[.int .u64 id, .string body, .int .i64 cap, .int .i64 room] w fun e w' => e = .returned (.bool true) ∧ Below w.heap.size w w' := by
  by_cases h1 : 400 < body.size
  · go_enter Try.func8, Try.ntmps8
    go_wp2_with fail
    refine (packedAlive w).mono ?_
    rintro e w1 ⟨rfl, hb⟩
    have hz1 := hb.size
    go_wp2
    go_ret
    exact ⟨rfl, hb⟩
  · have HR := Lib.hid (fun w => refPackedPut_c id body w hid (by omega))
    obtain ⟨S, T, hS, hSz, hpl, hs1, hs2, hpk, hpk2⟩ := packed_told id body ⟨#[]⟩ hid (by omega) cap
    rw [hS] at HR
    rw [app_empty] at hpl hpk hpk2
    have n2 := str_ways body body
    simp only [ne_eq, not_true_eq_false, false_and, or_false, true_and] at n2
    obtain ⟨n2, n4⟩ := n2
    by_cases h2 : cap < body.size
    · have HN := Lib.hid (fun mg w => packedNext_no 65536 cap mg S w (by omega) (by omega) (by omega) (.inr (.inr (by rw [hpl]; dsimp only; omega))))
      rw [hpk2 h2] at HN
      clear hpl hs1 hs2 hpk hpk2 hS T
      go_enter Try.func8, Try.ntmps8
      go_wp2_with fail
      refine (packedAlive w).mono ?_
      rintro e w1 ⟨rfl, hb⟩
      have hz1 := hb.size
      go_wp2_with fail
      refine (HR.out _).mono ?_
      rintro e w3 ⟨rfl, hb3⟩
      have hz3 := hb3.size
      have hW3 : Below w.heap.size w w3 := hb.trans (hb3.mono hz1)
      clear hb hb3
      go_wp2_with fail
      refine (meterNew_c _ w3).mono ?_
      rintro e w4 ⟨rfl, hw4⟩
      have hM : Mtr w4 w3.heap.size room.toNat 0 0 0 := by rw [hw4]; exact Blk.new w3 _ _
      have hW4 : Below w.heap.size w w4 := by rw [hw4]; exact hW3.alloc (by omega) _
      have hz4 : w3.heap.size < w4.heap.size := by rw [hw4]; simp
      clear hw4
      go_wp2_with fail
      refine (HN.out _ _).mono ?_
      rintro e w5 ⟨rfl, ho5⟩
      have hz5 := ho5.size
      have hM5 := hM.only ho5 (by simp)
      have hW5 : Below w.heap.size w w5 := hW4.trans (ho5.below (by omega) (by simp))
      unfold pkRet
      dsimp only
      go_wp2_with fail
      refine (taken_c _ _ _ _ _ _ (hM5.alloc _)).mono ?_
      rintro e w' ⟨rfl, rfl⟩
      go_wp2
      go_ret
      exact ⟨rfl, hW5.alloc (by omega) _⟩
    · have h2' : (body.size : Int) ≤ cap := by omega
      rcases max_ways room body.size with ⟨hmx, hwx⟩ | ⟨hmx, hwx⟩
      · have HN := Lib.hid (fun mg w hM => packedNext_over 65536 cap mg room.toNat 0 0 0 S w (by omega) (by omega) (by omega) hM (by omega) (by omega) (by rw [hpl]) (by rw [hpl]; exact hs1) (by rw [hpl]; dsimp only; omega) (by rw [hpl]; dsimp only; omega))
        clear hpl hs1 hs2 hpk hpk2 hS T
        rcases hwx with hx | ⟨hx, hx2⟩ | hx
        all_goals
          go_enter Try.func8, Try.ntmps8
          go_wp2_with fail
          refine (packedAlive w).mono ?_
          rintro e w1 ⟨rfl, hb⟩
          have hz1 := hb.size
          go_wp2_with fail
          refine (HR.out _).mono ?_
          rintro e w3 ⟨rfl, hb3⟩
          have hz3 := hb3.size
          have hW3 : Below w.heap.size w w3 := hb.trans (hb3.mono hz1)
          clear hb hb3
          go_wp2_with fail
          refine (meterNew_c _ w3).mono ?_
          rintro e w4 ⟨rfl, hw4⟩
          have hM : Mtr w4 w3.heap.size room.toNat 0 0 0 := by rw [hw4]; exact Blk.new w3 _ _
          have hW4 : Below w.heap.size w w4 := by rw [hw4]; exact hW3.alloc (by omega) _
          have hz4 : w3.heap.size < w4.heap.size := by rw [hw4]; simp
          clear hw4
          go_wp2_with fail
          refine (HN.out _ _ hM).mono ?_
          rintro e w5 ⟨rfl, ho5⟩
          have hz5 := ho5.size
          have hM5 := hM.only ho5 (by simp)
          have hW5 : Below w.heap.size w w5 := hW4.trans (ho5.below (by omega) (by simp))
          unfold pkRet
          dsimp only
          go_wp2_with fail
          refine (taken_c _ _ _ _ _ _ (hM5.alloc _)).mono ?_
          rintro e w' ⟨rfl, rfl⟩
          go_wp2
          go_ret
          exact ⟨rfl, hW5.alloc (by omega) _⟩
      · have HN := Lib.hid (fun mg w hM => packedNext_ok 65536 cap mg room.toNat 0 0 0 S w (by omega) (by omega) (by omega) hM (by omega) (by rw [hpl]) (by rw [hpl]; exact hs1) (by rw [hpl]; dsimp only; omega) (by rw [hpl]; dsimp only; omega) (by rw [hpl]; dsimp only; omega))
        rw [hpk h2', hpl] at HN
        dsimp only at HN
        rw [hs2] at HN
        simp only [Nat.zero_add] at HN
        clear hpl hs1 hs2 hpk hpk2 hS T
        rcases hwx with hx | ⟨hx, hx2⟩ | hx
        all_goals
          go_enter Try.func8, Try.ntmps8
          go_wp2_with fail
          refine (packedAlive w).mono ?_
          rintro e w1 ⟨rfl, hb⟩
          have hz1 := hb.size
          go_wp2_with fail
          refine (HR.out _).mono ?_
          rintro e w3 ⟨rfl, hb3⟩
          have hz3 := hb3.size
          have hW3 : Below w.heap.size w w3 := hb.trans (hb3.mono hz1)
          clear hb hb3
          go_wp2_with fail
          refine (meterNew_c _ w3).mono ?_
          rintro e w4 ⟨rfl, hw4⟩
          have hM : Mtr w4 w3.heap.size room.toNat 0 0 0 := by rw [hw4]; exact Blk.new w3 _ _
          have hW4 : Below w.heap.size w w4 := by rw [hw4]; exact hW3.alloc (by omega) _
          have hz4 : w3.heap.size < w4.heap.size := by rw [hw4]; simp
          clear hw4
          go_wp2_with fail
          refine (HN.out _ _ hM).mono ?_
          rintro e w5 ⟨rfl, ⟨q, hM5⟩, ho5⟩
          have hz5 := ho5.size
          have hW5 : Below w.heap.size w w5 := hW4.trans (ho5.below (by omega) (by simp; omega))
          unfold pkRet
          dsimp only
          go_wp2_with fail
          refine (taken_c _ _ _ _ _ _ (hM5.alloc _)).mono ?_
          rintro e w' ⟨rfl, rfl⟩
          go_wp2
          go_ret
          exact ⟨rfl, hW5.alloc (by omega) _⟩
theorem packedOver_row (id : Int) (body : ByteArray) (cap room : Int) (w : World) (hid : (Lit.int .u64 id).wf = true) (hb : body.size ≤ maxLen) (_ : (Lit.int .i64 cap).wf = true) (hr : (Lit.int .i64 room).wf = true) :
    Calls Try.prog 8 #[.int .u64 id, .string body, .int .i64 cap, .int .i64 room] w fun e w' => e = .returned (.bool true) ∧ Below w.heap.size w w' := by
  have h1 : 0 ≤ id ∧ id ≤ 18446744073709551615 := by simpa [Lit.wf, IntKind.min, IntKind.max, IntKind.signed, IntKind.bits] using hid
  have h2 := bounds_i64 hr
  obtain ⟨x, rfl⟩ : ∃ x : Nat, id = (x : Int) := ⟨id.toNat, by omega⟩
  exact packedOver_w x body cap room w (by omega) (by simpa [maxLen] using hb) (by omega)
end Go.Proofs.Ythbechmkjhkipaa
