/- command.Put, Get, and the document's Get. -/
import Derived.Test.YtebllmpdlapefaaGreatDoorKA9
import Derived.Test.YtebllmpdlapefaaGreatDoorKA1
namespace Go.Proofs.YtebllmpdlapefaaGreatDoor
set_option linter.unusedVariables false
set_option linter.unusedSimpArgs false
open Go.RowKit

theorem info_u8c : (Tryz.prog.info? 5).map (·.size) = some 1 := by kernel_rfl
/-- Twelve noughts. -/
def z12 : Array Value := #[.int .u8 0, .int .u8 0, .int .u8 0, .int .u8 0, .int .u8 0, .int .u8 0, .int .u8 0, .int .u8 0, .int .u8 0, .int .u8 0, .int .u8 0, .int .u8 0]
theorem z12_list : z12.toList = cb (List.replicate 12 0) := rfl
theorem copy12 (w : World) (ty t : TypeId) (s : ByteArray) (hs : s.size ≤ 12) :
    (Builtin.copy_ #[104, 9] ty #[.slice (some ⟨w.heap.size, 0, none⟩) 12 12, .string s]).run Tryz.prog (w.alloc (.cells z12 t)) = .ok (goInt s.size) (w.alloc (.cells (cb (nmPad s).data.toList).toArray t)) := by
  have h := Lib.run_copy_row_string (P := Tryz.prog) (w.alloc (.cells z12 t)) 104 9 ty 5 w.heap.size 0 12 12 s z12 t Tryz.underlying104 info_u8c (heap_alloc_new w _) hs (by simpa [z12] using hs)
  rw [h, World.setRow_alloc_new]
  have e : (z12.toList.take 0 ++ Lib.byteCells s.data.toList ++ z12.toList.drop (0 + s.size)) = cb (nmPad s).data.toList := by
    rw [nmPad_list, cb_append, z12_list, List.take_zero, List.nil_append, Nat.zero_add, ← cb_drop, List.drop_replicate]
    rfl
  rw [e]
theorem conv12 (w : World) (t : TypeId) (s : ByteArray) (hs : s.size ≤ 12) :
    (convert 104 9 (.slice (some ⟨w.heap.size, 0, none⟩) 12 12)).run Tryz.prog (w.alloc (.cells (cb (nmPad s).data.toList).toArray t)) = .ok (.string (nmPad s)) (w.alloc (.cells (cb (nmPad s).data.toList).toArray t)) := by
  have hl : (nmPad s).data.toList.length = 12 := by rw [toList_size]; exact nmPad_size s hs
  have := run_str (P := Tryz.prog) (w.alloc (.cells (cb (nmPad s).data.toList).toArray t)) 104 9 5 Tryz.underlying104 Tryz.underlying5 Tryz.underlying9 ⟨w.heap.size, 0, none⟩ 12 (nmPad s).data.toList (fun j u hu => World.news_of_block (heap_alloc_new w (.cells (cb (nmPad s).data.toList).toArray t)) j u (by simpa using hu))
  rw [hl, bytes_of] at this
  exact this

set_option maxRecDepth 100000 in
set_option maxHeartbeats 400000 in
theorem cmdPut_no (s : ByteArray) (w : World) (hs : s.size ≤ 9223372036854775807) (hm : nmMay s = false) :
    Calls Tryz.prog 96 #[.string s] w fun e w' => e = .returned (.tuple #[.string ByteArray.empty, .int .i64 11]) ∧ w = w' := by
  have H := cmdMay_c s w hs
  rw [hm] at H
  have HM := Lib.hid H
  clear H hm
  go_enter Tryz.func96, Tryz.ntmps96
  go_wp2_with fail
  refine HM.out.mono ?_
  rintro e w' ⟨rfl, rfl⟩
  go_wp2
  go_ret2
  exact ⟨rfl, rfl⟩
set_option maxRecDepth 100000 in
set_option maxHeartbeats 400000 in
theorem cmdPut_c (s : ByteArray) (w : World) (hm : nmMay s = true) :
    Calls Tryz.prog 96 #[.string s] w fun e w' => e = .returned (.tuple #[.string (nmPad s), .int .i64 0]) ∧ Below w.heap.size w w' := by
  have hz := nmMay_size hm
  have H := cmdMay_c s w (by omega)
  rw [hm] at H
  have HM := Lib.hid H
  clear H hm
  have k1 := fun (ty t : TypeId) => copy12 w ty t s hz.2
  have k2 := fun (t : TypeId) => conv12 w t s hz.2
  have hb := fun t => (Below.refl w.heap.size w).alloc (Nat.le_refl _) (.cells (cb (nmPad s).data.toList).toArray t)
  have HB := Lib.hid hb
  clear hb
  simp only [z12] at k1
  go_enter Tryz.func96, Tryz.ntmps96
  go_wp2_with fail
  refine HM.out.mono ?_
  rintro e w' ⟨rfl, rfl⟩
  go_wp2
  go_ret2
  exact ⟨rfl, HB.out _⟩

set_option maxRecDepth 100000 in
set_option maxHeartbeats 400000 in
theorem trimRight_c (s : ByteArray) (w : World) (hs : s.size ≤ 9223372036854775807) :
    Calls Tryz.prog 134 #[.string s, .string ⟨#[0]⟩] w fun e w' => e = .returned (.string (nmCut s)) ∧ w = w' := by
  rcases empty_ways s with ⟨h0, rfl⟩ | ⟨h0, e1, e2⟩
  · clear h0
    go_enter Tryz.func134, Tryz.ntmps134
    go_wp2_with fail
    go_ret
    exact ⟨rfl, rfl⟩
  · clear h0
    go_enter Tryz.func134, Tryz.ntmps134
    go_wp2_with fail
    refine (trimByte_c s w hs).mono ?_
    rintro e w' ⟨rfl, rfl⟩
    go_wp2
    go_ret
    exact ⟨rfl, rfl⟩
theorem cut_size (s : ByteArray) : (nmCut s).size ≤ s.size := by
  obtain ⟨n, hn⟩ := cutL_form s.data.toList
  have := congrArg List.length hn
  rw [nmCut, size_of]
  simp only [List.length_append, toList_size] at this
  omega
set_option maxRecDepth 100000 in
set_option maxHeartbeats 400000 in
theorem cmdGet_c (s : ByteArray) (w : World) (hs : s.size ≤ 9223372036854775807) :
    Calls Tryz.prog 106 #[.string s] w fun e w' => e = .returned (.tuple #[.string (nmGet s).2, .int .i64 (nmGet s).1]) ∧ w = w' := by
  have hz := cut_size s
  by_cases h12 : s.size = 12
  · have e12 : ((s.size : Int) != 12) = false := by simp [h12]
    have HM := Lib.hid (cmdMay_c (nmCut s) w (by omega))
    have HR := Lib.hid (show nmGet s = if nmMay (nmCut s) = true then (0, nmCut s) else (3, ByteArray.empty) by unfold nmGet; simp [h12])
    clear h12 hz
    rcases Bool.eq_false_or_eq_true (nmMay (nmCut s)) with h | h
    all_goals
      rw [h] at HM HR
      go_enter Tryz.func106, Tryz.ntmps106
      go_wp2_with fail
      refine (trimRight_c s w hs).mono ?_
      rintro e w' ⟨rfl, rfl⟩
      go_wp2_with fail
      refine HM.out.mono ?_
      rintro e w' ⟨rfl, rfl⟩
      go_wp2
      go_ret2
      exact ⟨by rw [HR.out]; rfl, rfl⟩
  · have e12 : ((s.size : Int) != 12) = true := bne_iff_ne.2 (by omega)
    have HR := Lib.hid (nmGet_short s h12)
    clear h12 hz
    go_enter Tryz.func106, Tryz.ntmps106
    go_wp2_with fail
    refine (trimRight_c s w hs).mono ?_
    rintro e w' ⟨rfl, rfl⟩
    go_wp2
    go_ret2
    exact ⟨by rw [HR.out]; rfl, rfl⟩

theorem ret_get {x : Int × ByteArray} {s : ByteArray} {e : Int} (h : x = (e, s)) : Ending.returned (.tuple #[.string s, .int .i64 e]) = .returned (.tuple #[.string x.2, .int .i64 x.1]) := by rw [h]
set_option maxRecDepth 100000 in
set_option maxHeartbeats 1000000 in
theorem refGetN_c (s : ByteArray) (w : World) (hs : s.size ≤ 9223372036854775807) :
    Calls Tryz.prog 84 #[.string s] w fun e w' => e = .returned (.tuple #[.string (nmGet s).2, .int .i64 (nmGet s).1]) ∧ w = w' := by
  go_enter Tryz.func84, Tryz.ntmps84
  go_wp2
  go_loop [4] (fun i => ∃ k : Nat, 1 ≤ k ∧ k ≤ 13 ∧ Hid (∀ n, 1 ≤ n → n < k → n ≤ 12 → n ≤ s.size → ¬ (nmMay (s.extract 0 n) = true ∧ nmPad (s.extract 0 n) = s)) ∧ i = .int .i64 k) (fun i => 13 - (intOf i).toNat)
  case atStart => exact ⟨1, by omega, by omega, Lib.hid (fun n h1 h2 => by omega), rfl⟩
  case round =>
    obtain ⟨k, hk1, hk, hm, rfl⟩ := hrel
    by_cases hlt : k ≤ 12
    · by_cases hle : k ≤ s.size
      · have hz : (s.extract 0 k).size = k := by rw [size_cut _ _ _ hle]; omega
        have HM := Lib.hid (fun w => refMayN_c (s.extract 0 k) w (by omega))
        have HP := Lib.hid (fun w => refPutN_c (s.extract 0 k) w (by omega))
        clear hz
        rcases Bool.eq_false_or_eq_true (nmMay (s.extract 0 k)) with h | h
        · have H := Lib.hid h
          rw [h] at HM
          clear h
          rcases str_ways (nmPad (s.extract 0 k)) s with ⟨e1, e2, e3⟩ | ⟨e1, e2, e3⟩
          · have E := Lib.hid e1
            clear e1
            go_wp2_with fail
            refine (HM.out _).mono ?_
            rintro e w' ⟨rfl, rfl⟩
            go_wp2_with fail
            refine (HP.out _).mono ?_
            rintro e w' ⟨rfl, rfl⟩
            go_wp2
            go_ret2
            exact ⟨ret_get (nmGet_hit s k H.out E.out), rfl⟩
          · have E := Lib.hid e1
            clear e1
            go_wp2_with fail
            refine (HM.out _).mono ?_
            rintro e w' ⟨rfl, rfl⟩
            go_wp2_with fail
            refine (HP.out _).mono ?_
            rintro e w' ⟨rfl, rfl⟩
            go_wp2
            go_round
            case rel =>
              refine ⟨k + 1, by omega, by omega, Lib.hid (fun n h1 h2 h3 h4 => ?_), by go_num⟩
              by_cases he : n = k
              · subst he; exact fun hh => E.out hh.2
              · exact hm.out n h1 (by omega) h3 h4
            case measure => simp [intOf]; omega
        · have H := Lib.hid h
          rw [h] at HM
          clear h
          go_wp2_with fail
          refine (HM.out _).mono ?_
          rintro e w' ⟨rfl, rfl⟩
          go_wp2
          go_round
          case rel =>
            refine ⟨k + 1, by omega, by omega, Lib.hid (fun n h1 h2 h3 h4 => ?_), by go_num⟩
            by_cases he : n = k
            · subst he; exact fun hh => by rw [H.out] at hh; cases hh.1
            · exact hm.out n h1 (by omega) h3 h4
          case measure => simp [intOf]; omega
      · go_wp2
        go_ret2
        exact ⟨ret_get (nmGet_miss s fun n h1 h2 h3 => hm.out n h1 (by omega) h2 h3), rfl⟩
    · go_wp2
      go_ret2
      exact ⟨ret_get (nmGet_miss s fun n h1 h2 h3 => hm.out n h1 (by omega) h2 h3), rfl⟩
end Go.Proofs.YtebllmpdlapefaaGreatDoor
