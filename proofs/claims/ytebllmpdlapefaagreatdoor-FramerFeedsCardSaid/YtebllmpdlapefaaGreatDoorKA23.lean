/- leb.Put, and the document's: both tell 'lebL'. -/
import Derived.Test.YtebllmpdlapefaaGreatDoorProg
import Derived.Test.YtebllmpdlapefaaGreatDoorKA1
import Derived.WalkSpells
import Derived.LoopTactic
import Derived.Deep.RegionWith
import Derived.Deep.DeepFit
namespace Go.Proofs.YtebllmpdlapefaaGreatDoor
set_option linter.unusedVariables false
set_option linter.unusedSimpArgs false
open Go.RowKit

theorem info_byte : (Tryz.prog.info? 5).map (fun i => (i.zero, i.size, i.bytes)) = some (some (.int .u8 0), 1, 1) := by kernel_rfl
set_option maxRecDepth 100000 in
theorem or128 : ∀ x : Fin 256, x.val ||| 128 = x.val % 128 + 128 := by decide +kernel
theorem or128' (m : Nat) : bits .or .u8 ((m : Int) % 256) 128 = ((m % 128 + 128 : Nat) : Int) := by
  have h := u8_or_nat (m % 256) 128 (by omega) (by omega)
  have h2 := or128 ⟨m % 256, by omega⟩
  simp only at h2
  rw [h2, show m % 256 % 128 = m % 128 from by omega] at h
  rw [← h]
  rfl
theorem leb_next_pre {n m : Nat} {pre : List UInt8} (h : pre ++ lebL m = lebL n) (hm : 128 ≤ m) : (pre ++ [ub (m % 128 + 128 : Nat)]) ++ lebL (m / 128) = lebL n := by
  rw [← h, lebL_more (n := m) (by omega)]; simp
theorem leb_last_pre {n m : Nat} {pre : List UInt8} (h : pre ++ lebL m = lebL n) (hm : ¬ 128 ≤ m) : pre ++ [ub (m : Nat)] = lebL n := by
  rw [← h, lebL_small (n := m) (by omega)]
theorem leb_pre_le {n m : Nat} {pre : List UInt8} (h : pre ++ lebL m = lebL n) (hn : n < 18446744073709551616) : pre.length < 10 := by
  have h1 := lebL_length 10 n (by omega) (by omega)
  have h2 := lebL_pos m
  have h3 := congrArg List.length h
  simp only [List.length_append] at h3
  omega
def PutInv (n : Nat) (w : World) (b : Value) (x : Value) (wr : World) : Prop :=
  ∃ (m : Nat) (pre : List UInt8), pre ++ lebL m = lebL n ∧ m < 18446744073709551616 ∧ pre.length < 10 ∧ x = .int .u64 m ∧ Buf wr w.heap.size 5 b pre ∧ Kept 5 w.heap.size w wr

set_option maxRecDepth 100000 in
set_option maxHeartbeats 1000000 in
theorem lebPut_c (n : Nat) (w : World) (hn : n < 18446744073709551616) :
    Calls Tryz.prog 112 #[.int .u64 n] w fun e w' => e = .returned (.string ⟨(lebL n).toArray⟩) ∧ Below w.heap.size w w' := by
  obtain ⟨i0, hi, hz0, hz1, hz2⟩ := info_parts info_byte
  go_enter Tryz.func112, Tryz.ntmps112
  go_wp2_with (at_make; refine wpList_make_own _ rfl _ _ 104 rfl w.heap.size 5 i0 (.int .u8 0) 1 Tryz.underlying104 hi hz0 hz1 .i64 .i64 _ 10 rfl rfl (by omega) (by rw [hz2]; omega) (by simp only [maxLen]; omega) (by omega) ?_; intro w1 hown1 hgrow1)
  have hb1 : Buf w1 w.heap.size 5 (.slice (some ⟨w.heap.size, 0, none⟩) 0 10) [] := Buf.own hown1
  have hk1 : Kept 5 w.heap.size w w1 := Kept.of_none hgrow1 (Nat.le_refl _)
  clear hown1 hgrow1
  go_loopw [3, 0] (fun b x wr => PutInv n w b x wr) (fun _ x _ => (intOf x).toNat)
  case atStart => exact ⟨n, [], rfl, hn, by simp, rfl, hb1, hk1⟩
  case round =>
    obtain ⟨m, pre, hm, hm64, hp, rfl, hbuf, hkept⟩ := hrel
    have HM := Lib.hid hm
    have hsz := hkept.size
    obtain ⟨A, cap, rfl, hlc, hcm⟩ := hbuf.form
    clear hm hb1 hk1
    by_cases h128 : 128 ≤ m
    · go_wp2_with (at_builtin; refine wpList_append_buf (by rfl) (.tmp 7) (.tmp 11) 104 104 (by rfl) w.heap.size 5 i0 Tryz.underlying104 hi hz0 hz1 hz2 (by rfl) (hbuf.alloc _) _ [ub (m % 128 + 128 : Nat)] (by rfl) (src_new Tryz.underlying104 wr 5 _ [ub (m % 128 + 128 : Nat)] 1 (cb_ub1 (or128' m) (by omega))) (by rw [World.size_alloc]; omega) (by simp only [List.length_cons, List.length_nil]; omega) ?_)
      intro A' n' cap' w2 hbuf2 hkept2
      have HB := Lib.hid hbuf2
      have HK := Lib.hid ((hkept.alloc (by omega) _).trans hkept2)
      clear hbuf2 hkept2
      go_wp2
      go_roundw
      case rel => exact ⟨m / 128, _, leb_next_pre HM.out h128, by omega, leb_pre_le (leb_next_pre HM.out h128) hn, by go_num, HB.out, HK.out⟩
      case measure => simp [intOf]; omega
    · go_wp2_with (at_builtin; refine wpList_append_buf (by rfl) (.tmp 15) (.tmp 18) 104 104 (by rfl) w.heap.size 5 i0 Tryz.underlying104 hi hz0 hz1 hz2 (by rfl) (hbuf.alloc _) _ [ub (m : Nat)] (by rfl) (src_new Tryz.underlying104 wr 5 _ [ub (m : Nat)] 1 (cb_ub1 rfl (by omega))) (by rw [World.size_alloc]; omega) (by simp only [List.length_cons, List.length_nil]; omega) ?_)
      intro A' n' cap' w2 hbuf2 hkept2
      rw [leb_last_pre HM.out h128] at hbuf2
      have HK := Lib.hid ((hkept.alloc (by omega) _).trans hkept2)
      have hs := hbuf2.str' (P := Tryz.prog) Tryz.underlying104 Tryz.underlying5 Tryz.underlying9
      clear hkept2 hbuf2
      go_wp2
      go_ret
      exact ⟨rfl, HK.out.below⟩
theorem str1_later {w w' : World} {a : Int} (hb : Below (w.alloc (.cells #[.int .u8 a] 5)).heap.size (w.alloc (.cells #[.int .u8 a] 5)) w') :
    (convert 104 9 (.slice (some ⟨w.heap.size, 0, none⟩) 1 1)).run Tryz.prog w' = .ok (.string ⟨#[ub a]⟩) w' := by
  have hc : w'.cell? ⟨w.heap.size, 0, none⟩ = some (.int .u8 a) := by
    rw [hb.cell (p := ⟨w.heap.size, 0, none⟩) (by simp)]
    exact World.news_of_block (heap_alloc_new w (.cells #[.int .u8 a] 5)) 0 _ (by simp)
  rw [run_convert_bytes_string w' 104 9 5 _ 1 1 Tryz.underlying104 Tryz.underlying5 Tryz.underlying9]
  have hl := run_loadCells_list (P := Tryz.prog) (w := w') ⟨w.heap.size, 0, none⟩ [.int .u8 a] (by
    intro j v hj
    match j, hj with
    | 0, hj =>
      simp at hj; subst hj
      have e1 : (⟨w.heap.size, 0, none⟩ : Addr).add 0 = ⟨w.heap.size, 0, none⟩ := by unfold Addr.add; split <;> simp_all
      rw [e1]; exact hc)
  rw [run_bytesToString w' ⟨w.heap.size, 0, none⟩ 1 1 [a] hl]
  rfl
theorem str1_laterD {w w' : World} {a : Int} (hb : Below (w.alloc (.cells #[.int .u8 a] 5)).drew.heap.size (w.alloc (.cells #[.int .u8 a] 5)).drew w') :
    (convert 104 9 (.slice (some ⟨w.heap.size, 0, none⟩) 1 1)).run Tryz.prog w' = .ok (.string ⟨#[ub a]⟩) w' := str1_later (w := w) ⟨hb.os, hb.tape, hb.output, hb.size, hb.block⟩
theorem leb_val1 (n : Nat) : IntKind.u8.wrap (IntKind.u8.wrap ((n : Int).tmod 128) + 128) = (n : Int) % 128 + 128 := by
  rw [Int.tmod_eq_emod_of_nonneg (by omega)]
  simp [IntKind.wrap, IntKind.signed, IntKind.bits]
  omega
theorem leb_val2 (n : Nat) (h : n < 18446744073709551616) : (n : Int).tdiv 128 = (n : Int) / 128 ∧ IntKind.u64.wrap ((n : Int) / 128) = (n : Int) / 128 :=
  ⟨Int.tdiv_eq_ediv_of_nonneg (by omega), IntWalk.u64_in _ (by omega)⟩
theorem lebL_str {m : Nat} (h : 128 ≤ m) : (⟨#[ub (m % 128 + 128 : Nat)]⟩ ++ ⟨(lebL (m / 128)).toArray⟩ : ByteArray) = ⟨(lebL m).toArray⟩ :=
  bytes_ext (by rw [toList_app, lebL_more (n := m) (by omega)]; rfl)

set_option maxRecDepth 100000 in
set_option maxHeartbeats 1000000 in
theorem refLebPut_c (f : Nat) : ∀ (n : Nat) (w : World), n < 128 ^ (f + 1) → n < 18446744073709551616 →
    Calls Tryz.prog 81 #[.int .u64 n] w fun e w' => e = .returned (.string ⟨(lebL n).toArray⟩) ∧ Below w.heap.size w w' := by
  induction f with
  | zero =>
    intro n w hn hn2
    have k1 := fun (w : World) (a : Int) => run_str1 Tryz.underlying104 Tryz.underlying5 Tryz.underlying9 w a
    have hl := Lib.hid (lebL_small (n := n) (by omega))
    go_enter Tryz.func81, Tryz.ntmps81
    go_wp2_with fail
    go_ret
    exact ⟨by rw [hl.out]; rfl, (by repeat (first | exact Below.refl _ _ | assumption | with_reducible refine Below.drewN' ?_ _ | with_reducible refine Below.drew ?_ | ((with_reducible refine Below.alloc' ?_ ?_ _); · (first | omega | (simp <;> omega)))))⟩
  | succ f ih =>
    intro n w hn hn2
    have k1 := fun (w : World) (a : Int) => run_str1 Tryz.underlying104 Tryz.underlying5 Tryz.underlying9 w a
    by_cases h : n < 128
    · have hl := Lib.hid (lebL_small (n := n) (by omega))
      go_enter Tryz.func81, Tryz.ntmps81
      go_wp2_with fail
      go_ret
      exact ⟨by rw [hl.out]; rfl, (by repeat (first | exact Below.refl _ _ | assumption | with_reducible refine Below.drewN' ?_ _ | with_reducible refine Below.drew ?_ | ((with_reducible refine Below.alloc' ?_ ?_ _); · (first | omega | (simp <;> omega)))))⟩
    · have HL := Lib.hid (lebL_str (m := n) (by omega))
      have IH := Lib.hid (fun w => ih (n / 128) w (by rw [Nat.pow_succ] at hn; exact Nat.div_lt_of_lt_mul (by rw [Nat.mul_comm]; exact hn)) (by omega))
      have hT := lebL_length 10 (n / 128) (by omega) (by omega)
      rw [← size_of] at hT
      generalize (⟨(lebL (n / 128)).toArray⟩ : ByteArray) = T at *
      clear ih hn
      go_enter Tryz.func81, Tryz.ntmps81
      go_wp2_with fail
      have e1 := leb_val1 n
      obtain ⟨e2, e3⟩ := leb_val2 n hn2
      have k2 := str1_laterD (w := w) (a := (n : Int) % 128 + 128) (Below.refl _ _)
      rw [show ((n / 128 : Nat) : Int) = (n : Int) / 128 from by omega] at IH
      rw [show ((n % 128 + 128 : Nat) : Int) = (n : Int) % 128 + 128 from by omega] at HL
      go_region_with (go_at_call 81; refine (IH.out _).mono ?_; rintro e w' ⟨rfl, hb⟩; try have kx := str1_laterD hb)
      all_goals
        go_wp2
        go_ret
        refine ⟨ret_str HL.out.symm, ?_⟩
        first
        | exact ((Below.refl w.heap.size w).alloc (Nat.le_refl _) _).drew.trans (hb.mono (by simp))
        | exact ((Below.refl w.heap.size w).drew.trans hb).alloc hb.size _
end Go.Proofs.YtebllmpdlapefaaGreatDoor
