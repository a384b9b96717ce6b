/- The document's Same, of items. -/
import Derived.Test.YtnfpgadegpmhkaaGreatDoorKA19
import Derived.Test.YtnfpgadegpmhkaaGreatDoorKA5
import Derived.StillTailTactics
import Derived.Deep.Draws
set_option linter.unusedVariables false
set_option linter.unusedSimpArgs false
set_option maxRecDepth 100000
set_option maxHeartbeats 1600000
namespace Go.Proofs.YtnfpgadegpmhkaaGreatDoor
open Go.RowKit
theorem refSameTy_c : ∀ (x : Ty) (B : Nat) (w : World) (c0 c1 c2 c3 : Value), TyIn w B x c0 c1 c2 c3 → B ≤ w.heap.size → ∀ (d0 d1 d2 d3 : Value), TyIn w B x d0 d1 d2 d3 →
 Calls Tryz.prog 22 #[.agg #[c0, c1, c2, c3], .agg #[d0, d1, d2, d3]] w fun e w' => e = .returned (.bool true) ∧ Below w.heap.size w w' := by
 intro x
 induction x using Ty.ind with
 | h ki s l ta ih =>
  intro B w c0 c1 c2 c3 h hB d0 d1 d2 d3 hy
  obtain ⟨rfl, rfl, rfl, hki, hsi, hta, hs, A, cap, rfl, hcap, hcm, hsub⟩ := h
  have IH := Lib.hid ih
  have HS := Lib.hid hsub
  have HKI := Lib.hid hki
  have HSI := Lib.hid hsi
  have HTA := Lib.hid hta
  unfold okI at hki hsi hta
  obtain ⟨hki1, hki2⟩ := hki
  obtain ⟨hsi1, hsi2⟩ := hsi
  obtain ⟨hta1, hta2⟩ := hta
  clear ih hsub
  obtain ⟨rfl, rfl, rfl, _, _, _, hs', A', cap', rfl, hcap', hcm', hsub'⟩ := hy
  have HS' := Lib.hid hsub'
  clear hsub'
  have e1 : (ki != ki) = false := by simp
  have e2 : (s != s) = false := by simp
  have e3 : (ta != ta) = false := by simp
  have e4 : ((l.length : Int) != (l.length : Int)) = false := by simp
  have e1' : (ki == ki) = true := by simp
  have e2' : (s == s) = true := by simp
  have e3' : (ta == ta) = true := by simp
  have e4' : (l.length != l.length) = false := by simp
  go_enter Tryz.func22, Tryz.ntmps22
  go_wp2_with fail
  go_loopw [5] (fun i wr => ∃ k : Nat, k ≤ l.length ∧ i = .int .i64 k ∧ Below w.heap.size w wr ∧ Blk wr w.heap.size 55 #[.int .i64 ki, .int .i64 s, .slice A l.length cap, .int .i64 ta] ∧ Blk wr (w.heap.size + 1) 55 #[.int .i64 ki, .int .i64 s, .slice A' l.length cap', .int .i64 ta]) (fun i _ => l.length - (intOf i).toNat)
  case atStart => exact ⟨0, by omega, rfl, blw, (Blk.new w _ _).alloc _, by have := Blk.new (w.alloc (.cells #[.int .i64 ki, .int .i64 s, .slice A l.length cap, .int .i64 ta] 55)) 55 #[.int .i64 ki, .int .i64 s, .slice A' l.length cap', .int .i64 ta]; simpa using this⟩
  case round =>
   obtain ⟨k, hk, rfl, hb, hk1, hk2⟩ := hrel
   have g1 : wr.cell? ⟨w.heap.size, 2, none⟩ = some (.slice A l.length cap) := hk1.cell 2
   have g2 : wr.cell? ⟨w.heap.size + 1, 2, none⟩ = some (.slice A' l.length cap') := hk2.cell 2
   have hl1 := hk2.lt
   have K1 := Lib.hid hk1
   have K2 := Lib.hid hk2
   clear hk1 hk2
   by_cases hlt : k < l.length
   ·obtain ⟨b, o, d0, d1, d2, d3, rfl, hbB, e0, e1, e2, e3, hi⟩ := HS.out.at_ k hlt
    obtain ⟨b', o', d0', d1', d2', d3', rfl, hbB', e0', e1', e2', e3', hi'⟩ := HS'.out.at_ k hlt
    simp only [Nat.zero_add] at e0 e1 e2 e3 e0' e1' e2' e3'
    replace e0 := (hb.cell (p := ⟨b, o + k * 4, none⟩) (by simp; omega)).trans e0
    replace e1 := (hb.cell (p := ⟨b, o + k * 4 + 1, none⟩) (by simp; omega)).trans e1
    replace e2 := (hb.cell (p := ⟨b, o + k * 4 + 2, none⟩) (by simp; omega)).trans e2
    replace e3 := (hb.cell (p := ⟨b, o + k * 4 + 3, none⟩) (by simp; omega)).trans e3
    replace e0' := (hb.cell (p := ⟨b', o' + k * 4, none⟩) (by simp; omega)).trans e0'
    replace e1' := (hb.cell (p := ⟨b', o' + k * 4 + 1, none⟩) (by simp; omega)).trans e1'
    replace e2' := (hb.cell (p := ⟨b', o' + k * 4 + 2, none⟩) (by simp; omega)).trans e2'
    replace e3' := (hb.cell (p := ⟨b', o' + k * 4 + 3, none⟩) (by simp; omega)).trans e3'
    have hbz := hb.size
    have hmem := List.getElem_mem hlt
    have HC := Lib.hid (IH.out _ hmem B wr.drew d0 d1 d2 d3 ((hi.below (hb.mono hB)).below (Below.refl _ _).drew) (by simp; omega) d0' d1' d2' d3' ((hi'.below (hb.mono hB)).below (Below.refl _ _).drew))
    clear hi hi'
    go_wp2_with fail
    go_still_tail 10, (by kernel_rfl)
    change wpList _ _ _ _ _ wr.drew
    go_wp2_with fail
    refine HC.out.mono ?_
    rintro e w2 ⟨rfl, hb2⟩
    have HB2 := Lib.hid hb2
    clear hb2
    go_wp2
    go_roundw
    case rel =>
     exact ⟨k + 1, by omega, by go_num, hb.drew.trans (HB2.out.mono (by simpa using hbz)), K1.out.drew.keep HB2.out (by simp; omega), K2.out.drew.keep HB2.out (by simpa using hl1)⟩
    case measure => simp [intOf]; omega
   ·go_wp2
    go_ret
    exact ⟨rfl, hb⟩
end Go.Proofs.YtnfpgadegpmhkaaGreatDoor
