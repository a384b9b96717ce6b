/- The document's checksum. -/
import Derived.Test.YtacikiambpfipaaDoorShaRD
namespace Go.Proofs.YtacikiambpfipaaDoor
set_option linter.unusedVariables false
set_option linter.unusedSimpArgs false
open Go.RowKit

def ckSlot (i : Nat) : Nat := if i = 6 then 4 else i + 5
theorem ckSlot_inj {i j : Nat} (hi : i < 7) (hj : j < 7) (h : ckSlot i = ckSlot j) : i = j := by
  unfold ckSlot at h; split at h <;> split at h <;> omega
def ckVal (KL : Array Value) (s d1 d2 : ByteArray) (i : Nat) : Value :=
  if i = 0 then .agg KL else if i = 1 then .agg KL else if i = 2 then .string s else if i = 3 then .string d1 else if i = 4 then .string d2 else .string (d2.extract 0 4)
def ckFr (KL : Array Value) (s : ByteArray) (g : Nat) (x : Nat → Value) : Act := { tmps := #[.agg KL, .string s, .pointer (some ⟨g, 0, none⟩), undef, x 4, x 5, x 6, x 7, x 8, x 9, x 10], defers := [] }
structure CkJ (KL : Array Value) (s d1 d2 : ByteArray) (listed : Array Bool) (x : Nat → Value) : Prop where
  at_ : ∀ i, i < 7 → listed.getD i false = true → x (ckSlot i) = ckVal KL s d1 d2 i
theorem CkJ.put {KL : Array Value} {s d1 d2 : ByteArray} {listed : Array Bool} {x : Nat → Value} (h : CkJ KL s d1 d2 listed x) (i : Nat) (hi : i < 7) : CkJ KL s d1 d2 (listed.setIfInBounds i true) (upd x (ckSlot i) (ckVal KL s d1 d2 i)) := ⟨fun j hj hl => by
  unfold upd
  by_cases e : ckSlot j = ckSlot i
  · rw [if_pos e, ckSlot_inj hj hi e]
  · rw [if_neg e]
    rcases listed_or hl with h1 | h1
    · subst h1; exact absurd rfl e
    · exact h.at_ j hj h1⟩
def CkI (KL : Array Value) (s d1 d2 : ByteArray) (g : Nat) (W0 : World) (listed : Array Bool) (a : Act) (w : World) : Prop := ∃ x, a = ckFr KL s g x ∧ CkJ KL s d1 d2 listed x ∧ Below W0.heap.size W0 w
set_option maxRecDepth 100000 in
set_option maxHeartbeats 4000000 in
theorem refCheck_c (s : ByteArray) (w : World) (hs : s.size ≤ 90000) :
    Calls Tryd.prog 65 #[keyV, .string s] w fun e w' => e = .returned (.string (shChk s)) ∧ Below w.heap.size w w' := by
  have HC : Hid (shChk s = (shaB (shaB s)).extract 0 4) := Lib.hid rfl
  have HA := Lib.hid (fun w => refDigest_c s w hs)
  have HB := Lib.hid (fun w => refDigest_c (shaB s) w (by rw [shaB_size]; omega))
  have hz := shaB_size (shaB s)
  have hz4 : (4 : Int) ≤ ((shaB (shaB s)).size : Int) := by omega
  have HI := Lib.hid (info_key' 64)
  unfold keyV at HA HB ⊢
  generalize kC 64 = KL at *
  generalize shaB (shaB s) = d2 at *
  generalize shaB s = d1 at *
  clear hz
  go_enter Tryd.func65, Tryd.ntmps65
  go_wp2
  obtain ⟨W0, hW0⟩ : ∃ W0, w.alloc (.cells KL 48) = W0 := ⟨_, rfl⟩
  have HBK : Hid (Blk W0 w.heap.size 48 KL) := Lib.hid (by rw [← hW0]; exact Blk.new w _ _)
  have HWL := Lib.hid HBK.out.lt
  have HBW : Hid (Below w.heap.size w W0) := Lib.hid (by rw [← hW0]; exact (Below.refl _ w).alloc (Nat.le_refl _) _)
  rw [hW0]
  clear hW0
  refine wp_region_inv (by kernel_rfl) (by kernel_rfl) (CkI KL s d1 d2 w.heap.size W0.drew) ?start ?step ?done
  case start => exact ⟨fun k => if k = 4 then .string ⟨#[]⟩ else undef, rfl, ⟨fun i _ h => by rw [getD_replicate_false] at h; cases h⟩, Below.refl _ _⟩
  case step =>
    rintro listed a w' i hi ⟨x, rfl, hJ, hbl⟩ hr
    obtain ⟨hun, o, ho, hall⟩ := mem_ready.1 hr
    have hbk : Blk w' w.heap.size 48 KL := (hbl.block _ HWL.out).trans HBK.out
    have h7 : i = 0 ∨ i = 1 ∨ i = 2 ∨ i = 3 ∨ i = 4 ∨ i = 5 ∨ i = 6 := by simp at hi; omega
    clear hr
    rcases h7 with rfl | rfl | rfl | rfl | rfl | rfl | rfl
    · refine wpOp_some rfl rfl ?_
      exact wp_load_row 48 (.tmp 2) rfl w.heap.size rfl 48 KL (0, 0) _ hbk Tryd.underlying48 rfl HI.out ⟨_, rfl, hJ.put 0 (by omega), hbl⟩
    · refine wpOp_some rfl rfl ?_
      exact wp_load_row 48 (.tmp 2) rfl w.heap.size rfl 48 KL (0, 0) _ hbk Tryd.underlying48 rfl HI.out ⟨_, rfl, hJ.put 1 (by omega), hbl⟩
    · refine wpOp_some rfl rfl ?_
      unfold ckFr
      go_simp
      exact ⟨_, rfl, hJ.put 2 (by omega), hbl⟩
    · obtain rfl := Option.some.inj ho
      have a1 : x 6 = .agg KL := hJ.at_ 1 (by omega) (hall ⟨1, .data⟩ (by simp) rfl)
      have a2 : x 7 = .string s := hJ.at_ 2 (by omega) (hall ⟨2, .data⟩ (by simp) rfl)
      refine wpOp_some rfl rfl ?_
      unfold ckFr
      simp only [a1, a2]
      go_simp
      refine (HA.out _).mono ?_
      rintro e w2 ⟨rfl, hb2⟩
      refine ⟨_, ?_, hJ.put 3 (by omega), hbl.trans (hb2.mono hbl.size)⟩
      simp [ckFr, upd, ckSlot, ckVal, a1, a2]
    · obtain rfl := Option.some.inj ho
      have a1 : x 5 = .agg KL := hJ.at_ 0 (by omega) (hall ⟨0, .data⟩ (by simp) rfl)
      have a2 : x 8 = .string d1 := hJ.at_ 3 (by omega) (hall ⟨3, .data⟩ (by simp) rfl)
      refine wpOp_some rfl rfl ?_
      unfold ckFr
      simp only [a1, a2]
      go_simp
      refine (HB.out _).mono ?_
      rintro e w2 ⟨rfl, hb2⟩
      refine ⟨_, ?_, hJ.put 4 (by omega), hbl.trans (hb2.mono hbl.size)⟩
      simp [ckFr, upd, ckSlot, ckVal, a1, a2]
    · obtain rfl := Option.some.inj ho
      have a1 : x 9 = .string d2 := hJ.at_ 4 (by omega) (hall ⟨4, .data⟩ (by simp) rfl)
      refine wpOp_some rfl rfl ?_
      unfold ckFr
      simp only [a1]
      go_simp
      refine ⟨_, ?_, hJ.put 5 (by omega), hbl⟩
      simp [ckFr, upd, ckSlot, ckVal, a1]
    · obtain rfl := Option.some.inj ho
      have a1 : x 10 = .string (d2.extract 0 4) := hJ.at_ 5 (by omega) (hall ⟨5, .data⟩ (by simp) rfl)
      refine wpOp_some rfl rfl ?_
      unfold ckFr
      simp only [a1]
      go_simp
      refine ⟨_, ?_, hJ.put 6 (by omega), hbl⟩
      simp [ckFr, upd, ckSlot, ckVal, a1]
  case done =>
    rintro listed a w1 hall ⟨x, rfl, hJ, hbl⟩
    have a4 : x 4 = .string (d2.extract 0 4) := hJ.at_ 6 (by omega) (hall 6 (by simp))
    unfold ckFr
    simp only [a4]
    go_wp2
    go_ret
    exact ⟨by rw [HC.out]; rfl, HBW.out.drew.trans (hbl.mono HBW.out.drew.size)⟩
end Go.Proofs.YtacikiambpfipaaDoor
