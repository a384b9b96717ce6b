/- hatchwayref24.ByFrame. -/
import Derived.Test.YtnfpgadegpmhkaaGreatDoorKA40
import Derived.Test.YtnfpgadegpmhkaaGreatDoorKA9
import Derived.Test.YtnfpgadegpmhkaaGreatDoorKA10
set_option linter.unusedVariables false
set_option linter.unusedSimpArgs false
set_option maxRecDepth 100000
set_option maxHeartbeats 3200000
namespace Go.Proofs.YtnfpgadegpmhkaaGreatDoor
open Go.RowKit
def frAt (c : Cfg) (l : List Ent) (f : Fr) : Int := match l.findIdx? (frIs c f) with | some i => i | none => -1
theorem frAt_ways (c : Cfg) (l : List Ent) (f : Fr) : (frAt c l f = -1 ∧ byFrame c l f = none) ∨ ∃ (i : Nat) (hi : i < l.length), frAt c l f = i ∧ byFrame c l f = some l[i] := by
 unfold frAt byFrame
 cases h : l.findIdx? (frIs c f) with
 | none =>
  refine .inl ⟨rfl, ?_⟩
  rw [List.find?_eq_none]
  exact fun e he => by simpa using List.findIdx?_eq_none_iff.1 h e he
 | some i =>
  obtain ⟨hi, h1, h2⟩ := List.findIdx?_eq_some_iff_getElem.1 h
  refine .inr ⟨i, hi, rfl, ?_⟩
  rw [List.find?_eq_some_iff_getElem]
  exact ⟨h1, i, hi, rfl, fun j hj => by simpa using h2 j hj⟩
theorem refByFrame_c (c : Cfg) (l : List Ent) (v : Value) (f : Fr) (B : Nat) (w : World) (hv : EnR w B v l) (hB : B ≤ w.heap.size) :
 Calls Tryz.prog 23 #[c.val, v, .agg #[.int .u64 f.id, .string f.nm, .string f.body]] w fun e w' => e = .returned (.int .i64 (frAt c l f)) ∧ Below w.heap.size w w' := by
 obtain ⟨A, n, cap, rfl, hn, hnc, hcm⟩ := hv.form'
 obtain ⟨id, nm, body⟩ := f
 have HV := Lib.hid hv
 obtain ⟨W, hW⟩ : ∃ W, (w.alloc (.cells #[.int .i64 c.fm, .int .u32 c.mg, .int .i64 c.fr, .int .i64 c.un, .int .i64 c.de, .int .i64 c.it] 24)).alloc (.cells #[.int .u64 id, .string nm, .string body] 40) = W := ⟨_, rfl⟩
 have hbW : Below w.heap.size w W := by rw [← hW]; exact ((Below.refl _ w).alloc (Nat.le_refl _) _).alloc (by simp) _
 have hC : Blk W w.heap.size 24 #[.int .i64 c.fm, .int .u32 c.mg, .int .i64 c.fr, .int .i64 c.un, .int .i64 c.de, .int .i64 c.it] := by rw [← hW]; exact (Blk.new w _ _).alloc _
 have hF : Blk W (w.heap.size + 1) 40 #[.int .u64 id, .string nm, .string body] := by rw [← hW]; exact Blk.at_ (by simp)
 have HB0 := Lib.hid hbW
 have HC0 := Lib.hid hC
 have HF0 := Lib.hid hF
 have HW := Lib.hid hW
 obtain ⟨R, hR⟩ : ∃ R, frAt c l ⟨id, nm, body⟩ = R := ⟨_, rfl⟩
 rw [hR]
 have HR := Lib.hid hR
 unfold Cfg.val
 clear hv hbW hC hF hW hR
 go_enter Tryz.func23, Tryz.ntmps23
 go_wp2_with fail
 rw [HW.out]
 go_loopw [7] (fun i wr => ∃ k : Nat, i = .int .i64 k ∧ k ≤ n ∧ Hid (∀ j (hj : j < l.length), j < k → frIs c ⟨id, nm, body⟩ l[j] = false) ∧ Hid (Below w.heap.size w wr) ∧ Hid (Blk wr w.heap.size 24 #[.int .i64 c.fm, .int .u32 c.mg, .int .i64 c.fr, .int .i64 c.un, .int .i64 c.de, .int .i64 c.it]) ∧ Hid (Blk wr (w.heap.size + 1) 40 #[.int .u64 id, .string nm, .string body])) (fun i _ => n - (intOf i).toNat)
 case atStart => exact ⟨0, rfl, by omega, Lib.hid (by omega), HB0, HC0, HF0⟩
 case round =>
  obtain ⟨k, rfl, hk, Hk, HB, HC, HF⟩ := hrel
  clear HB0 HC0 HF0
  by_cases hlt : k < n
  ·have hkl : k < l.length := by rw [← hn.out]; exact hlt
   obtain ⟨g, o, rfl, hg, e0, e1, e2⟩ := (HV.out.below (HB.out.mono hB)).at_ hkl
   have hc0 : wr.cell? ⟨w.heap.size, 0, none⟩ = some (.int .i64 c.fm) := HC.out.cell 0
   obtain ⟨f0, f1, f2, _⟩ := blk3 HF.out
   have HNO : Hid (frIs c ⟨id, nm, body⟩ l[k] = false → ∀ j (hj : j < l.length), j < k + 1 → frIs c ⟨id, nm, body⟩ l[j] = false) := Lib.hid (fun h0 j hj hjk => by
    by_cases h : j = k
    ·subst h; exact h0
    ·exact Hk.out j hj (by omega))
   have HYES : Hid (frIs c ⟨id, nm, body⟩ l[k] = true → R = k) := Lib.hid (fun h0 => by
    rw [← HR.out]
    unfold frAt
    have : l.findIdx? (frIs c ⟨id, nm, body⟩) = some k := by
     rw [List.findIdx?_eq_some_iff_getElem]
     exact ⟨hkl, h0, fun j hj => by simpa using Hk.out j (by omega) hj⟩
    rw [this])
   obtain ⟨y, hy⟩ : ∃ y, l[k] = y := ⟨_, rfl⟩
   rw [hy] at e0 e1 e2 HNO HYES
   clear hy
   by_cases hc : c.fm = 1
   ·have k1 : ((c.fm : Int) == 1) = true := beq_iff_eq.2 hc
    have k2 : ((c.fm : Int) != 1) = false := by simp [hc]
    rcases str_ways nm y.name with ⟨hq, q1, q2⟩ | ⟨hq, q1, q2⟩
    ·by_cases hid : id = 0
     ·have k3 : ((id : Int) == 0) = true := beq_iff_eq.2 (by omega)
      have HE : Hid (R = k) := Lib.hid (HYES.out (by simp [frIs, hc, hq, hid]))
      clear hc hq hid
      go_wp2_with fail
      go_quiet (fail)
      go_wp2
      go_ret
      exact ⟨by rw [HE.out]; rfl, Below.drewN' HB.out _⟩
     ·have k3 : ((id : Int) == 0) = false := beq_eq_false_iff_ne.2 (by omega)
      have HGO := Lib.hid (HNO.out (by simp [frIs, hc, hid]))
      clear hc hq hid
      go_wp2_with fail
      go_quiet (fail)
      go_wp2
      go_roundw
      case rel => exact ⟨k + 1, by go_num, by omega, HGO, Lib.hid (Below.drewN' HB.out _), Lib.hid (Blk.drewN HC.out _), Lib.hid (Blk.drewN HF.out _)⟩
      case measure => simp [intOf]; omega
    ·have HGO := Lib.hid (HNO.out (by simp [frIs, hc, hq]))
     clear hc hq
     go_wp2_with fail
     go_quiet (fail)
     go_wp2
     go_roundw
     case rel => exact ⟨k + 1, by go_num, by omega, HGO, Lib.hid (Below.drewN' HB.out _), Lib.hid (Blk.drewN HC.out _), Lib.hid (Blk.drewN HF.out _)⟩
     case measure => simp [intOf]; omega
   ·have k1 : ((c.fm : Int) == 1) = false := beq_eq_false_iff_ne.2 hc
    have k2 : ((c.fm : Int) != 1) = true := bne_iff_ne.2 hc
    by_cases hid : id = y.id
    ·have k3 : ((id : Int) == (y.id : Int)) = true := beq_iff_eq.2 (by omega)
     rcases empty_ways nm with ⟨hz, rfl⟩ | ⟨hz, q1, q2⟩
     ·have HE : Hid (R = k) := Lib.hid (HYES.out (by simp [frIs, hc, hid, ByteArray.size]))
      clear hc hid hz
      go_wp2_with fail
      go_quiet (fail)
      go_wp2
      go_ret
      exact ⟨by rw [HE.out]; rfl, Below.drewN' HB.out _⟩
     ·have HGO := Lib.hid (HNO.out (by simp [frIs, hc, hz]))
      clear hc hid hz
      go_wp2_with fail
      go_quiet (fail)
      go_wp2
      go_roundw
      case rel => exact ⟨k + 1, by go_num, by omega, HGO, Lib.hid (Below.drewN' HB.out _), Lib.hid (Blk.drewN HC.out _), Lib.hid (Blk.drewN HF.out _)⟩
      case measure => simp [intOf]; omega
    ·have k3 : ((id : Int) == (y.id : Int)) = false := beq_eq_false_iff_ne.2 (by omega)
     have HGO := Lib.hid (HNO.out (by simp [frIs, hc, hid]))
     clear hc hid
     go_wp2_with fail
     go_quiet (fail)
     go_wp2
     go_roundw
     case rel => exact ⟨k + 1, by go_num, by omega, HGO, Lib.hid (Below.drewN' HB.out _), Lib.hid (Blk.drewN HC.out _), Lib.hid (Blk.drewN HF.out _)⟩
     case measure => simp [intOf]; omega
  ·have HE : Hid (R = -1) := Lib.hid (by
    rw [← HR.out]
    unfold frAt
    have : l.findIdx? (frIs c ⟨id, nm, body⟩) = none := by
     rw [List.findIdx?_eq_none_iff]
     intro e he
     obtain ⟨j, hj, rfl⟩ := List.getElem_of_mem he
     simpa using Hk.out j hj (by rw [← hn.out] at hj; omega)
    rw [this])
   go_wp2
   go_ret
   exact ⟨by rw [HE.out]; rfl, HB.out⟩
end Go.Proofs.YtnfpgadegpmhkaaGreatDoor
