/- package schema: the reader's small steps (passes, number, the closure sized). -/
import Derived.Test.YtnfpgadegpmhkaaGreatDoorKA6
import Derived.Test.YtnfpgadegpmhkaaGreatDoorKA2
import Derived.Test.YtnfpgadegpmhkaaGreatDoorKA1
import Derived.Deep.QuietTactic
import Derived.BigQuiet
import Derived.Deep.DeepFit
import Derived.WalkSpells
import Derived.Test.YtnfpgadegpmhkaaGreatDoorKA19
set_option linter.unusedVariables false
set_option linter.unusedSimpArgs false
set_option maxRecDepth 100000
set_option maxHeartbeats 3200000
namespace Go.Proofs.YtnfpgadegpmhkaaGreatDoor
open Go.RowKit
def Scr (w : World) (g : Nat) (s : ByteArray) (p L : Nat) : Prop := Blk w g 107 #[.string s, .int .i64 p, .int .i64 L]
theorem Scr.cells {w : World} {g : Nat} {s : ByteArray} {p L : Nat} (h : Scr w g s p L) : w.cell? ⟨g, 0, none⟩ = some (.string s) ∧ w.cell? ⟨g, 1, none⟩ = some (.int .i64 p) ∧ w.cell? ⟨g, 2, none⟩ = some (.int .i64 L) ∧ w.frozen? ⟨g, 0, none⟩ = false ∧ w.frozen? ⟨g, 1, none⟩ = false ∧ w.frozen? ⟨g, 2, none⟩ = false ∧ g < w.heap.size := by
 obtain ⟨a, b, c, d, e, f⟩ := blk3 h
 exact ⟨a, b, c, d, e, f, Blk.lt h⟩
theorem Scr.to {w : World} {g : Nat} {s : ByteArray} {p L : Nat} {n : Int} {q : Nat} (h : Scr w g s p L) (hn : n = q) : Scr (w.setCell ⟨g, 1, none⟩ (.int .i64 n)) g s q L := by
 subst hn
 exact Blk.store h rfl
theorem Scr.less {w : World} {g : Nat} {s : ByteArray} {p L : Nat} {n : Int} {q : Nat} (h : Scr w g s p L) (hn : n = q) : Scr (w.setCell ⟨g, 2, none⟩ (.int .i64 n)) g s p q := by
 subst hn
 exact Blk.store h rfl
theorem passes_yes (g : Nat) (s : ByteArray) (p L : Nat) (b : Nat) (w : World) (h : Scr w g s p L) (hat : p < s.size) (hs : s.size ≤ 100000) (hb : s[p].toNat = b) :
 Calls Tryz.prog 94 #[.pointer (some ⟨g, 0, none⟩), .int .u8 b] w fun e w' => e = .returned (.bool true) ∧ Scr w' g s (p + 1) L ∧ Only [g] w w' := by
 obtain ⟨g0, g1, g2, f0, f1, f2, hl⟩ := h.cells
 have HP := Lib.hid h
 subst hb
 clear h
 have i1 : ((p : Int) == (s.size : Int)) = false := beq_eq_false_iff_ne.2 (by omega)
 have i2 : ((s[p].toNat : Int) != (s[p].toNat : Int)) = false := by simp
 go_enter Tryz.func94, Tryz.ntmps94
 go_wp2_with fail
 go_quiet (fail)
 go_wp2
 go_ret
 exact ⟨rfl, (show Scr (w.drewN _) g s p L from HP.out).to (by go_num), onl⟩
theorem passes_no (g : Nat) (s : ByteArray) (p L : Nat) (b : Nat) (w : World) (h : Scr w g s p L) (hp : p ≤ s.size) (hs : s.size ≤ 100000) (hb : ∀ hat : p < s.size, s[p].toNat ≠ b) :
 Calls Tryz.prog 94 #[.pointer (some ⟨g, 0, none⟩), .int .u8 b] w fun e w' => e = .returned (.bool false) ∧ ∃ n, w' = w.drewN n := by
 obtain ⟨g0, g1, g2, f0, f1, f2, hl⟩ := h.cells
 clear h
 by_cases hat : p < s.size
 ·have i1 : ((p : Int) == (s.size : Int)) = false := beq_eq_false_iff_ne.2 (by omega)
  have i2 : ((s[p].toNat : Int) != (b : Int)) = true := bne_iff_ne.2 (by have := hb hat; omega)
  clear hb
  go_enter Tryz.func94, Tryz.ntmps94
  go_wp2_with fail
  go_quiet (fail)
  go_wp2
  go_ret
  exact ⟨rfl, _, rfl⟩
 ·have i1 : ((p : Int) == (s.size : Int)) = true := beq_iff_eq.2 (by omega)
  clear hb
  go_enter Tryz.func94, Tryz.ntmps94
  go_wp2_with fail
  go_quiet (fail)
  go_wp2
  go_ret
  exact ⟨rfl, _, rfl⟩
def atOf : Option Value → Nat
 | some (.int _ z) => z.toNat
 | _ => 0
theorem scNumber_c (g : Nat) (s : ByteArray) (p L most : Nat) (w : World) (h : Scr w g s p L) (hp : p ≤ s.size) (hs : s.size ≤ 100000) (hm : most ≤ 65536) :
 Calls Tryz.prog 93 #[.pointer (some ⟨g, 0, none⟩), .int .i64 most] w fun e w' => ∃ (n : Nat) (ok : Bool) (q : Nat), e = .returned (.tuple #[.int .i64 n, .bool ok]) ∧ Scr w' g s q L ∧ Only [g] w w' ∧ NumIs most s p n ok q := by
 obtain ⟨g0, g1, g2, f0, f1, f2, hl⟩ := h.cells
 have HP := Lib.hid h
 clear h
 go_enter Tryz.func93, Tryz.ntmps93
 go_wp2_with fail
 go_loopw [7] (fun nv wr => ∃ k m : Nat, p ≤ k ∧ k ≤ s.size ∧ nv = .int .i64 m ∧ m ≤ most ∧ Hid (DgRel s p k m) ∧ Hid (Scr wr g s k L) ∧ Only [g] w wr) (fun _ wr => s.size - atOf (wr.cell? ⟨g, 1, none⟩))
 case atStart => exact ⟨p, 0, by omega, hp, rfl, by omega, Lib.hid (DgRel.start s p), HP, onl⟩
 case round =>
  obtain ⟨k, m, hpk, hk, rfl, hmm, HD, HS, ho⟩ := hrel
  obtain ⟨c0, c1, c2, cf0, cf1, cf2, hcl⟩ := HS.out.cells
  have hlt2 := hl
  clear g0 g1 g2 f0 f1 f2
  by_cases hks : k < s.size
  ·have i1 : decide ((k : Int) < (s.size : Int)) = true := decide_eq_true (by omega)
   by_cases h48 : 48 ≤ s[k].toNat
   ·have i2 : decide ((48 : Int) ≤ (s[k].toNat : Int)) = true := decide_eq_true (by omega)
    by_cases h57 : s[k].toNat ≤ 57
    ·have i3 : decide ((s[k].toNat : Int) ≤ (57 : Int)) = true := decide_eq_true (by omega)
     obtain ⟨d, hd⟩ : ∃ d : Nat, s[k].toNat - 48 = d := ⟨_, rfl⟩
     have e1 : IntKind.u8.wrap ((s[k].toNat : Int) - 48) = d := by rw [show (s[k].toNat : Int) - 48 = d from by omega]; exact IntWalk.u8_in _ (by omega)
     have e2 : IntKind.i64.wrap (10 * (m : Int)) = 10 * m := IntWalk.i64_in _ (by omega)
     have e3 : IntKind.i64.wrap (d : Int) = d := IntWalk.i64_in _ (by omega)
     have e4 : IntKind.i64.wrap (10 * (m : Int) + d) = 10 * (m : Int) + d := IntWalk.i64_in _ (by omega)
     have HDN : Hid (DgRel s p (k + 1) (10 * m + d)) := Lib.hid (by
      have := HD.out.next hks ((isDig_iff _).2 ⟨h48, h57⟩)
      rwa [digStep, if_pos (by omega), hd] at this)
     have HNX : Hid (∀ V, Scr V g s k L → Scr (V.setCell ⟨g, 1, none⟩ (.int .i64 ((k : Int) + 1))) g s (k + 1) L) := Lib.hid (fun V hV => hV.to (by omega))
     by_cases hov : (most : Int) < 10 * (m : Int) + d
     ·have HOV : Hid (∀ n' r, numR (s.data.toList.drop p) = some (n', r) → most < n') := Lib.hid (fun n' r hn => by have := numR_over HDN.out n' r hn; omega)
      go_wp2_with fail
      go_quiet (fail)
      go_wp2_with fail
      go_quiet (fail)
      go_wp2
      go_ret2
      exact ⟨0, false, k + 1, rfl, HNX.out _ (by exact HS.out), onl, numIs_no HOV.out (by omega) (by omega)⟩
     ·go_wp2_with fail
      go_quiet (fail)
      go_wp2_with fail
      go_quiet (fail)
      go_wp2
      go_roundw
      case rel => exact ⟨k + 1, 10 * m + d, by omega, by omega, by go_num, by omega, HDN, Lib.hid (HNX.out _ (by exact HS.out)), onl⟩
      case measure =>
       have hn := fun V (hV : Scr V g s k L) => (HNX.out V hV).cells.2.1
       rw [c1, hn]
       ·simp only [atOf]; omega
       ·exact HS.out
    ·have i3 : decide ((s[k].toNat : Int) ≤ (57 : Int)) = false := decide_eq_false (by omega)
     have HND : Hid (∀ h : k < s.size, isDig s[k] = false) := Lib.hid (fun _ => by rw [Bool.eq_false_iff]; intro hd; exact h57 ((isDig_iff _).1 hd).2)
     have ek : IntKind.i64.wrap ((k : Int) - p) = (k : Int) - p := IntWalk.i64_in _ (by omega)
     by_cases hk0 : k = p
     ·have j1 : (((k : Int) - p) == 1) = false := beq_eq_false_iff_ne.2 (by omega)
      have j2 : decide ((1 : Int) < (k : Int) - p) = false := decide_eq_false (by omega)
      have HNO := Lib.hid (numR_stop (s := s) (at_ := p) (fun h => by have := HND.out (by omega); simpa [hk0] using this))
      clear hk0
      go_wp2_with fail
      go_quiet (fail)
      go_wp2_with fail
      go_quiet (fail)
      go_wp2
      go_ret2
      exact ⟨m, false, k, rfl, HS.out, onl, numIs_none HNO.out (by omega) (by omega)⟩
     ·have HLT : Hid (p < k) := Lib.hid (by omega)
      by_cases hk1 : k = p + 1
      ·have j1 : (((k : Int) - p) == 1) = true := beq_iff_eq.2 (by omega)
       have HYES := Lib.hid (numR_is HD.out (by omega) HND.out (fun h => absurd h (by omega)))
       clear hk1 hk0
       go_wp2_with fail
       go_quiet (fail)
       go_wp2_with fail
       go_quiet (fail)
       go_wp2
       go_ret2
       exact ⟨m, true, k, rfl, HS.out, onl, numIs_yes HYES.out (by omega) HLT.out (by omega)⟩
      ·have j1 : (((k : Int) - p) == 1) = false := beq_eq_false_iff_ne.2 (by omega)
       have j2 : decide ((1 : Int) < (k : Int) - p) = true := decide_eq_true (by omega)
       have hps : p < s.size := by omega
       by_cases hz : s[p].toNat = 48
       ·have j3 : ((s[p].toNat : Int) != 48) = false := by simp [hz]
        have HNO := Lib.hid (numR_zero HD.out (by omega) (fun _ => hz))
        clear hz
        go_wp2_with fail
        go_quiet (fail)
        go_wp2_with fail
        go_quiet (fail)
        go_wp2
        go_ret2
        exact ⟨m, false, k, rfl, HS.out, onl, numIs_none HNO.out (by omega) (by omega)⟩
       ·have j3 : ((s[p].toNat : Int) != 48) = true := bne_iff_ne.2 (by omega)
        have HYES := Lib.hid (numR_is HD.out (by omega) HND.out (fun _ _ => hz))
        clear hz
        go_wp2_with fail
        go_quiet (fail)
        go_wp2_with fail
        go_quiet (fail)
        go_wp2
        go_ret2
        exact ⟨m, true, k, rfl, HS.out, onl, numIs_yes HYES.out (by omega) HLT.out (by omega)⟩
   ·have i2 : decide ((48 : Int) ≤ (s[k].toNat : Int)) = false := decide_eq_false (by omega)
    have HND : Hid (∀ h : k < s.size, isDig s[k] = false) := Lib.hid (fun _ => by rw [Bool.eq_false_iff]; intro hd; exact h48 ((isDig_iff _).1 hd).1)
    have ek : IntKind.i64.wrap ((k : Int) - p) = (k : Int) - p := IntWalk.i64_in _ (by omega)
    by_cases hk0 : k = p
    ·have j1 : (((k : Int) - p) == 1) = false := beq_eq_false_iff_ne.2 (by omega)
     have j2 : decide ((1 : Int) < (k : Int) - p) = false := decide_eq_false (by omega)
     have HNO := Lib.hid (numR_stop (s := s) (at_ := p) (fun h => by have := HND.out (by omega); simpa [hk0] using this))
     clear hk0
     go_wp2_with fail
     go_quiet (fail)
     go_wp2_with fail
     go_quiet (fail)
     go_wp2
     go_ret2
     exact ⟨m, false, k, rfl, HS.out, onl, numIs_none HNO.out (by omega) (by omega)⟩
    ·have HLT : Hid (p < k) := Lib.hid (by omega)
     by_cases hk1 : k = p + 1
     ·have j1 : (((k : Int) - p) == 1) = true := beq_iff_eq.2 (by omega)
      have HYES := Lib.hid (numR_is HD.out (by omega) HND.out (fun h => absurd h (by omega)))
      clear hk1 hk0
      go_wp2_with fail
      go_quiet (fail)
      go_wp2_with fail
      go_quiet (fail)
      go_wp2
      go_ret2
      exact ⟨m, true, k, rfl, HS.out, onl, numIs_yes HYES.out (by omega) HLT.out (by omega)⟩
     ·have j1 : (((k : Int) - p) == 1) = false := beq_eq_false_iff_ne.2 (by omega)
      have j2 : decide ((1 : Int) < (k : Int) - p) = true := decide_eq_true (by omega)
      have hps : p < s.size := by omega
      by_cases hz : s[p].toNat = 48
      ·have j3 : ((s[p].toNat : Int) != 48) = false := by simp [hz]
       have HNO := Lib.hid (numR_zero HD.out (by omega) (fun _ => hz))
       clear hz
       go_wp2_with fail
       go_quiet (fail)
       go_wp2_with fail
       go_quiet (fail)
       go_wp2
       go_ret2
       exact ⟨m, false, k, rfl, HS.out, onl, numIs_none HNO.out (by omega) (by omega)⟩
      ·have j3 : ((s[p].toNat : Int) != 48) = true := bne_iff_ne.2 (by omega)
       have HYES := Lib.hid (numR_is HD.out (by omega) HND.out (fun _ _ => hz))
       clear hz
       go_wp2_with fail
       go_quiet (fail)
       go_wp2_with fail
       go_quiet (fail)
       go_wp2
       go_ret2
       exact ⟨m, true, k, rfl, HS.out, onl, numIs_yes HYES.out (by omega) HLT.out (by omega)⟩
  ·have i1 : decide ((k : Int) < (s.size : Int)) = false := decide_eq_false (by omega)
   have HND : Hid (∀ h : k < s.size, isDig s[k] = false) := Lib.hid (fun h => absurd h hks)
   have ek : IntKind.i64.wrap ((k : Int) - p) = (k : Int) - p := IntWalk.i64_in _ (by omega)
   by_cases hk0 : k = p
   ·have j1 : (((k : Int) - p) == 1) = false := beq_eq_false_iff_ne.2 (by omega)
    have j2 : decide ((1 : Int) < (k : Int) - p) = false := decide_eq_false (by omega)
    have HNO := Lib.hid (numR_stop (s := s) (at_ := p) (fun h => by have := HND.out (by omega); simpa [hk0] using this))
    clear hk0
    go_wp2_with fail
    go_quiet (fail)
    go_wp2_with fail
    go_quiet (fail)
    go_wp2
    go_ret2
    exact ⟨m, false, k, rfl, HS.out, onl, numIs_none HNO.out (by omega) (by omega)⟩
   ·have HLT : Hid (p < k) := Lib.hid (by omega)
    by_cases hk1 : k = p + 1
    ·have j1 : (((k : Int) - p) == 1) = true := beq_iff_eq.2 (by omega)
     have HYES := Lib.hid (numR_is HD.out (by omega) HND.out (fun h => absurd h (by omega)))
     clear hk1 hk0
     go_wp2_with fail
     go_quiet (fail)
     go_wp2_with fail
     go_quiet (fail)
     go_wp2
     go_ret2
     exact ⟨m, true, k, rfl, HS.out, onl, numIs_yes HYES.out (by omega) HLT.out (by omega)⟩
    ·have j1 : (((k : Int) - p) == 1) = false := beq_eq_false_iff_ne.2 (by omega)
     have j2 : decide ((1 : Int) < (k : Int) - p) = true := decide_eq_true (by omega)
     have hps : p < s.size := by omega
     by_cases hz : s[p].toNat = 48
     ·have j3 : ((s[p].toNat : Int) != 48) = false := by simp [hz]
      have HNO := Lib.hid (numR_zero HD.out (by omega) (fun _ => hz))
      clear hz
      go_wp2_with fail
      go_quiet (fail)
      go_wp2_with fail
      go_quiet (fail)
      go_wp2
      go_ret2
      exact ⟨m, false, k, rfl, HS.out, onl, numIs_none HNO.out (by omega) (by omega)⟩
     ·have j3 : ((s[p].toNat : Int) != 48) = true := bne_iff_ne.2 (by omega)
      have HYES := Lib.hid (numR_is HD.out (by omega) HND.out (fun _ _ => hz))
      clear hz
      go_wp2_with fail
      go_quiet (fail)
      go_wp2_with fail
      go_quiet (fail)
      go_wp2
      go_ret2
      exact ⟨m, true, k, rfl, HS.out, onl, numIs_yes HYES.out (by omega) HLT.out (by omega)⟩
theorem scSized_c (g rb : Nat) (s : ByteArray) (p L most : Nat) (k : Int) (w : World) (h : Scr w g s p L) (hb : Blk w rb 105 #[.pointer (some ⟨g, 0, none⟩)]) (hp : p ≤ s.size) (hs : s.size ≤ 100000) (hm : most ≤ 65536) :
 Calls Tryz.prog 92 #[.int .i64 k, .int .i64 most, .pointer (some ⟨rb, 0, none⟩)] w fun e w' => ∃ (n : Nat) (ok : Bool) (q : Nat), e = .returned (.tuple #[.agg #[.int .i64 k, .int .i64 n, .slice none 0 0, .int .i64 0], .bool ok]) ∧ Scr w' g s q L ∧ Only [g] w w' ∧ NumIs most s p n ok q := by
 have q0 : w.cell? ⟨rb, 0, none⟩ = some (.pointer (some ⟨g, 0, none⟩)) := hb.cell 0
 have hrb := hb.lt
 have hgl : g < w.heap.size := Blk.lt (show Blk w g _ _ from h)
 have HN := Lib.hid (scNumber_c g s p L most (w.alloc (.cells #[.int .i64 0, .int .i64 0, .slice none 0 0, .int .i64 0] 55)) (Blk.alloc (show Blk w g _ _ from h) _) hp hs hm)
 clear h hb
 go_enter Tryz.func92, Tryz.ntmps92
 go_wp2_with fail
 refine HN.out.mono ?_
 rintro e w1 ⟨n, ok, q, rfl, hr, ho, hn⟩
 have h5 := (Blk.new w 55 #[.int .i64 0, .int .i64 0, .slice none 0 0, .int .i64 0]).only ho (by simp; omega)
 have HR := Lib.hid hr
 have HO : Hid (Only [g] w w1) := Lib.hid (((Only.refl [g] w).alloc _).trans ho)
 have HNI := Lib.hid hn
 have HSZ : Hid (w.heap.size < w1.heap.size) := Lib.hid h5.lt
 obtain ⟨r0, r1, r2, r3, rf0, rf1, rf2, rf3⟩ := blk4 h5
 have hz := ((((h5.set 0 (.int .i64 k)).set 1 (.int .i64 n)).set 2 (.slice none 0 0)).set 3 (.int .i64 0))
 have y0 := (h5.set 0 (.int .i64 k)).cell 0
 have y1 := ((h5.set 0 (.int .i64 k)).set 1 (.int .i64 n)).cell 1
 have y2 := (((h5.set 0 (.int .i64 k)).set 1 (.int .i64 n)).set 2 (.slice none 0 0)).cell 2
 have y3 := hz.cell 3
 simp at y0 y1 y2 y3
 clear hr ho hn h5 hz
 go_wp2
 refine bodyPost_ret (v := .tuple #[.agg #[.int .i64 k, .int .i64 n, .slice none 0 0, .int .i64 0], .bool ok]) (by simp [results, Tryz.results92, go_sem, y0, y1, y2, y3]) rfl ?_
 have hne : g ≠ w.heap.size := by omega
 refine ⟨n, ok, q, rfl, ?_, (((HO.out.setCell (by simp) _).setCell (by simp) _).setCell (by simp) _).setCell (by simp) _, HNI.out⟩
 exact (((Blk.far (show Blk w1 g _ _ from HR.out) (p := ⟨w.heap.size, 0, none⟩) hne _).far (p := ⟨w.heap.size, 1, none⟩) hne _).far (p := ⟨w.heap.size, 2, none⟩) hne _).far (p := ⟨w.heap.size, 3, none⟩) hne _
def ScEnd (w : World) (g : Nat) (s : ByteArray) (f L p : Nat) (e : Ending) (w' : World) : Prop :=
 ∃ (t : Ty) (ok : Bool) (q L' : Nat) (k z ta : Int) (A : Option Addr) (n cap : Nat), e = .returned (.tuple #[.agg #[.int .i64 k, .int .i64 z, .slice A n cap, .int .i64 ta], .bool ok]) ∧ Scr w' g s q L' ∧ Only [g] w w' ∧ L' ≤ L ∧ ScIs f L s p t ok q L' ∧ (ok = true → TyS w' (w.heap.size ≤ ·) t (.int .i64 k) (.int .i64 z) (.slice A n cap) (.int .i64 ta))
structure ScW (w : World) (g : Nat) (s : ByteArray) (p L : Nat) (V : World) : Prop where
 box : Blk V w.heap.size 105 #[.pointer (some ⟨g, 0, none⟩)]
 res : Blk V (w.heap.size + 1) 55 #[.int .i64 0, .int .i64 0, .slice none 0 0, .int .i64 0]
 rd : Scr V g s p L
 only : Only [g] w V
 siz : w.heap.size + 2 ≤ V.heap.size
 glt : g < w.heap.size
theorem ScW.start {w : World} {g : Nat} {s : ByteArray} {p L : Nat} (h : Scr w g s p L) : ScW w g s p L ((w.alloc (.cells #[.pointer (some ⟨g, 0, none⟩)] 105)).alloc (.cells #[.int .i64 0, .int .i64 0, .slice none 0 0, .int .i64 0] 55)) where
 box := (Blk.new w _ _).alloc _
 res := Blk.at_ (by simp)
 rd := (Blk.alloc (show Blk w g _ _ from h) _).alloc _
 only := ((Only.refl _ w).alloc _).alloc _
 siz := by simp
 glt := Blk.lt (show Blk w g _ _ from h)
theorem ScW.turn {w V V' : World} {g : Nat} {s : ByteArray} {p p' L L' : Nat} (h : ScW w g s p L V) (ho : Only [g] V V') (hr : Scr V' g s p' L') : ScW w g s p' L' V' where
 box := h.box.only ho (by have := h.glt; simp; omega)
 res := h.res.only ho (by have := h.glt; simp; omega)
 rd := hr
 only := h.only.trans ho
 siz := Nat.le_trans h.siz ho.size
 glt := h.glt
theorem ScW.below {w V V' : World} {g : Nat} {s : ByteArray} {p L : Nat} (h : ScW w g s p L V) (hb : Below V.heap.size V V') : ScW w g s p L V' := h.turn ((Only.of_below hb (Nat.le_refl _)).mono (by simp)) ((hb.block _ (Blk.lt (show Blk V g _ _ from h.rd))).trans h.rd)
theorem ScW.ends {w V : World} {g : Nat} {s : ByteArray} {p L : Nat} (h : ScW w g s p L V) (u0 u1 u2 u3 : Value) :
 Scr ((((V.setCell ⟨w.heap.size + 1, 0, none⟩ u0).setCell ⟨w.heap.size + 1, 1, none⟩ u1).setCell ⟨w.heap.size + 1, 2, none⟩ u2).setCell ⟨w.heap.size + 1, 3, none⟩ u3) g s p L ∧ Only [g] w ((((V.setCell ⟨w.heap.size + 1, 0, none⟩ u0).setCell ⟨w.heap.size + 1, 1, none⟩ u1).setCell ⟨w.heap.size + 1, 2, none⟩ u2).setCell ⟨w.heap.size + 1, 3, none⟩ u3) ∧
 (V.setCell ⟨w.heap.size + 1, 0, none⟩ u0).cell? ⟨w.heap.size + 1, 0, none⟩ = some u0 ∧ ((V.setCell ⟨w.heap.size + 1, 0, none⟩ u0).setCell ⟨w.heap.size + 1, 1, none⟩ u1).cell? ⟨w.heap.size + 1, 1, none⟩ = some u1 ∧ (((V.setCell ⟨w.heap.size + 1, 0, none⟩ u0).setCell ⟨w.heap.size + 1, 1, none⟩ u1).setCell ⟨w.heap.size + 1, 2, none⟩ u2).cell? ⟨w.heap.size + 1, 2, none⟩ = some u2 ∧ ((((V.setCell ⟨w.heap.size + 1, 0, none⟩ u0).setCell ⟨w.heap.size + 1, 1, none⟩ u1).setCell ⟨w.heap.size + 1, 2, none⟩ u2).setCell ⟨w.heap.size + 1, 3, none⟩ u3).cell? ⟨w.heap.size + 1, 3, none⟩ = some u3 :=
 have n1 : g ≠ w.heap.size + 1 := by have := h.glt; omega
 ⟨(((Blk.far (show Blk V g _ _ from h.rd) (p := ⟨w.heap.size + 1, 0, none⟩) n1 _).far (p := ⟨w.heap.size + 1, 1, none⟩) n1 _).far (p := ⟨w.heap.size + 1, 2, none⟩) n1 _).far (p := ⟨w.heap.size + 1, 3, none⟩) n1 _, (((h.only.setCell (by simp) _).setCell (by simp) _).setCell (by simp) _).setCell (by simp) _, by have := (h.res.set 0 u0).cell 0; simpa using this, by have := ((h.res.set 0 u0).set 1 u1).cell 1; simpa using this, by have := (((h.res.set 0 u0).set 1 u1).set 2 u2).cell 2; simpa using this, by have := ((((h.res.set 0 u0).set 1 u1).set 2 u2).set 3 u3).cell 3; simpa using this⟩
theorem ScW.step {w W : World} {g : Nat} {s : ByteArray} {p L : Nat} (h : ScW w g s p L W) (a b : Int) (n1 n2 : Nat) {p' L' : Nat} (ha : a = L') (hb : b = p') : ScW w g s p' L' ((((W.drewN n1).setCell ⟨g, 2, none⟩ (.int .i64 a)).drewN n2).setCell ⟨g, 1, none⟩ (.int .i64 b)) := by
 have h1 : Scr (W.drewN n1) g s p L := h.rd
 have h2 : Scr (((W.drewN n1).setCell ⟨g, 2, none⟩ (.int .i64 a)).drewN n2) g s p L' := h1.less ha
 exact h.turn (((((Only.refl [g] W).drewN n1).setCell (p := ⟨g, 2, none⟩) (by simp) _).drewN n2).setCell (p := ⟨g, 1, none⟩) (by simp) _) (h2.to hb)
theorem numR_u8 {s : ByteArray} {p : Nat} {c : UInt8} (hp : p < s.size) (hc : s[p].toNat = c.toNat) : s.data.toList.drop p = c :: s.data.toList.drop (p + 1) := by
 rw [drop_cons s p hp, UInt8.toNat_inj.1 hc]
theorem scIs_k {k : Int} {most f L : Nat} {s : ByteArray} {p n q : Nat} {ok : Bool} (hL : 0 < L) (ht : tItem (f + 1) (s.data.toList.drop p) = numK k (numR (s.data.toList.drop (p + 1)))) (hb : (∀ n' r, numR (s.data.toList.drop (p + 1)) = some (n', r) → most < n') → ∀ (L : Nat) (t : Ty) (r : List UInt8), numK k (numR (s.data.toList.drop (p + 1))) = some (t, r) → TyBad L t) (h : NumIs most s (p + 1) n ok q) : ScIs (f + 1) L s p (.mk k n [] 0) ok q (L - 1) := by
 refine ⟨fun ho => ?_, fun ho t' r htr => ?_, h.2.2.1⟩
 ·obtain ⟨h1, h2, h3⟩ := h.1 ho
  exact ⟨by rw [ht, h1]; rfl, by simp [Ty.count, countT]; omega, by omega⟩
 ·rw [ht] at htr
  exact hb (h.2.1 ho) L t' r htr
theorem scRead_b (f d : Nat) (hd : d ≤ 8) (g : Nat) (s : ByteArray) (p L : Nat) (w : World) (h : Scr w g s p L) (hp : p < s.size) (hs : s.size ≤ 100000) (hL : 0 < L) (hL2 : L ≤ 64) (hc : s[p].toNat = 98) :
 Calls Tryz.prog 59 #[.pointer (some ⟨g, 0, none⟩), .int .i64 d] w fun e w' => ScEnd w g s (f + 1) L p e w' := by
 have e1 : ((s[p].toNat : Int) == 117) = false := beq_eq_false_iff_ne.2 (by omega)
 have e2 : ((s[p].toNat : Int) == 98) = true := beq_iff_eq.2 (by omega)
 have e3 : ((s[p].toNat : Int) == 115) = false := beq_eq_false_iff_ne.2 (by omega)
 have HTI : Hid (tItem (f + 1) (s.data.toList.drop p) = numK 2 (numR (s.data.toList.drop (p + 1)))) := Lib.hid (by rw [numR_u8 (c := 98) hp hc, tItem_b])
 have HW0 := Lib.hid (ScW.start h)
 generalize hW : ((w.alloc (.cells #[.pointer (some ⟨g, 0, none⟩)] 105)).alloc (.cells #[.int .i64 0, .int .i64 0, .slice none 0 0, .int .i64 0] 55)) = W at *
 obtain ⟨g0, g1, g2, f0, f1, f2, hgl⟩ := HW0.out.rd.cells
 have b0 : W.cell? ⟨w.heap.size, 0, none⟩ = some (.pointer (some ⟨g, 0, none⟩)) := HW0.out.box.cell 0
 have hgw := HW0.out.glt
 have d1 : decide ((8 : Int) < (d : Int)) = false := decide_eq_false (by omega)
 have dL : ((L : Int) == 0) = false := beq_eq_false_iff_ne.2 (by omega)
 have dp : ((p : Int) == (s.size : Int)) = false := beq_eq_false_iff_ne.2 (by omega)
 have ew : IntKind.i64.wrap ((L : Int) - 1) = (L : Int) - 1 := IntWalk.i64_in _ (by omega)
 have hb256 := s[p].toNat_lt
 clear h
 go_enter Tryz.func59, Tryz.ntmps59
 go_wp2_with fail
 go_quiet (fail)
 obtain ⟨nqa, rfl⟩ : ∃ nqa, nqa = nq := ⟨nq, rfl⟩
 go_wp2_with fail
 go_quiet (fail)
 have HWQ := Lib.hid (HW0.out.step ((L : Int) - 1) ((p : Int) + 1) nqa nq (L' := L - 1) (p' := p + 1) (by omega) (by omega))
 go_wp2_with fail
 refine (scSized_c g w.heap.size s (p + 1) (L - 1) 65536 2 _ HWQ.out.rd HWQ.out.box (by omega) hs (by omega)).mono ?_
 rintro e w1 ⟨n, ok, q, rfl, hr, ho, hn⟩
 have HW1 := Lib.hid (HWQ.out.turn ho hr)
 have HNI := Lib.hid hn
 clear hr ho hn
 obtain ⟨n0, n1, n2, n3, m0, m1, m2, m3⟩ := blk4 HW1.out.res
 obtain ⟨e1', e2', y0, y1, y2, y3⟩ := HW1.out.ends (.int .i64 2) (.int .i64 n) (.slice none 0 0) (.int .i64 0)
 have E1 := Lib.hid e1'
 have E2 := Lib.hid e2'
 clear e1' e2'
 go_wp2
 refine bodyPost_ret (v := .tuple #[.agg #[.int .i64 2, .int .i64 n, .slice none 0 0, .int .i64 0], .bool ok]) (by simp [results, Tryz.results59, go_sem, y0, y1, y2, y3]) rfl ?_
 exact ⟨.mk 2 n [] 0, ok, q, L - 1, _, _, _, _, _, _, rfl, E1.out, E2.out, by omega, scIs_k hL HTI.out bad_b HNI.out, fun hok => TyS.leaf (okI_small (by omega) (by omega)) (okI_small (by omega) (by have := (HNI.out.1 hok).2.1; omega)) (okI_small (by omega) (by omega))⟩
theorem scRead_s (f d : Nat) (hd : d ≤ 8) (g : Nat) (s : ByteArray) (p L : Nat) (w : World) (h : Scr w g s p L) (hp : p < s.size) (hs : s.size ≤ 100000) (hL : 0 < L) (hL2 : L ≤ 64) (hc : s[p].toNat = 115) :
 Calls Tryz.prog 59 #[.pointer (some ⟨g, 0, none⟩), .int .i64 d] w fun e w' => ScEnd w g s (f + 1) L p e w' := by
 have e1 : ((s[p].toNat : Int) == 117) = false := beq_eq_false_iff_ne.2 (by omega)
 have e2 : ((s[p].toNat : Int) == 98) = false := beq_eq_false_iff_ne.2 (by omega)
 have e3 : ((s[p].toNat : Int) == 115) = true := beq_iff_eq.2 (by omega)
 have HTI : Hid (tItem (f + 1) (s.data.toList.drop p) = numK 3 (numR (s.data.toList.drop (p + 1)))) := Lib.hid (by rw [numR_u8 (c := 115) hp hc, tItem_s])
 have HW0 := Lib.hid (ScW.start h)
 generalize hW : ((w.alloc (.cells #[.pointer (some ⟨g, 0, none⟩)] 105)).alloc (.cells #[.int .i64 0, .int .i64 0, .slice none 0 0, .int .i64 0] 55)) = W at *
 obtain ⟨g0, g1, g2, f0, f1, f2, hgl⟩ := HW0.out.rd.cells
 have b0 : W.cell? ⟨w.heap.size, 0, none⟩ = some (.pointer (some ⟨g, 0, none⟩)) := HW0.out.box.cell 0
 have hgw := HW0.out.glt
 have d1 : decide ((8 : Int) < (d : Int)) = false := decide_eq_false (by omega)
 have dL : ((L : Int) == 0) = false := beq_eq_false_iff_ne.2 (by omega)
 have dp : ((p : Int) == (s.size : Int)) = false := beq_eq_false_iff_ne.2 (by omega)
 have ew : IntKind.i64.wrap ((L : Int) - 1) = (L : Int) - 1 := IntWalk.i64_in _ (by omega)
 have hb256 := s[p].toNat_lt
 clear h
 go_enter Tryz.func59, Tryz.ntmps59
 go_wp2_with fail
 go_quiet (fail)
 obtain ⟨nqa, rfl⟩ : ∃ nqa, nqa = nq := ⟨nq, rfl⟩
 go_wp2_with fail
 go_quiet (fail)
 have HWQ := Lib.hid (HW0.out.step ((L : Int) - 1) ((p : Int) + 1) nqa nq (L' := L - 1) (p' := p + 1) (by omega) (by omega))
 go_wp2_with fail
 refine (scSized_c g w.heap.size s (p + 1) (L - 1) 65536 3 _ HWQ.out.rd HWQ.out.box (by omega) hs (by omega)).mono ?_
 rintro e w1 ⟨n, ok, q, rfl, hr, ho, hn⟩
 have HW1 := Lib.hid (HWQ.out.turn ho hr)
 have HNI := Lib.hid hn
 clear hr ho hn
 obtain ⟨n0, n1, n2, n3, m0, m1, m2, m3⟩ := blk4 HW1.out.res
 obtain ⟨e1', e2', y0, y1, y2, y3⟩ := HW1.out.ends (.int .i64 3) (.int .i64 n) (.slice none 0 0) (.int .i64 0)
 have E1 := Lib.hid e1'
 have E2 := Lib.hid e2'
 clear e1' e2'
 go_wp2
 refine bodyPost_ret (v := .tuple #[.agg #[.int .i64 3, .int .i64 n, .slice none 0 0, .int .i64 0], .bool ok]) (by simp [results, Tryz.results59, go_sem, y0, y1, y2, y3]) rfl ?_
 exact ⟨.mk 3 n [] 0, ok, q, L - 1, _, _, _, _, _, _, rfl, E1.out, E2.out, by omega, scIs_k hL HTI.out bad_s HNI.out, fun hok => TyS.leaf (okI_small (by omega) (by omega)) (okI_small (by omega) (by have := (HNI.out.1 hok).2.1; omega)) (okI_small (by omega) (by omega))⟩
theorem scRead_no (f d : Nat) (hd : d ≤ 8) (g : Nat) (s : ByteArray) (p L : Nat) (w : World) (h : Scr w g s p L) (hp : p < s.size) (hs : s.size ≤ 100000) (hL : 0 < L) (hL2 : L ≤ 64) (h1 : s[p].toNat ≠ 117) (h2 : s[p].toNat ≠ 98) (h3 : s[p].toNat ≠ 115) (h4 : s[p].toNat ≠ 91) (h5 : s[p].toNat ≠ 123) :
 Calls Tryz.prog 59 #[.pointer (some ⟨g, 0, none⟩), .int .i64 d] w fun e w' => ScEnd w g s (f + 1) L p e w' := by
 have e1 : ((s[p].toNat : Int) == 117) = false := beq_eq_false_iff_ne.2 (by omega)
 have e2 : ((s[p].toNat : Int) == 98) = false := beq_eq_false_iff_ne.2 (by omega)
 have e3 : ((s[p].toNat : Int) == 115) = false := beq_eq_false_iff_ne.2 (by omega)
 have e4 : ((s[p].toNat : Int) == 91) = false := beq_eq_false_iff_ne.2 (by omega)
 have e5 : ((s[p].toNat : Int) == 123) = false := beq_eq_false_iff_ne.2 (by omega)
 have HTI : Hid (tItem (f + 1) (s.data.toList.drop p) = none) := Lib.hid (by rw [drop_cons s p hp]; exact tItem_no f _ _ h1 h2 h3 h4 h5)
 clear h1 h2 h3 h4 h5
 have HW0 := Lib.hid (ScW.start h)
 generalize hW : ((w.alloc (.cells #[.pointer (some ⟨g, 0, none⟩)] 105)).alloc (.cells #[.int .i64 0, .int .i64 0, .slice none 0 0, .int .i64 0] 55)) = W at *
 obtain ⟨g0, g1, g2, f0, f1, f2, hgl⟩ := HW0.out.rd.cells
 have b0 : W.cell? ⟨w.heap.size, 0, none⟩ = some (.pointer (some ⟨g, 0, none⟩)) := HW0.out.box.cell 0
 have hgw := HW0.out.glt
 have d1 : decide ((8 : Int) < (d : Int)) = false := decide_eq_false (by omega)
 have dL : ((L : Int) == 0) = false := beq_eq_false_iff_ne.2 (by omega)
 have dp : ((p : Int) == (s.size : Int)) = false := beq_eq_false_iff_ne.2 (by omega)
 have ew : IntKind.i64.wrap ((L : Int) - 1) = (L : Int) - 1 := IntWalk.i64_in _ (by omega)
 have hb256 := s[p].toNat_lt
 clear h
 go_enter Tryz.func59, Tryz.ntmps59
 go_wp2_with fail
 go_quiet (fail)
 obtain ⟨nqa, rfl⟩ : ∃ nqa, nqa = nq := ⟨nq, rfl⟩
 go_wp2_with fail
 go_quiet (fail)
 have HWQ := Lib.hid (HW0.out.step ((L : Int) - 1) ((p : Int) + 1) nqa nq (L' := L - 1) (p' := p + 1) (by omega) (by omega))
 obtain ⟨n0, n1, n2, n3, m0, m1, m2, m3⟩ := blk4 HW0.out.res
 obtain ⟨e1', e2', y0, y1, y2, y3⟩ := HWQ.out.ends (.int .i64 0) (.int .i64 0) (.slice none 0 0) (.int .i64 0)
 have E1 := Lib.hid e1'
 have E2 := Lib.hid e2'
 clear e1' e2'
 go_wp2
 refine bodyPost_ret (v := .tuple #[.agg #[.int .i64 0, .int .i64 0, .slice none 0 0, .int .i64 0], .bool false]) (by simp [results, Tryz.results59, go_sem, y0, y1, y2, y3]) rfl ?_
 exact ⟨.mk 0 0 [] 0, false, p + 1, L - 1, _, _, _, _, _, _, rfl, E1.out, E2.out, by omega, ⟨(by intro h; cases h), (by intro _ t' r h; rw [HTI.out] at h; cases h), by omega⟩, (by intro h; cases h)⟩
theorem scIs_u {f L : Nat} {s : ByteArray} {p n q : Nat} {ok : Bool} (hL : 0 < L) (ht : tItem (f + 1) (s.data.toList.drop p) = numU (numR (s.data.toList.drop (p + 1)))) (h : NumIs 64 s (p + 1) n ok q) : ScIs (f + 1) L s p (.mk 1 ((n / 8 : Nat) : Int) [] 0) (ok && decide (n % 8 = 0)) q (L - 1) := by
 refine ⟨fun ho => ?_, fun ho t' r htr => ?_, h.2.2.1⟩
 ·simp only [Bool.and_eq_true, decide_eq_true_eq] at ho
  obtain ⟨h1, h2, h3⟩ := h.1 ho.1
  exact ⟨by rw [ht, h1, numU, if_pos ho.2], by simp [Ty.count, countT]; omega, by omega⟩
 ·rw [ht] at htr
  cases ok with
  | false => exact bad_u (h.2.1 rfl) L t' r htr
  | true =>
   obtain ⟨h1, h2, h3⟩ := h.1 rfl
   have h8 : ¬ n % 8 = 0 := by simpa using ho
   rw [h1, numU, if_neg h8] at htr
   cases htr
theorem scRead_u (f d : Nat) (hd : d ≤ 8) (g : Nat) (s : ByteArray) (p L : Nat) (w : World) (h : Scr w g s p L) (hp : p < s.size) (hs : s.size ≤ 100000) (hL : 0 < L) (hL2 : L ≤ 64) (hc : s[p].toNat = 117) :
 Calls Tryz.prog 59 #[.pointer (some ⟨g, 0, none⟩), .int .i64 d] w fun e w' => ScEnd w g s (f + 1) L p e w' := by
 have e1 : ((s[p].toNat : Int) == 117) = true := beq_iff_eq.2 (by omega)
 have HTI : Hid (tItem (f + 1) (s.data.toList.drop p) = numU (numR (s.data.toList.drop (p + 1)))) := Lib.hid (by rw [numR_u8 (c := 117) hp hc, tItem_u])
 have HW0 := Lib.hid (ScW.start h)
 generalize hW : ((w.alloc (.cells #[.pointer (some ⟨g, 0, none⟩)] 105)).alloc (.cells #[.int .i64 0, .int .i64 0, .slice none 0 0, .int .i64 0] 55)) = W at *
 obtain ⟨g0, g1, g2, f0, f1, f2, hgl⟩ := HW0.out.rd.cells
 have b0 : W.cell? ⟨w.heap.size, 0, none⟩ = some (.pointer (some ⟨g, 0, none⟩)) := HW0.out.box.cell 0
 have hgw := HW0.out.glt
 have d1 : decide ((8 : Int) < (d : Int)) = false := decide_eq_false (by omega)
 have dL : ((L : Int) == 0) = false := beq_eq_false_iff_ne.2 (by omega)
 have dp : ((p : Int) == (s.size : Int)) = false := beq_eq_false_iff_ne.2 (by omega)
 have ew : IntKind.i64.wrap ((L : Int) - 1) = (L : Int) - 1 := IntWalk.i64_in _ (by omega)
 have hb256 := s[p].toNat_lt
 clear h
 go_enter Tryz.func59, Tryz.ntmps59
 go_wp2_with fail
 go_quiet (fail)
 obtain ⟨nqa, rfl⟩ : ∃ nqa, nqa = nq := ⟨nq, rfl⟩
 go_wp2_with fail
 go_quiet (fail)
 have HWQ := Lib.hid (HW0.out.step ((L : Int) - 1) ((p : Int) + 1) nqa nq (L' := L - 1) (p' := p + 1) (by omega) (by omega))
 go_wp2_with fail
 refine (scSized_c g w.heap.size s (p + 1) (L - 1) 64 1 _ HWQ.out.rd HWQ.out.box (by omega) hs (by omega)).mono ?_
 rintro e w1 ⟨n, ok, q, rfl, hr, ho, hn⟩
 have HW1 := Lib.hid (HWQ.out.turn ho hr)
 have HNI := Lib.hid hn
 obtain ⟨n8, hn8⟩ : ∃ n8, n / 8 = n8 := ⟨_, rfl⟩
 have e8 : (n : Int) / 8 = n8 := by omega
 have HSC := Lib.hid (scIs_u hL HTI.out hn)
 rw [hn8] at HSC
 have hn64 : n8 ≤ 8 := by have := hn.2.2.2; omega
 clear hr ho hn hn8
 obtain ⟨n0, n1, n2, n3, m0, m1, m2, m3⟩ := blk4 HW1.out.res
 have hsz1 := HW1.out.siz
 have hne1 : ¬ w1.heap.size = w.heap.size + 1 := by omega
 have hlt1 : w.heap.size + 1 < w1.heap.size := by omega
 by_cases h8 : n % 8 = 0
 ·have hm : ((n : Int) % 8 == 0) = true := beq_iff_eq.2 (by omega)
  rw [decide_eq_true h8, Bool.and_true] at HSC
  cases ok with
  | true =>
   go_wp2
   obtain ⟨E1, E2, y0, y1, y2, y3⟩ := HW1.out.ends (.int .i64 1) (.int .i64 n8) (.slice none 0 0) (.int .i64 0)
   refine bodyPost_ret (v := .tuple #[.agg #[.int .i64 1, .int .i64 n8, .slice none 0 0, .int .i64 0], .bool true]) (by simp [results, Tryz.results59, go_sem, y0, y1, y2, y3, World.cell?_alloc_lt, hlt1]) rfl ?_
   exact ⟨.mk 1 n8 [] 0, true, q, L - 1, _, _, _, _, _, _, rfl, Blk.alloc (show Blk _ g _ _ from E1) _, E2.alloc _, by omega, HSC.out, fun hok => TyS.leaf (okI_small (by omega) (by omega)) (okI_small (by omega) (by omega)) (okI_small (by omega) (by omega))⟩
  | false =>
   go_wp2
   obtain ⟨E1, E2, y0, y1, y2, y3⟩ := HW1.out.ends (.int .i64 1) (.int .i64 n8) (.slice none 0 0) (.int .i64 0)
   refine bodyPost_ret (v := .tuple #[.agg #[.int .i64 1, .int .i64 n8, .slice none 0 0, .int .i64 0], .bool false]) (by simp [results, Tryz.results59, go_sem, y0, y1, y2, y3, World.cell?_alloc_lt, hlt1]) rfl ?_
   exact ⟨.mk 1 n8 [] 0, false, q, L - 1, _, _, _, _, _, _, rfl, Blk.alloc (show Blk _ g _ _ from E1) _, E2.alloc _, by omega, HSC.out, fun hok => TyS.leaf (okI_small (by omega) (by omega)) (okI_small (by omega) (by omega)) (okI_small (by omega) (by omega))⟩
 ·have hm : ((n : Int) % 8 == 0) = false := beq_eq_false_iff_ne.2 (by omega)
  rw [decide_eq_false h8, Bool.and_false] at HSC
  cases ok with
  | true =>
   go_wp2
   obtain ⟨E1, E2, y0, y1, y2, y3⟩ := HW1.out.ends (.int .i64 1) (.int .i64 n8) (.slice none 0 0) (.int .i64 0)
   refine bodyPost_ret (v := .tuple #[.agg #[.int .i64 1, .int .i64 n8, .slice none 0 0, .int .i64 0], .bool false]) (by simp [results, Tryz.results59, go_sem, y0, y1, y2, y3, World.cell?_alloc_lt, hlt1]) rfl ?_
   exact ⟨.mk 1 n8 [] 0, false, q, L - 1, _, _, _, _, _, _, rfl, Blk.alloc (show Blk _ g _ _ from E1) _, E2.alloc _, by omega, HSC.out, fun hok => TyS.leaf (okI_small (by omega) (by omega)) (okI_small (by omega) (by omega)) (okI_small (by omega) (by omega))⟩
  | false =>
   go_wp2
   obtain ⟨E1, E2, y0, y1, y2, y3⟩ := HW1.out.ends (.int .i64 1) (.int .i64 n8) (.slice none 0 0) (.int .i64 0)
   refine bodyPost_ret (v := .tuple #[.agg #[.int .i64 1, .int .i64 n8, .slice none 0 0, .int .i64 0], .bool false]) (by simp [results, Tryz.results59, go_sem, y0, y1, y2, y3, World.cell?_alloc_lt, hlt1]) rfl ?_
   exact ⟨.mk 1 n8 [] 0, false, q, L - 1, _, _, _, _, _, _, rfl, Blk.alloc (show Blk _ g _ _ from E1) _, E2.alloc _, by omega, HSC.out, fun hok => TyS.leaf (okI_small (by omega) (by omega)) (okI_small (by omega) (by omega)) (okI_small (by omega) (by omega))⟩
theorem tList_some {o : Option (Ty × List UInt8)} {t : Ty} {r : List UInt8} (h : tList o = some (t, r)) : ∃ x r0, o = some (x, r0) ∧ tTail x r0 = some (t, r) := by
 match o, h with
 | some (x, r0), h => exact ⟨x, r0, rfl, h⟩
theorem scIs_l_sub {f L L1 : Nat} {s : ByteArray} {p q q' : Nat} {x y : Ty} (hL : 0 < L) (ht : tItem (f + 1) (s.data.toList.drop p) = tList (tItem f (s.data.toList.drop (p + 1)))) (h : ScIs f (L - 1) s (p + 1) x false q L1) (hq : q' ≤ s.size) : ScIs (f + 1) L s p y false q' L1 := by
 refine ⟨(by intro h; cases h), fun _ t' r htr => ?_, hq⟩
 rw [ht] at htr
 obtain ⟨z, r0, h1, h2⟩ := tList_some htr
 obtain ⟨n, rfl⟩ := tail_list h2
 have := (h.2.1 rfl z r0 h1).list n
 rwa [show 1 + (L - 1) = L from by omega] at this
theorem scIs_l_bad {f L L1 L2 : Nat} {s : ByteArray} {p q q' : Nat} {x y : Ty} (ht : tItem (f + 1) (s.data.toList.drop p) = tList (tItem f (s.data.toList.drop (p + 1)))) (h : ScIs f (L - 1) s (p + 1) x true q L1) (hb : ∀ t' r, tTail x (s.data.toList.drop q) = some (t', r) → TyBad L t') (hq : q' ≤ s.size) : ScIs (f + 1) L s p y false q' L2 := by
 refine ⟨(by intro h; cases h), fun _ t' r htr => ?_, hq⟩
 rw [ht, (h.1 rfl).1] at htr
 exact hb t' r htr
theorem scIs_l_yes {f L L1 : Nat} {s : ByteArray} {p q q' n : Nat} {x : Ty} (hL : 0 < L) (ht : tItem (f + 1) (s.data.toList.drop p) = tList (tItem f (s.data.toList.drop (p + 1)))) (h : ScIs f (L - 1) s (p + 1) x true q L1) (hb : tTail x (s.data.toList.drop q) = some (.mk 4 n [x] 0, s.data.toList.drop q')) (hlt : q < q') (hq : q' ≤ s.size) : ScIs (f + 1) L s p (.mk 4 n [x] 0) true q' L1 := by
 obtain ⟨h1, h2, h3⟩ := h.1 rfl
 refine ⟨fun _ => ⟨by rw [ht, h1]; exact hb, ?_, by omega⟩, (by intro h; cases h), hq⟩
 simp only [Ty.count, countT]
 omega
theorem tail_not {s : ByteArray} {q : Nat} (x : Ty) (h : ∀ hq : q < s.size, s[q].toNat ≠ 58) (L : Nat) : ∀ t' r, tTail x (s.data.toList.drop q) = some (t', r) → TyBad L t' := by
 intro t' r ht
 by_cases hq : q < s.size
 ·rw [drop_cons s q hq, tTail_no x _ _ (h hq)] at ht
  cases ht
 ·rw [List.drop_eq_nil_of_le (by simpa using hq)] at ht
  cases ht
theorem tail_at {s : ByteArray} {q : Nat} (x : Ty) (hq : q < s.size) (h : s[q].toNat = 58) : tTail x (s.data.toList.drop q) = tClose x (numR (s.data.toList.drop (q + 1))) := by
 rw [drop_cons s q hq, show s[q] = 58 from UInt8.toNat_inj.1 h, tTail_colon]
theorem tail_num {s : ByteArray} {q n q2 : Nat} (x : Ty) (hq : q < s.size) (h : s[q].toNat = 58) (hn : NumIs 1024 s (q + 1) n false q2) (L : Nat) : ∀ t' r, tTail x (s.data.toList.drop q) = some (t', r) → TyBad L t' := by
 intro t' r ht
 rw [tail_at x hq h] at ht
 exact bad_close (hn.2.1 rfl) L x t' r ht
theorem tail_open {s : ByteArray} {q n q2 : Nat} (x : Ty) (hq : q < s.size) (h : s[q].toNat = 58) (hn : NumIs 1024 s (q + 1) n true q2) (hb : ∀ hq : q2 < s.size, s[q2].toNat ≠ 93) (L : Nat) : ∀ t' r, tTail x (s.data.toList.drop q) = some (t', r) → TyBad L t' := by
 intro t' r ht
 rw [tail_at x hq h, (hn.1 rfl).1] at ht
 by_cases h2 : q2 < s.size
 ·rw [drop_cons s q2 h2, tClose] at ht
  split at ht
  ·rename_i h3
   exact absurd (by first | exact h3 | simpa using h3 | (rw [h3]; rfl)) (hb h2)
  ·cases ht
 ·rw [List.drop_eq_nil_of_le (by simpa using h2)] at ht
  cases ht
theorem tail_yes {s : ByteArray} {q n q2 : Nat} (x : Ty) (hq : q < s.size) (h : s[q].toNat = 58) (hn : NumIs 1024 s (q + 1) n true q2) (h2 : q2 < s.size) (hb : s[q2].toNat = 93) : tTail x (s.data.toList.drop q) = some (.mk 4 n [x] 0, s.data.toList.drop (q2 + 1)) := by
 rw [tail_at x hq h, (hn.1 rfl).1, drop_cons s q2 h2, tClose, if_pos (by first | exact hb | exact UInt8.toNat_inj.1 hb)]
theorem tItem_end (f : Nat) {s : ByteArray} {q : Nat} (h : s.size ≤ q) : tItem f (s.data.toList.drop q) = none := by
 rw [List.drop_eq_nil_of_le (by simpa using h)]
 cases f <;> rfl
theorem TSep.gone {f : Nat} {s : ByteArray} {R : Option (Ty × List UInt8)} {q : Nat} {acc : List Ty} {tl : Nat} (hR : R = none) (h : s.size ≤ q) : TSep f s R q acc tl := by
 refine ⟨0, ?_, by rw [List.drop_eq_nil_of_le (by simpa using h)]; simp⟩
 subst hR
 have hi := tItem_end f h
 rw [List.drop_eq_nil_of_le (by simpa using h)] at hi ⊢
 by_cases h0 : 0 < tl
 ·simp [tQ, h0]
 ·simp [tQ, h0, hi]
theorem tsep_start {f : Nat} {s : ByteArray} {R : Option (Ty × List UInt8)} {p : Nat} (h : TLoop f s R p [] 0) (hn : ∀ hp : p < s.size, s[p].toNat ≠ 125) : TSep f s R p [] 0 := by
 by_cases hp : p < s.size
 ·exact h.first hp (hn hp)
 ·exact TSep.gone (h.stop (by omega)) (by omega)
theorem tloop_bad {f : Nat} {s : ByteArray} {R : Option (Ty × List UInt8)} {p : Nat} {acc : List Ty} {tl : Nat} (h : TLoop f s R p acc tl) (ha : acc ≠ []) (h1 : ∀ hp : p < s.size, s[p].toNat ≠ 125) (h2 : ∀ hp : p < s.size, s[p].toNat ≠ 44) : R = none := by
 by_cases hp : p < s.size
 ·exact h.bad hp (h1 hp) (h2 hp) ha
 ·exact h.stop (by omega)
theorem tat_yes {f L L' : Nat} {s : ByteArray} {R : Option (Ty × List UInt8)} {q q' : Nat} {acc : List Ty} {tl : Nat} {y : Ty} (h : TAt f s R q acc tl) (hq : q ≤ s.size) (hy : ScIs f L s q y true q' L') : TLoop f s R q' (acc ++ [y]) tl := by
 obtain ⟨h1, _, _⟩ := hy.1 rfl
 have h2 := (h.some hq h1).1
 rw [List.length_drop, toList_size, show s.size - (s.size - q') = q' from by have := hy.2.2; omega] at h2
 exact h2
theorem countT_snoc (acc : List Ty) (y : Ty) : countT (acc ++ [y]) = countT acc + y.count := by simp [countT_append, countT]
theorem fs_yes {L L0 : Nat} {s : ByteArray} {R : Option (Ty × List UInt8)} {q : Nat} {acc : List Ty} {tl : Nat} (hR : R = some (.mk 5 0 acc tl, s.data.toList.drop q)) (hL : L + countT acc = L0) (hq : q ≤ s.size) : ScFs (1 + L0) s R (.mk 5 0 acc tl) true q L :=
 ⟨fun _ => ⟨hR, by simp [Ty.count]; omega⟩, (by intro h; cases h), hq⟩
theorem fs_none {L L0 : Nat} {s : ByteArray} {R : Option (Ty × List UInt8)} {q : Nat} (t : Ty) (hR : R = none) (hq : q ≤ s.size) : ScFs L0 s R t false q L :=
 ⟨(by intro h; cases h), (by intro _ t' r h; rw [hR] at h; cases h), hq⟩
theorem fs_bad {f L L0 L2 : Nat} {s : ByteArray} {R : Option (Ty × List UInt8)} {q q' L' : Nat} {acc : List Ty} {tl : Nat} {y : Ty} (t : Ty) (h : TAt f s R q acc tl) (hy : ScIs f L s q y false q' L') (hL : L + countT acc = L0) : ScFs (1 + L0) s R t false q' L2 := by
 refine ⟨(by intro h; cases h), fun _ t' r hR => ?_, hy.2.2⟩
 have := tAt_bad h (hy.2.1 rfl) t' r hR
 rwa [show 1 + countT acc + L = 1 + L0 from by omega] at this
theorem fs_start {f : Nat} {s : ByteArray} {p : Nat} (hp : p < s.size) (hc : s[p].toNat = 123) : TLoop f s (tItem (f + 1) (s.data.toList.drop p)) (p + 1) [] 0 :=
 ⟨_, by rw [numR_u8 (c := 123) hp hc, tItem_t], by omega⟩
theorem fs_is {f L L' : Nat} {s : ByteArray} {p q : Nat} {t : Ty} {ok : Bool} (h : ScFs L s (tItem f (s.data.toList.drop p)) t ok q L') : ScIs f L s p t ok q L' := by
 refine ⟨fun ho => ?_, h.2.1, h.2.2⟩
 obtain ⟨h1, h2⟩ := h.1 ho
 have h3 := (tItem_sfx _ _ _ _ h1).2
 simp only [List.length_drop, toList_size] at h3
 exact ⟨h1, h2, by have := h.2.2; omega⟩
theorem dropT (s : ByteArray) (k : Nat) (h : k ≤ s.size) : s.size - (s.data.toList.drop k).length = k := by rw [List.length_drop, toList_size]; omega
theorem w64_in (x : Int) (h1 : -9223372036854775808 ≤ x) (h2 : x ≤ 9223372036854775807) : wrap64 x = x := by unfold wrap64; omega
theorem wrap_dig (m b : Nat) (h : m < 1000000) (h1 : 48 ≤ b) (h2 : b ≤ 57) : wrap64 (wrap64 (wrap64 (10 * (m : Int)) + wrap64 (b : Int)) - 48) = ((10 * m + (b - 48) : Nat) : Int) := by
 rw [w64_in (10 * (m : Int)) (by omega) (by omega), w64_in (b : Int) (by omega) (by omega), w64_in (10 * (m : Int) + b) (by omega) (by omega), w64_in _ (by omega) (by omega)]
 omega
def numEnd (s : ByteArray) : Option (Nat × List UInt8) → Ending
 | none => .returned (.tuple #[.int .i64 0, .int .i64 (-1)])
 | some (n, r) => .returned (.tuple #[.int .i64 n, .int .i64 ((s.size - r.length : Nat) : Int)])
theorem digits20_c (s : ByteArray) (at_ : Nat) (w : World) (hat : at_ ≤ s.size) (hs : s.size ≤ 100000) :
 Calls Tryz.prog 61 #[.string s, .int .i64 at_] w fun e w' => e = numEnd s (numR (s.data.toList.drop at_)) ∧ w = w' := by
 obtain ⟨R, HR⟩ : ∃ R, Hid (numEnd s (numR (s.data.toList.drop at_)) = R) := ⟨_, Lib.hid rfl⟩
 rw [HR.out]
 go_enter Tryz.func61, Tryz.ntmps61
 go_wp2_with fail
 go_loop [6, 1] (fun n i => ∃ k m : Nat, at_ ≤ k ∧ k ≤ s.size ∧ m ≤ 10000100 ∧ Hid (DgRel s at_ k m) ∧ n = .int .i64 m ∧ i = .int .i64 k) (fun _ i => s.size - (intOf i).toNat)
 case atStart => exact ⟨at_, 0, by omega, hat, by omega, Lib.hid (DgRel.start s at_), rfl, rfl⟩
 case round =>
  obtain ⟨k, m, hka, hk, hm, hrel, rfl, rfl⟩ := hrel
  by_cases hlt : k < s.size
  ·by_cases h1 : 48 ≤ s[k].toNat
   ·by_cases h2 : s[k].toNat ≤ 57
    ·have HD := Lib.hid (hrel.out.next hlt ((isDig_iff _).2 ⟨h1, h2⟩))
     have HST := Lib.hid (digStep_le m s[k] hm h2)
     have e7 : decide ((48 : Int) ≤ (s[k].toNat : Int)) = true := decide_eq_true (by omega)
     have e8 : decide ((s[k].toNat : Int) ≤ 57) = true := decide_eq_true (by omega)
     have H1 := Lib.hid h1
     have H2 := Lib.hid h2
     clear h1 h2
     by_cases h3 : m < 1000000
     ·have HS : Hid (digStep m s[k] = 10 * m + (s[k].toNat - 48)) := Lib.hid (by simp [digStep, h3])
      have e6 : decide ((m : Int) < 1000000) = true := decide_eq_true (by omega)
      have H3 := Lib.hid h3
      have HM := Lib.hid hm
      clear h3 hm
      go_wp2_with fail
      go_round
      case rel => exact ⟨k + 1, digStep m s[k], by omega, by omega, HST.out, HD, by rw [HS.out]; have hh1 := H1.out; have hh2 := H2.out; have hh3 := H3.out; rw [wrap_dig m s[k].toNat hh3 hh1 hh2], by go_num⟩
      case measure => simp [intOf]; omega
     ·have HS : Hid (digStep m s[k] = m) := Lib.hid (by simp [digStep, h3])
      have e6 : decide ((m : Int) < 1000000) = false := decide_eq_false (by omega)
      have HM := Lib.hid hm
      clear h3 hm
      go_wp2_with fail
      go_round
      case rel => exact ⟨k + 1, digStep m s[k], by omega, by omega, HST.out, HD, by rw [HS.out], by go_num⟩
      case measure => simp [intOf]; omega
    ·have HN : Hid (∀ h : k < s.size, isDig s[k] = false) := Lib.hid (fun h => by simp [isDig]; omega)
     have e7 : decide ((s[k].toNat : Int) ≤ 57) = false := decide_eq_false (by omega)
     rcases (show k = at_ ∨ at_ < k from by omega) with rfl | hak
     ·have HE : Hid (R = .returned (.tuple #[.int .i64 0, .int .i64 (-1)])) := Lib.hid (by rw [← HR.out, numR_stop HN.out]; rfl)
      go_wp2
      all_goals
       go_ret2
       exact ⟨by rw [HE.out]; rfl, rfl⟩
     ·have hlt0 : at_ < s.size := (hrel.out.2 at_ (by omega) hak).1
      have e9 : ((k : Int) == (at_ : Int)) = false := beq_eq_false_iff_ne.2 (by omega)
      by_cases h48 : s[at_].toNat = 48
      ·have e8 : ((s[at_].toNat : Int) == 48) = true := by simp [h48]
       by_cases hk2 : at_ + 1 < k
       ·have HE : Hid (R = .returned (.tuple #[.int .i64 0, .int .i64 (-1)])) := Lib.hid (by rw [← HR.out, numR_zero hrel.out hk2 (fun _ => h48)]; rfl)
        clear h48
        go_wp2
        all_goals
         go_ret2
         exact ⟨by rw [HE.out]; rfl, rfl⟩
       ·have HE : Hid (R = .returned (.tuple #[.int .i64 m, .int .i64 k])) := Lib.hid (by rw [← HR.out, numR_is hrel.out hak HN.out (fun h => absurd h hk2)]; simp only [numEnd, dropT s k hk])
        clear h48
        go_wp2
        all_goals
         go_ret2
         exact ⟨by rw [HE.out]; rfl, rfl⟩
      ·have e8 : ((s[at_].toNat : Int) == 48) = false := beq_eq_false_iff_ne.2 (by omega)
       have HE : Hid (R = .returned (.tuple #[.int .i64 m, .int .i64 k])) := Lib.hid (by rw [← HR.out, numR_is hrel.out hak HN.out (fun _ _ => h48)]; simp only [numEnd, dropT s k hk])
       clear h48
       go_wp2
       all_goals
        go_ret2
        exact ⟨by rw [HE.out]; rfl, rfl⟩
   ·have HN : Hid (∀ h : k < s.size, isDig s[k] = false) := Lib.hid (fun h => by simp [isDig]; omega)
    have e7 : decide ((48 : Int) ≤ (s[k].toNat : Int)) = false := decide_eq_false (by omega)
    rcases (show k = at_ ∨ at_ < k from by omega) with rfl | hak
    ·have HE : Hid (R = .returned (.tuple #[.int .i64 0, .int .i64 (-1)])) := Lib.hid (by rw [← HR.out, numR_stop HN.out]; rfl)
     go_wp2
     all_goals
      go_ret2
      exact ⟨by rw [HE.out]; rfl, rfl⟩
    ·have hlt0 : at_ < s.size := (hrel.out.2 at_ (by omega) hak).1
     have e9 : ((k : Int) == (at_ : Int)) = false := beq_eq_false_iff_ne.2 (by omega)
     by_cases h48 : s[at_].toNat = 48
     ·have e8 : ((s[at_].toNat : Int) == 48) = true := by simp [h48]
      by_cases hk2 : at_ + 1 < k
      ·have HE : Hid (R = .returned (.tuple #[.int .i64 0, .int .i64 (-1)])) := Lib.hid (by rw [← HR.out, numR_zero hrel.out hk2 (fun _ => h48)]; rfl)
       clear h48
       go_wp2
       all_goals
        go_ret2
        exact ⟨by rw [HE.out]; rfl, rfl⟩
      ·have HE : Hid (R = .returned (.tuple #[.int .i64 m, .int .i64 k])) := Lib.hid (by rw [← HR.out, numR_is hrel.out hak HN.out (fun h => absurd h hk2)]; simp only [numEnd, dropT s k hk])
       clear h48
       go_wp2
       all_goals
        go_ret2
        exact ⟨by rw [HE.out]; rfl, rfl⟩
     ·have e8 : ((s[at_].toNat : Int) == 48) = false := beq_eq_false_iff_ne.2 (by omega)
      have HE : Hid (R = .returned (.tuple #[.int .i64 m, .int .i64 k])) := Lib.hid (by rw [← HR.out, numR_is hrel.out hak HN.out (fun _ _ => h48)]; simp only [numEnd, dropT s k hk])
      clear h48
      go_wp2
      all_goals
       go_ret2
       exact ⟨by rw [HE.out]; rfl, rfl⟩
  ·have HN : Hid (∀ h : k < s.size, isDig s[k] = false) := Lib.hid (fun h => absurd h hlt)
   rcases (show k = at_ ∨ at_ < k from by omega) with rfl | hak
   ·have HE : Hid (R = .returned (.tuple #[.int .i64 0, .int .i64 (-1)])) := Lib.hid (by rw [← HR.out, numR_stop HN.out]; rfl)
    go_wp2
    all_goals
     go_ret2
     exact ⟨by rw [HE.out]; rfl, rfl⟩
   ·have hlt0 : at_ < s.size := (hrel.out.2 at_ (by omega) hak).1
    have e9 : ((k : Int) == (at_ : Int)) = false := beq_eq_false_iff_ne.2 (by omega)
    by_cases h48 : s[at_].toNat = 48
    ·have e8 : ((s[at_].toNat : Int) == 48) = true := by simp [h48]
     by_cases hk2 : at_ + 1 < k
     ·have HE : Hid (R = .returned (.tuple #[.int .i64 0, .int .i64 (-1)])) := Lib.hid (by rw [← HR.out, numR_zero hrel.out hk2 (fun _ => h48)]; rfl)
      clear h48
      go_wp2
      all_goals
       go_ret2
       exact ⟨by rw [HE.out]; rfl, rfl⟩
     ·have HE : Hid (R = .returned (.tuple #[.int .i64 m, .int .i64 k])) := Lib.hid (by rw [← HR.out, numR_is hrel.out hak HN.out (fun h => absurd h hk2)]; simp only [numEnd, dropT s k hk])
      clear h48
      go_wp2
      all_goals
       go_ret2
       exact ⟨by rw [HE.out]; rfl, rfl⟩
    ·have e8 : ((s[at_].toNat : Int) == 48) = false := beq_eq_false_iff_ne.2 (by omega)
     have HE : Hid (R = .returned (.tuple #[.int .i64 m, .int .i64 k])) := Lib.hid (by rw [← HR.out, numR_is hrel.out hak HN.out (fun _ _ => h48)]; simp only [numEnd, dropT s k hk])
     clear h48
     go_wp2
     all_goals
      go_ret2
      exact ⟨by rw [HE.out]; rfl, rfl⟩
def TyEnd (s : ByteArray) (w : World) (R : Option (Ty × List UInt8)) (e : Ending) (w' : World) : Prop :=
 Below w.heap.size w w' ∧ match R with
  | none => ∃ v0 v1 : Int, e = .returned (.tuple #[.agg #[.int .i64 v0, .int .i64 v1, .slice none 0 0, .int .i64 0], .int .i64 (-1)])
  | some (x, r) => ∃ c0 c1 c2 c3, e = .returned (.tuple #[.agg #[c0, c1, c2, c3], .int .i64 (s.size - r.length : Nat)]) ∧ TyS w' (w.heap.size ≤ ·) x c0 c1 c2 c3
theorem tItem_nil (f : Nat) : tItem f [] = none := by cases f <;> rfl
theorem new_at (X : World) (t : TypeId) (cs : Array Value) (n : Nat) (h : X.heap.size = n) : Blk (X.alloc (.cells cs t)) n t cs := by subst h; exact Blk.new X t cs
def badTy (v0 v1 : Int) : Value := .tuple #[.agg #[.int .i64 v0, .int .i64 v1, .slice none 0 0, .int .i64 0], .int .i64 (-1)]
theorem tyParse_num (f deep : Nat) (hd8 : deep ≤ 8) (IH : Hid (∀ (s : ByteArray) (at_ : Nat) (w : World), at_ ≤ s.size → s.size ≤ 100000 →
 Calls Tryz.prog 42 #[.string s, .int .i64 at_, .int .i64 ((deep + 1 : Nat) : Int)] w fun e w' => TyEnd s w (tItem f (s.data.toList.drop at_)) e w')) (s : ByteArray) (at_ : Nat) (w : World) (hat : at_ ≤ s.size) (hs : s.size ≤ 100000)
 (R : Option (Ty × List UInt8)) (HR : Hid (tItem (f + 1) (s.data.toList.drop at_) = R)) (hlt : at_ < s.size) (hl : s[at_].toNat ≠ 91) (ht : s[at_].toNat ≠ 123) :
 Calls Tryz.prog 42 #[.string s, .int .i64 at_, .int .i64 deep] w fun e w' => TyEnd s w R e w' := by
 have d1 : decide (s.size ≤ at_) = false := by simp; omega
 have d2 : decide ((8 : Int) < (deep : Int)) = false := by simp; omega
 have hb256 := s[at_].toNat_lt
 have HC : Hid (tItem (f + 1) (s[at_] :: s.data.toList.drop (at_ + 1)) = R) := Lib.hid (by rw [← drop_cons s at_ hlt]; exact HR.out)
 have HD := Lib.hid (fun w => digits20_c s (at_ + 1) w (by omega) hs)
 have E8 : Hid (((at_ + 1 : Nat) : Int) = (at_ : Int) + 1) := Lib.hid (by omega)
 obtain ⟨N, HN⟩ : ∃ N, Hid (numR (s.data.toList.drop (at_ + 1)) = N) := ⟨_, Lib.hid rfl⟩
 rw [HN.out, E8.out] at HD
 clear HR
 by_cases hu : s[at_].toNat = 117
 ·have e1 : ((s[at_].toNat : Int) == 117) = true := by simp [hu]
  have HE0 : Hid (numU N = R) := Lib.hid (by rw [← HC.out, show s[at_] = 117 from UInt8.toNat_inj.1 hu, tItem_u, HN.out])
  clear hu HC
  cases N with
  | none =>
   have HE : Hid (R = none) := Lib.hid HE0.out.symm
   clear HE0
   go_enter Tryz.func42, Tryz.ntmps42
   go_wp2_with fail
   refine (HD.out _).mono ?_
   rintro e w' ⟨rfl, rfl⟩
   simp only [numEnd]
   go_wp2
   refine bodyPost_ret (v := badTy 1 0) (by simp [badTy, results, Tryz.results42, go_sem]) rfl ?_
   rw [HE.out]
   exact ⟨blw, 1, 0, rfl⟩
  | some z =>
   obtain ⟨n, r⟩ := z
   obtain ⟨hp1, hp2, hp3, hp4⟩ := numR_pos (by omega) HN.out
   by_cases h8 : n % 8 = 0
   ·have HE : Hid (R = some (Ty.mk 1 ((n / 8 : Nat) : Int) [] 0, r)) := Lib.hid (by rw [← HE0.out]; simp [numU, h8])
    have hm8 : ((n : Int) % 8 != 0) = false := by simp; omega
    have E6 : Hid (((n / 8 : Nat) : Int) = (n : Int) / 8) := Lib.hid (by omega)
    have HR9 : Hid (s.size - r.length = s.size - r.length) := Lib.hid rfl
    clear HE0 h8 hp1
    obtain ⟨q, hq⟩ : ∃ q, s.size - r.length = q := ⟨_, rfl⟩
    have HQ := Lib.hid hq
    rw [hq] at hp2 hp3
    go_enter Tryz.func42, Tryz.ntmps42
    go_wp2_with fail
    refine (HD.out _).mono ?_
    rintro e w' ⟨rfl, rfl⟩
    simp only [numEnd, hq]
    clear hq
    go_wp2
    refine bodyPost_ret (v := .tuple #[.agg #[.int .i64 1, .int .i64 ((n : Int) / 8), .slice none 0 0, .int .i64 0], .int .i64 (q : Int)]) (by simp [results, Tryz.results42, go_sem]) rfl ?_
    rw [HE.out]
    refine ⟨blw, _, _, _, _, by rw [HQ.out], ?_⟩
    have hzz := E6.out
    first | exact TyS.leaf (okI_small (by omega) (by omega)) (okI_small (by omega) (by omega)) (okI_small (by omega) (by omega)) | (rw [E6.out]; exact TyS.leaf (okI_small (by omega) (by omega)) (okI_small (by omega) (by omega)) (okI_small (by omega) (by omega)))
   ·have HE : Hid (R = none) := Lib.hid (by rw [← HE0.out]; simp [numU, h8])
    have hm8 : ((n : Int) % 8 != 0) = true := by simp; omega
    clear HE0 h8 hp1
    go_enter Tryz.func42, Tryz.ntmps42
    go_wp2_with fail
    refine (HD.out _).mono ?_
    rintro e w' ⟨rfl, rfl⟩
    simp only [numEnd]
    go_wp2
    refine bodyPost_ret (v := badTy 0 0) (by simp [badTy, results, Tryz.results42, go_sem,]) rfl ?_
    rw [HE.out]
    exact ⟨blw, 0, 0, rfl⟩
 ·have e1 : ((s[at_].toNat : Int) == 117) = false := beq_eq_false_iff_ne.2 (by omega)
  have hm8 : True := trivial
  by_cases hbb : s[at_].toNat = 98
  ·have e2 : ((s[at_].toNat : Int) == 98) = true := by simp [hbb]
   have HE0 : Hid (numK 2 N = R) := Lib.hid (by rw [← HC.out, show s[at_] = 98 from UInt8.toNat_inj.1 hbb, tItem_b, HN.out])
   clear hu hbb HC
   cases N with
   | none =>
    have HE : Hid (R = none) := Lib.hid HE0.out.symm
    clear HE0
    go_enter Tryz.func42, Tryz.ntmps42
    go_wp2_with fail
    refine (HD.out _).mono ?_
    rintro e w' ⟨rfl, rfl⟩
    simp only [numEnd]
    go_wp2
    refine bodyPost_ret (v := badTy 2 0) (by simp [badTy, results, Tryz.results42, go_sem]) rfl ?_
    rw [HE.out]
    exact ⟨blw, 2, 0, rfl⟩
   | some z =>
    obtain ⟨n, r⟩ := z
    obtain ⟨hp1, hp2, hp3, hp4⟩ := numR_pos (by omega) HN.out
    have HE : Hid (R = some (Ty.mk 2 (n : Int) [] 0, r)) := Lib.hid HE0.out.symm
    have h8 : True := trivial
    have E6 : Hid (((n / 8 : Nat) : Int) = (n : Int) / 8) := Lib.hid (by omega)
    have HR9 : Hid (s.size - r.length = s.size - r.length) := Lib.hid rfl
    clear HE0 h8 hp1
    obtain ⟨q, hq⟩ : ∃ q, s.size - r.length = q := ⟨_, rfl⟩
    have HQ := Lib.hid hq
    rw [hq] at hp2 hp3
    go_enter Tryz.func42, Tryz.ntmps42
    go_wp2_with fail
    refine (HD.out _).mono ?_
    rintro e w' ⟨rfl, rfl⟩
    simp only [numEnd, hq]
    clear hq
    go_wp2
    refine bodyPost_ret (v := .tuple #[.agg #[.int .i64 2, .int .i64 (n : Int), .slice none 0 0, .int .i64 0], .int .i64 (q : Int)]) (by simp [results, Tryz.results42, go_sem]) rfl ?_
    rw [HE.out]
    refine ⟨blw, _, _, _, _, by rw [HQ.out], ?_⟩
    have hzz := E6.out
    first | exact TyS.leaf (okI_small (by omega) (by omega)) (okI_small (by omega) (by omega)) (okI_small (by omega) (by omega)) | (rw [E6.out]; exact TyS.leaf (okI_small (by omega) (by omega)) (okI_small (by omega) (by omega)) (okI_small (by omega) (by omega)))
  ·have e2 : ((s[at_].toNat : Int) == 98) = false := beq_eq_false_iff_ne.2 (by omega)
   by_cases hss : s[at_].toNat = 115
   ·have e3 : ((s[at_].toNat : Int) == 115) = true := by simp [hss]
    have HE0 : Hid (numK 3 N = R) := Lib.hid (by rw [← HC.out, show s[at_] = 115 from UInt8.toNat_inj.1 hss, tItem_s, HN.out])
    clear hu hbb hss HC
    cases N with
    | none =>
     have HE : Hid (R = none) := Lib.hid HE0.out.symm
     clear HE0
     go_enter Tryz.func42, Tryz.ntmps42
     go_wp2_with fail
     refine (HD.out _).mono ?_
     rintro e w' ⟨rfl, rfl⟩
     simp only [numEnd]
     go_wp2
     refine bodyPost_ret (v := badTy 3 0) (by simp [badTy, results, Tryz.results42, go_sem]) rfl ?_
     rw [HE.out]
     exact ⟨blw, 3, 0, rfl⟩
    | some z =>
     obtain ⟨n, r⟩ := z
     obtain ⟨hp1, hp2, hp3, hp4⟩ := numR_pos (by omega) HN.out
     have HE : Hid (R = some (Ty.mk 3 (n : Int) [] 0, r)) := Lib.hid HE0.out.symm
     have h8 : True := trivial
     have E6 : Hid (((n / 8 : Nat) : Int) = (n : Int) / 8) := Lib.hid (by omega)
     have HR9 : Hid (s.size - r.length = s.size - r.length) := Lib.hid rfl
     clear HE0 h8 hp1
     obtain ⟨q, hq⟩ : ∃ q, s.size - r.length = q := ⟨_, rfl⟩
     have HQ := Lib.hid hq
     rw [hq] at hp2 hp3
     go_enter Tryz.func42, Tryz.ntmps42
     go_wp2_with fail
     refine (HD.out _).mono ?_
     rintro e w' ⟨rfl, rfl⟩
     simp only [numEnd, hq]
     clear hq
     go_wp2
     refine bodyPost_ret (v := .tuple #[.agg #[.int .i64 3, .int .i64 (n : Int), .slice none 0 0, .int .i64 0], .int .i64 (q : Int)]) (by simp [results, Tryz.results42, go_sem]) rfl ?_
     rw [HE.out]
     refine ⟨blw, _, _, _, _, by rw [HQ.out], ?_⟩
     have hzz := E6.out
     first | exact TyS.leaf (okI_small (by omega) (by omega)) (okI_small (by omega) (by omega)) (okI_small (by omega) (by omega)) | (rw [E6.out]; exact TyS.leaf (okI_small (by omega) (by omega)) (okI_small (by omega) (by omega)) (okI_small (by omega) (by omega)))
   ·have e3 : ((s[at_].toNat : Int) == 115) = false := beq_eq_false_iff_ne.2 (by omega)
    have e4 : ((s[at_].toNat : Int) == 91) = false := beq_eq_false_iff_ne.2 (by omega)
    have e5 : ((s[at_].toNat : Int) != 123) = true := by simp; omega
    have HE : Hid (R = none) := Lib.hid (by rw [← HC.out, tItem_no _ _ _ hu hbb hss hl ht])
    clear hu hbb hss hl ht HC
    go_enter Tryz.func42, Tryz.ntmps42
    go_wp2
    refine bodyPost_ret (v := badTy 0 0) (by simp [badTy, results, Tryz.results42, go_sem,]) rfl ?_
    rw [HE.out]
    exact ⟨blw, 0, 0, rfl⟩
theorem tyParse_list (f deep : Nat) (hd8 : deep ≤ 8) (IH : Hid (∀ (s : ByteArray) (at_ : Nat) (w : World), at_ ≤ s.size → s.size ≤ 100000 →
 Calls Tryz.prog 42 #[.string s, .int .i64 at_, .int .i64 ((deep + 1 : Nat) : Int)] w fun e w' => TyEnd s w (tItem f (s.data.toList.drop at_)) e w')) (s : ByteArray) (at_ : Nat) (w : World) (hat : at_ ≤ s.size) (hs : s.size ≤ 100000)
 (R : Option (Ty × List UInt8)) (HR : Hid (tItem (f + 1) (s.data.toList.drop at_) = R)) (hlt : at_ < s.size) (hll : s[at_].toNat = 91) :
 Calls Tryz.prog 42 #[.string s, .int .i64 at_, .int .i64 deep] w fun e w' => TyEnd s w R e w' := by
 have d1 : decide (s.size ≤ at_) = false := by simp; omega
 have d2 : decide ((8 : Int) < (deep : Int)) = false := by simp; omega
 have hb256 := s[at_].toNat_lt
 have HC : Hid (tItem (f + 1) (s[at_] :: s.data.toList.drop (at_ + 1)) = R) := Lib.hid (by rw [← drop_cons s at_ hlt]; exact HR.out)
 have HD := Lib.hid (fun w => digits20_c s (at_ + 1) w (by omega) hs)
 have E8 : Hid (((at_ + 1 : Nat) : Int) = (at_ : Int) + 1) := Lib.hid (by omega)
 obtain ⟨N, HN⟩ : ∃ N, Hid (numR (s.data.toList.drop (at_ + 1)) = N) := ⟨_, Lib.hid rfl⟩
 rw [HN.out, E8.out] at HD
 clear HR
 have e1 : ((s[at_].toNat : Int) == 117) = false := beq_eq_false_iff_ne.2 (by omega)
 have e2 : ((s[at_].toNat : Int) == 98) = false := beq_eq_false_iff_ne.2 (by omega)
 have e3 : ((s[at_].toNat : Int) == 115) = false := beq_eq_false_iff_ne.2 (by omega)
 have e4 : ((s[at_].toNat : Int) == 91) = true := by simp [hll]
 have HE0 : Hid (tList (tItem f (s.data.toList.drop (at_ + 1))) = R) := Lib.hid (by rw [← HC.out, show s[at_] = 91 from UInt8.toNat_inj.1 hll, tItem_l])
 have HI := Lib.hid (IH.out s (at_ + 1) (w.alloc (.cells #[.int .i64 0, .int .i64 0, .slice none 0 0, .int .i64 0] 55)) (by omega) hs)
 have E9 : Hid ((deep : Int) + 1 = ((deep + 1 : Nat) : Int)) := Lib.hid (by omega)
 obtain ⟨T, HT⟩ : ∃ T, Hid (tItem f (s.data.toList.drop (at_ + 1)) = T) := ⟨_, Lib.hid rfl⟩
 rw [HT.out] at HE0 HI
 rw [E8.out] at HI
 clear hll HC HD HN
 cases T with
 | none =>
  have HE : Hid (R = none) := Lib.hid HE0.out.symm
  clear HE0
  go_enter Tryz.func42, Tryz.ntmps42
  go_wp2_with fail
  rw [E9.out]
  refine HI.out.mono ?_
  rintro e w4 ⟨hb, v0, v1, rfl⟩
  have hbk := (Blk.new w 55 #[.int .i64 0, .int .i64 0, .slice none 0 0, .int .i64 0]).keep hb (by simp)
  obtain ⟨r0, r1, r2', r3, rf0, rf1, rf2, rf3⟩ := blk4 hbk
  have hz := hb.size
  simp only [World.size_alloc] at hz
  have hlw : w.heap.size < w4.heap.size := by omega
  have hlw1 : w.heap.size < w4.heap.size + 1 := by omega
  have HB4 : Hid (Below w.heap.size w w4) := Lib.hid (((Below.refl w.heap.size w).alloc (Nat.le_refl _) _).trans (hb.mono (by simp)))
  clear hb hbk
  go_wp2
  refine bodyPost_ret (v := badTy 0 0) (by simp [badTy, results, Tryz.results42, go_sem, r0, r1, r2', r3, World.cell?_alloc_lt, hlw]) rfl ?_
  rw [HE.out]
  refine ⟨?_, 0, 0, rfl⟩
  exact (((((HB4.out.setCell (by simp) _).setCell (by simp) _).setCell (by simp) _).setCell (by simp) _).alloc (by simp [World.setCell]; omega) _)
 | some z =>
  obtain ⟨x, r⟩ := z
  obtain ⟨k1, k2⟩ := tItem_sfx _ _ _ _ HT.out
  obtain ⟨k3, k4⟩ := sfx_drop (by omega) k1
  have k5 : s.size - r.length ≤ s.size := by omega
  have HK3 := Lib.hid k3
  obtain ⟨q, hq⟩ : ∃ q, s.size - r.length = q := ⟨_, rfl⟩
  rw [hq] at k4 k5 HK3
  have HQ := Lib.hid hq
  have HE1 : Hid (tTail x (s.data.toList.drop q) = R) := Lib.hid (by rw [HK3.out]; exact HE0.out)
  clear HE0 k1 k2 k3
  by_cases hqs : q < s.size
  ·by_cases h58 : s[q].toNat = 58
   ·have f1 : ((s[q].toNat : Int) != 58) = false := by simp [h58]
    obtain ⟨N, HN⟩ : ∃ N, Hid (numR (s.data.toList.drop (q + 1)) = N) := ⟨_, Lib.hid rfl⟩
    have HE2 : Hid (tClose x N = R) := Lib.hid (by rw [← HN.out, ← tTail_colon, ← HE1.out, drop_cons s q hqs, show s[q] = 58 from UInt8.toNat_inj.1 h58])
    have HD := Lib.hid (fun w => digits20_c s (q + 1) w (by omega) hs)
    have E7 : Hid (((q + 1 : Nat) : Int) = (q : Int) + 1) := Lib.hid (by omega)
    rw [HN.out, E7.out] at HD
    clear HE1 h58
    cases N with
    | none =>
     have HE : Hid (R = none) := Lib.hid HE2.out.symm
     clear HE2
     go_enter Tryz.func42, Tryz.ntmps42
     go_wp2_with fail
     rw [E9.out]
     refine HI.out.mono ?_
     rintro e w4 ⟨hb, c0, c1, c2, c3, rfl, hy⟩
     rw [HQ.out]
     have hbk := (Blk.new w 55 #[.int .i64 0, .int .i64 0, .slice none 0 0, .int .i64 0]).keep hb (by simp)
     obtain ⟨r0, r1, r2', r3, rf0, rf1, rf2, rf3⟩ := blk4 hbk
     have hz := hb.size
     simp only [World.size_alloc] at hz
     have hlw : w.heap.size < w4.heap.size := by omega
     have hlw1 : w.heap.size < w4.heap.size + 1 := by omega
     have HB4 : Hid (Below w.heap.size w w4) := Lib.hid (((Below.refl w.heap.size w).alloc (Nat.le_refl _) _).trans (hb.mono (by simp)))
     have HY := Lib.hid hy
     simp only [World.size_alloc] at HY
     obtain ⟨AA, ccap, rfl, rfl, rfl, rfl, hko, hzo, hto, _⟩ := hy.open_
     have HOK := Lib.hid (And.intro hko (And.intro hzo hto))
     clear hb hbk hy hko hzo hto
     go_wp2_with fail
     refine (HD.out _).mono ?_
     rintro e w' ⟨rfl, rfl⟩
     simp only [numEnd]
     go_wp2
     refine bodyPost_ret (v := badTy 0 0) (by simp [badTy, results, Tryz.results42, go_sem, r0, r1, r2', r3, World.cell?_alloc_lt, hlw]) rfl ?_
     rw [HE.out]
     refine ⟨?_, 0, 0, rfl⟩
     exact (((((HB4.out.setCell (by simp) _).setCell (by simp) _).setCell (by simp) _).setCell (by simp) _).alloc (by simp [World.setCell]; omega) _)
    | some z2 =>
     obtain ⟨n, r2⟩ := z2
     obtain ⟨hp1, hp2, hp3, hp4⟩ := numR_pos (by omega) HN.out
     obtain ⟨q2, hq2⟩ : ∃ q2, s.size - r2.length = q2 := ⟨_, rfl⟩
     rw [hq2] at hp1 hp2 hp3
     have HQ2 := Lib.hid hq2
     have HP1 := Lib.hid hp1
     clear hp1
     by_cases hq2s : q2 < s.size
     ·have HR2 : Hid (r2 = s[q2] :: s.data.toList.drop (q2 + 1)) := Lib.hid (by rw [← HP1.out, drop_cons s q2 hq2s])
      by_cases h93 : s[q2].toNat = 93
      ·have f2 : ((s[q2].toNat : Int) != 93) = false := by simp [h93]
       have HE : Hid (R = some (.mk 4 n [x] 0, s.data.toList.drop (q2 + 1))) := Lib.hid (by rw [← HE2.out, HR2.out]; simp [tClose, h93])
       have HDQ := Lib.hid (dropT s (q2 + 1) (by omega))
       clear HE2 h93
       go_enter Tryz.func42, Tryz.ntmps42
       go_wp2_with fail
       rw [E9.out]
       refine HI.out.mono ?_
       rintro e w4 ⟨hb, c0, c1, c2, c3, rfl, hy⟩
       rw [HQ.out]
       have hbk := (Blk.new w 55 #[.int .i64 0, .int .i64 0, .slice none 0 0, .int .i64 0]).keep hb (by simp)
       obtain ⟨r0, r1, r2', r3, rf0, rf1, rf2, rf3⟩ := blk4 hbk
       have hz := hb.size
       simp only [World.size_alloc] at hz
       have hlw : w.heap.size < w4.heap.size := by omega
       have hlw1 : w.heap.size < w4.heap.size + 1 := by omega
       have HB4 : Hid (Below w.heap.size w w4) := Lib.hid (((Below.refl w.heap.size w).alloc (Nat.le_refl _) _).trans (hb.mono (by simp)))
       have HY := Lib.hid hy
       simp only [World.size_alloc] at HY
       obtain ⟨AA, ccap, rfl, rfl, rfl, rfl, hko, hzo, hto, _⟩ := hy.open_
       have HOK := Lib.hid (And.intro hko (And.intro hzo hto))
       clear hb hbk hy hko hzo hto
       go_wp2_with fail
       refine (HD.out _).mono ?_
       rintro e w' ⟨rfl, rfl⟩
       simp only [numEnd, HQ2.out]
       go_wp2
       refine bodyPost_ret (v := .tuple #[.agg #[.int .i64 4, .int .i64 n, .slice (some ⟨w4.heap.size + 1, 0, none⟩) 1 1, .int .i64 0], .int .i64 ((q2 : Int) + 1)]) (by simp [results, Tryz.results42, go_sem, r0, r1, r2', r3, World.cell?_alloc_lt, hlw, hlw1]) rfl ?_
       rw [HE.out]
       refine ⟨((((((HB4.out.setCell (by simp) _).setCell (by simp) _).setCell (by simp) _).setCell (by simp) _).alloc (by simp [World.setCell]; omega) _).alloc (by simp [World.setCell]; omega) _), _, _, _, _, by rw [HDQ.out]; go_num, ?_⟩
       have hon : Only [w.heap.size] w4 ((((((w4.setCell ⟨w.heap.size, 0, none⟩ (.int .i64 4)).setCell ⟨w.heap.size, 1, none⟩ (.int .i64 n)).setCell ⟨w.heap.size, 2, none⟩ (.slice (some ⟨w4.heap.size + 1, 0, none⟩) 1 1)).setCell ⟨w.heap.size, 3, none⟩ (.int .i64 0)).alloc (.cells #[.int .i64 x.kind, .int .i64 x.size, .slice AA x.sub.length ccap, .int .i64 x.tail] 55)).alloc (.cells #[.int .i64 x.kind, .int .i64 x.size, .slice AA x.sub.length ccap, .int .i64 x.tail] 55)) := onl
       refine ⟨rfl, rfl, rfl, okI_small (by omega) (by omega), okI_small (by omega) (by omega), okI_small (by omega) (by omega), by simp, _, 1, rfl, by simp, by simp, ⟨⟨w4.heap.size + 1, 0, .int .i64 x.kind, .int .i64 x.size, .slice AA x.sub.length ccap, .int .i64 x.tail, rfl, ?_, ?_, ?_, ?_, ?_, ?_⟩, trivial⟩⟩
       ·show w.heap.size ≤ w4.heap.size + 1
        omega
       ·exact (new_at _ _ _ (w4.heap.size + 1) (by simp [World.setCell])).cell 0
       ·exact (new_at _ _ _ (w4.heap.size + 1) (by simp [World.setCell])).cell 1
       ·exact (new_at _ _ _ (w4.heap.size + 1) (by simp [World.setCell])).cell 2
       ·exact (new_at _ _ _ (w4.heap.size + 1) (by simp [World.setCell])).cell 3
       ·refine HY.out.only (L := [w.heap.size]) hon ?_ ?_
        ·intro k hk hs
         have hk : k = w.heap.size := by simpa using hk
         have hs : w.heap.size + 1 ≤ k := hs
         omega
        ·intro k _ hs
         have hs : w.heap.size + 1 ≤ k := hs
         show w.heap.size ≤ k
         omega
      ·have f2 : ((s[q2].toNat : Int) != 93) = true := by simp; omega
       have HE : Hid (R = none) := Lib.hid (by rw [← HE2.out, HR2.out]; simp [tClose, h93])
       clear HE2 h93
       go_enter Tryz.func42, Tryz.ntmps42
       go_wp2_with fail
       rw [E9.out]
       refine HI.out.mono ?_
       rintro e w4 ⟨hb, c0, c1, c2, c3, rfl, hy⟩
       rw [HQ.out]
       have hbk := (Blk.new w 55 #[.int .i64 0, .int .i64 0, .slice none 0 0, .int .i64 0]).keep hb (by simp)
       obtain ⟨r0, r1, r2', r3, rf0, rf1, rf2, rf3⟩ := blk4 hbk
       have hz := hb.size
       simp only [World.size_alloc] at hz
       have hlw : w.heap.size < w4.heap.size := by omega
       have hlw1 : w.heap.size < w4.heap.size + 1 := by omega
       have HB4 : Hid (Below w.heap.size w w4) := Lib.hid (((Below.refl w.heap.size w).alloc (Nat.le_refl _) _).trans (hb.mono (by simp)))
       have HY := Lib.hid hy
       simp only [World.size_alloc] at HY
       obtain ⟨AA, ccap, rfl, rfl, rfl, rfl, hko, hzo, hto, _⟩ := hy.open_
       have HOK := Lib.hid (And.intro hko (And.intro hzo hto))
       clear hb hbk hy hko hzo hto
       go_wp2_with fail
       refine (HD.out _).mono ?_
       rintro e w' ⟨rfl, rfl⟩
       simp only [numEnd, HQ2.out]
       go_wp2
       refine bodyPost_ret (v := badTy 0 0) (by simp [badTy, results, Tryz.results42, go_sem, r0, r1, r2', r3, World.cell?_alloc_lt, hlw]) rfl ?_
       rw [HE.out]
       refine ⟨?_, 0, 0, rfl⟩
       exact (((((HB4.out.setCell (by simp) _).setCell (by simp) _).setCell (by simp) _).setCell (by simp) _).alloc (by simp [World.setCell]; omega) _)
     ·have HE : Hid (R = none) := Lib.hid (by rw [← HE2.out, ← HP1.out, List.drop_eq_nil_of_le (by simp; omega)]; rfl)
      clear HE2
      go_enter Tryz.func42, Tryz.ntmps42
      go_wp2_with fail
      rw [E9.out]
      refine HI.out.mono ?_
      rintro e w4 ⟨hb, c0, c1, c2, c3, rfl, hy⟩
      rw [HQ.out]
      have hbk := (Blk.new w 55 #[.int .i64 0, .int .i64 0, .slice none 0 0, .int .i64 0]).keep hb (by simp)
      obtain ⟨r0, r1, r2', r3, rf0, rf1, rf2, rf3⟩ := blk4 hbk
      have hz := hb.size
      simp only [World.size_alloc] at hz
      have hlw : w.heap.size < w4.heap.size := by omega
      have hlw1 : w.heap.size < w4.heap.size + 1 := by omega
      have HB4 : Hid (Below w.heap.size w w4) := Lib.hid (((Below.refl w.heap.size w).alloc (Nat.le_refl _) _).trans (hb.mono (by simp)))
      have HY := Lib.hid hy
      simp only [World.size_alloc] at HY
      obtain ⟨AA, ccap, rfl, rfl, rfl, rfl, hko, hzo, hto, _⟩ := hy.open_
      have HOK := Lib.hid (And.intro hko (And.intro hzo hto))
      clear hb hbk hy hko hzo hto
      go_wp2_with fail
      refine (HD.out _).mono ?_
      rintro e w' ⟨rfl, rfl⟩
      simp only [numEnd, HQ2.out]
      go_wp2
      refine bodyPost_ret (v := badTy 0 0) (by simp [badTy, results, Tryz.results42, go_sem, r0, r1, r2', r3, World.cell?_alloc_lt, hlw]) rfl ?_
      rw [HE.out]
      refine ⟨?_, 0, 0, rfl⟩
      exact (((((HB4.out.setCell (by simp) _).setCell (by simp) _).setCell (by simp) _).setCell (by simp) _).alloc (by simp [World.setCell]; omega) _)
   ·have f1 : ((s[q].toNat : Int) != 58) = true := by simp; omega
    have HE : Hid (R = none) := Lib.hid (by rw [← HE1.out, drop_cons s q hqs, tTail_no _ _ _ h58])
    clear HE1 h58
    go_enter Tryz.func42, Tryz.ntmps42
    go_wp2_with fail
    rw [E9.out]
    refine HI.out.mono ?_
    rintro e w4 ⟨hb, c0, c1, c2, c3, rfl, hy⟩
    rw [HQ.out]
    have hbk := (Blk.new w 55 #[.int .i64 0, .int .i64 0, .slice none 0 0, .int .i64 0]).keep hb (by simp)
    obtain ⟨r0, r1, r2', r3, rf0, rf1, rf2, rf3⟩ := blk4 hbk
    have hz := hb.size
    simp only [World.size_alloc] at hz
    have hlw : w.heap.size < w4.heap.size := by omega
    have hlw1 : w.heap.size < w4.heap.size + 1 := by omega
    have HB4 : Hid (Below w.heap.size w w4) := Lib.hid (((Below.refl w.heap.size w).alloc (Nat.le_refl _) _).trans (hb.mono (by simp)))
    have HY := Lib.hid hy
    simp only [World.size_alloc] at HY
    obtain ⟨AA, ccap, rfl, rfl, rfl, rfl, hko, hzo, hto, _⟩ := hy.open_
    have HOK := Lib.hid (And.intro hko (And.intro hzo hto))
    clear hb hbk hy hko hzo hto
    go_wp2
    refine bodyPost_ret (v := badTy 0 0) (by simp [badTy, results, Tryz.results42, go_sem, r0, r1, r2', r3, World.cell?_alloc_lt, hlw]) rfl ?_
    rw [HE.out]
    refine ⟨?_, 0, 0, rfl⟩
    exact (((((HB4.out.setCell (by simp) _).setCell (by simp) _).setCell (by simp) _).setCell (by simp) _).alloc (by simp [World.setCell]; omega) _)
  ·have HE : Hid (R = none) := Lib.hid (by rw [← HE1.out, List.drop_eq_nil_of_le (by simp; omega)]; rfl)
   clear HE1
   go_enter Tryz.func42, Tryz.ntmps42
   go_wp2_with fail
   rw [E9.out]
   refine HI.out.mono ?_
   rintro e w4 ⟨hb, c0, c1, c2, c3, rfl, hy⟩
   rw [HQ.out]
   have hbk := (Blk.new w 55 #[.int .i64 0, .int .i64 0, .slice none 0 0, .int .i64 0]).keep hb (by simp)
   obtain ⟨r0, r1, r2', r3, rf0, rf1, rf2, rf3⟩ := blk4 hbk
   have hz := hb.size
   simp only [World.size_alloc] at hz
   have hlw : w.heap.size < w4.heap.size := by omega
   have hlw1 : w.heap.size < w4.heap.size + 1 := by omega
   have HB4 : Hid (Below w.heap.size w w4) := Lib.hid (((Below.refl w.heap.size w).alloc (Nat.le_refl _) _).trans (hb.mono (by simp)))
   have HY := Lib.hid hy
   simp only [World.size_alloc] at HY
   obtain ⟨AA, ccap, rfl, rfl, rfl, rfl, hko, hzo, hto, _⟩ := hy.open_
   have HOK := Lib.hid (And.intro hko (And.intro hzo hto))
   clear hb hbk hy hko hzo hto
   go_wp2
   refine bodyPost_ret (v := badTy 0 0) (by simp [badTy, results, Tryz.results42, go_sem, r0, r1, r2', r3, World.cell?_alloc_lt, hlw]) rfl ?_
   rw [HE.out]
   refine ⟨?_, 0, 0, rfl⟩
   exact (((((HB4.out.setCell (by simp) _).setCell (by simp) _).setCell (by simp) _).setCell (by simp) _).alloc (by simp [World.setCell]; omega) _)
theorem tyParse_struct (f deep : Nat) (hd8 : deep ≤ 8) (IH : Hid (∀ (s : ByteArray) (at_ : Nat) (w : World), at_ ≤ s.size → s.size ≤ 100000 →
 Calls Tryz.prog 42 #[.string s, .int .i64 at_, .int .i64 ((deep + 1 : Nat) : Int)] w fun e w' => TyEnd s w (tItem f (s.data.toList.drop at_)) e w')) (s : ByteArray) (at_ : Nat) (w : World) (hat : at_ ≤ s.size) (hs : s.size ≤ 100000)
 (R : Option (Ty × List UInt8)) (HR : Hid (tItem (f + 1) (s.data.toList.drop at_) = R)) (hlt : at_ < s.size) (htt : s[at_].toNat = 123) :
 Calls Tryz.prog 42 #[.string s, .int .i64 at_, .int .i64 deep] w fun e w' => TyEnd s w R e w' := by
 have d1 : decide (s.size ≤ at_) = false := by simp; omega
 have d2 : decide ((8 : Int) < (deep : Int)) = false := by simp; omega
 have hb256 := s[at_].toNat_lt
 have HC : Hid (tItem (f + 1) (s[at_] :: s.data.toList.drop (at_ + 1)) = R) := Lib.hid (by rw [← drop_cons s at_ hlt]; exact HR.out)
 have HD := Lib.hid (fun w => digits20_c s (at_ + 1) w (by omega) hs)
 have E8 : Hid (((at_ + 1 : Nat) : Int) = (at_ : Int) + 1) := Lib.hid (by omega)
 obtain ⟨N, HN⟩ : ∃ N, Hid (numR (s.data.toList.drop (at_ + 1)) = N) := ⟨_, Lib.hid rfl⟩
 rw [HN.out, E8.out] at HD
 clear HR
 have e1 : ((s[at_].toNat : Int) == 117) = false := beq_eq_false_iff_ne.2 (by omega)
 have e2 : ((s[at_].toNat : Int) == 98) = false := beq_eq_false_iff_ne.2 (by omega)
 have e3 : ((s[at_].toNat : Int) == 115) = false := beq_eq_false_iff_ne.2 (by omega)
 have e4 : ((s[at_].toNat : Int) == 91) = false := beq_eq_false_iff_ne.2 (by omega)
 have e5 : ((s[at_].toNat : Int) != 123) = false := by simp [htt]
 have HREL : Hid (TLoop f s R (at_ + 1) [] 0) := Lib.hid ⟨_, by
  have h1 := HC.out
  rw [show s[at_] = 123 from UInt8.toNat_inj.1 htt, tItem_t] at h1
  exact h1, by omega⟩
 clear htt HC HD HN
 go_enter Tryz.func42, Tryz.ntmps42
 go_wp2_with fail
 go_loopw [1] (fun i wr => ∃ (p : Nat) (acc : List Ty) (tl : Nat) (vv : Value), p ≤ s.size ∧ i = .int .i64 p ∧ Hid (TLoop f s R p acc tl) ∧ acc.length ≤ p ∧ tl ≤ p ∧ Blk wr w.heap.size 55 #[.int .i64 0, .int .i64 0, .slice none 0 0, .int .i64 0] ∧ Blk wr (w.heap.size + 1) 55 #[.int .i64 5, .int .i64 0, vv, .int .i64 tl] ∧ AccT wr (w.heap.size + 2) acc vv ∧ Below w.heap.size w wr ∧ w.heap.size + 2 ≤ wr.heap.size) (fun i _ => s.size - (intOf i).toNat)
 case atStart =>
  have hb1 := Blk.new (w.alloc (.cells #[.int .i64 0, .int .i64 0, .slice none 0 0, .int .i64 0] 55)) 55 #[.int .i64 5, .int .i64 0, .slice none 0 0, .int .i64 0]
  exact ⟨at_ + 1, [], 0, .slice none 0 0, by omega, by go_num, HREL, by simp, by omega, (Blk.new _ _ _).alloc _, by simpa using hb1, AccT.nil _ _, blw, by simp⟩
 case round =>
  obtain ⟨p, acc, tl, vv, hp, rfl, hrel, hlen, htl, hbr, hbx, hacc, hbel, hrz⟩ := hrel
  have HBR := Lib.hid hbr
  have HBX := Lib.hid hbx
  have HACC := Lib.hid hacc
  have HB := Lib.hid hbel
  obtain ⟨A2, n2, cap2, rfl, hn2, hc3, hc4⟩ := hacc.form'
  obtain ⟨r0, r1, r2', r3, rf0, rf1, rf2, rf3⟩ := blk4 hbr
  obtain ⟨b0, b1, b2, b3, bf0, bf1, bf2, bf3⟩ := blk4 hbx
  clear hbr hbx hacc hbel HREL
  by_cases hlp : p < s.size
  ·by_cases h125 : s[p].toNat = 125
   ·have e6 : ((s[p].toNat : Int) != 125) = false := by simp [h125]
    have HE := Lib.hid (hrel.out.ends hlp h125)
    have HDP := Lib.hid (dropT s (p + 1) (by omega))
    clear h125
    go_wp2
    refine bodyPost_ret (v := .tuple #[.agg #[.int .i64 5, .int .i64 0, .slice A2 n2 cap2, .int .i64 tl], .int .i64 ((p : Int) + 1)]) (by simp [results, Tryz.results42, go_sem, r0, r1, r2', r3]) rfl ?_
    rw [HE.out]
    refine ⟨(((HB.out.setCell (by simp) _).setCell (by simp) _).setCell (by simp) _).setCell (by simp) _, _, _, _, _, by rw [HDP.out]; go_num, ?_⟩
    have ha3 : AccT _ (w.heap.size + 2) acc (.slice A2 n2 cap2) := HACC.out.only (L := [w.heap.size]) (w' := (((wr.setCell ⟨w.heap.size, 0, none⟩ (.int .i64 5)).setCell ⟨w.heap.size, 1, none⟩ (.int .i64 0)).setCell ⟨w.heap.size, 2, none⟩ (.slice A2 n2 cap2)).setCell ⟨w.heap.size, 3, none⟩ (.int .i64 tl)) (((((Only.refl _ _).setCell (by simp) _).setCell (by simp) _).setCell (by simp) _).setCell (by simp) _) (by simp)
    refine TyS.weak (ha3.ty (by omega) (okI_small (by omega) (by omega)) (okI_small (by omega) (by omega)) (okI_small (by omega) (by omega))) fun k _ hk => ?_
    have hk : w.heap.size + 2 ≤ k := hk
    show w.heap.size ≤ k
    omega
   ·have e6 : ((s[p].toNat : Int) != 125) = true := by simp; omega
    by_cases ha : acc = []
    ·subst ha
     have HSEP := Lib.hid (hrel.out.first hlp h125)
     obtain rfl : n2 = 0 := hn2.out
     clear h125
     have hqs := hlp
     by_cases h63 : s[p].toNat = 63
     ·have e8 : ((s[p].toNat : Int) == 63) = true := by simp [h63]
      have HAT := Lib.hid (HSEP.out.mark hqs h63)
      obtain ⟨W, hW⟩ : ∃ W, wr.setCell ⟨w.heap.size + 1, 3, none⟩ (.int .i64 ((tl : Int) + 1)) = W := ⟨_, rfl⟩
      have HWX : Hid (Blk W (w.heap.size + 1) 55 #[.int .i64 5, .int .i64 0, .slice A2 0 cap2, .int .i64 ((tl : Int) + 1)]) := Lib.hid (by rw [← hW]; exact HBX.out.store rfl)
      have HWR : Hid (Blk W w.heap.size 55 #[.int .i64 0, .int .i64 0, .slice none 0 0, .int .i64 0]) := Lib.hid (by rw [← hW]; exact HBR.out.far (by simp) _)
      have HWA : Hid (AccT W (w.heap.size + 2) [] (.slice A2 0 cap2)) := Lib.hid (by rw [← hW]; exact HACC.out.only ((Only.refl [w.heap.size + 1] wr).setCell (by simp) _) (by simp))
      have HWB : Hid (Below w.heap.size w W) := Lib.hid (by rw [← hW]; exact HB.out.setCell (by simp) _)
      have HWZ : Hid (W.heap.size = wr.heap.size) := Lib.hid (by rw [← hW]; simp [World.setCell])
      have HW := Lib.hid hW
      have hq : p + 1 ≤ s.size := by omega
      have ETL : Hid (((tl + 1 : Nat) : Int) = (tl : Int) + 1) := Lib.hid (by omega)
      clear h63 hW HSEP
      have HI : Hid (∀ (V : World) (i : Int), i = (((p + 1) : Nat) : Int) → Calls Tryz.prog 42 #[.string s, .int .i64 i, .int .i64 ((deep + 1 : Nat) : Int)] V fun e w' => TyEnd s V (tItem f (s.data.toList.drop ((p + 1)))) e w') := Lib.hid (fun V i hi => by subst hi; exact IH.out s ((p + 1)) V hq hs)
      have E9 : Hid ((deep : Int) + 1 = ((deep + 1 : Nat) : Int)) := Lib.hid (by omega)
      go_wp2_with fail
      rw [E9.out]
      refine (HI.out _ _ (by first | rfl | omega)).mono ?_
      rintro e w4 hend
      rw [HW.out] at hend
      obtain ⟨T, HT⟩ : ∃ T, Hid (tItem f (s.data.toList.drop ((p + 1))) = T) := ⟨_, Lib.hid rfl⟩
      rw [HT.out] at hend
      have hWz := HWZ.out
      cases T with
      | none =>
       obtain ⟨hb4, v0, v1, rfl⟩ := hend
       have HE := Lib.hid (HAT.out.none HT.out)
       have hz4 := hb4.size
       have hlw : w.heap.size < w4.heap.size := by omega
       have HB4 := Lib.hid (HWB.out.trans (hb4.mono (by omega)))
       clear r0 r1 r2' r3 rf0 rf1 rf2 rf3 b0 b1 b2 b3 bf0 bf1 bf2 bf3
       obtain ⟨r0, r1, r2', r3, rf0, rf1, rf2, rf3⟩ := blk4 (HWR.out.keep hb4 (by omega))
       clear hb4 hWz
       go_wp2
       refine bodyPost_ret (v := badTy 0 0) (by simp [badTy, results, Tryz.results42, go_sem, r0, r1, r2', r3, World.cell?_alloc_lt, hlw]) rfl ?_
       rw [HE.out]
       refine ⟨?_, 0, 0, rfl⟩
       exact (((((HB4.out.setCell (by simp) _).setCell (by simp) _).setCell (by simp) _).setCell (by simp) _).alloc (by simp [World.setCell]; omega) _)
      | some z =>
       obtain ⟨y, r⟩ := z
       obtain ⟨hb4, c0, c1, c2, c3, rfl, hy⟩ := hend
       obtain ⟨HN, hn1, hn2'⟩ := HAT.out.some hq HT.out
       have HREL := Lib.hid HN
       have hz4 := hb4.size
       have HX4 := Lib.hid (HWX.out.keep hb4 (by omega))
       have HR4 := Lib.hid (HWR.out.keep hb4 (by omega))
       have HA4 := Lib.hid (HWA.out.below hb4)
       have HB4 := Lib.hid (HWB.out.trans (hb4.mono (by omega)))
       have hge := HWA.out.ge
       have HY : Hid (∀ o o', TyS ((w4.alloc o).alloc o') (fun k => w.heap.size + 2 ≤ k ∧ (Value.slice A2 0 cap2).ownBlock ≠ some k) y c0 c1 c2 c3) := Lib.hid (by
        intro o o'
        refine TyS.keep ?_ ?_ y hy
        ·intro k hk hS
         have hS : W.heap.size ≤ k := hS
         exact ⟨by omega, fun e => by have := (hge k e).2; omega⟩
        ·intro q hq _
         rw [World.cell?_alloc_lt _ _ _ (by rw [World.size_alloc]; omega), World.cell?_alloc_lt _ _ _ hq])
       have hlw : w.heap.size < w4.heap.size := by omega
       have hlw1 : w.heap.size + 1 < w4.heap.size := by omega
       have HGE := Lib.hid hge
       obtain ⟨AA, ccap, rfl, rfl, rfl, rfl, _⟩ := hy.open_
       clear r0 r1 r2' r3 rf0 rf1 rf2 rf3 b0 b1 b2 b3 bf0 bf1 bf2 bf3 hy HN hge hb4 hWz
       obtain ⟨b0, b1, b2, b3, bf0, bf1, bf2, bf3⟩ := blk4 HX4.out
       have hqn : ¬ ((s.size - r.length : Nat) : Int) < 0 := by omega
       have hqd : s.size - r.length ≤ s.size := by omega
       generalize s.size - r.length = pq at *
       go_wp2_with (at_builtin; refine wpList_append_type (by rfl) (.tmp 181) (.tmp 183) (by rfl) (w.heap.size + 2) [] (by rfl) ((HA4.out.below ((Below.refl _ _).alloc (Nat.le_refl _) _)).below ((Below.refl _ _).alloc (Nat.le_refl _) _)) y (HY.out _ _) _ (by rfl) (by simp) (by simp) (by simp) (by simp) (by first | omega | simp) (by simp only [World.size_alloc]; omega) ?_)
       intro g' n' cap' w5 hn' hacc5 hgr hlo
       have hno : ∀ k, k < w.heap.size + 2 → (Value.slice A2 0 cap2).ownBlock ≠ some k := fun k hk e => by
        have := (HGE.out k e).1
        omega
       have HX5 := Lib.hid (((HX4.out.alloc _).alloc _).grown hgr (hno _ (by omega)))
       have HR5 := Lib.hid (((HR4.out.alloc _).alloc _).grown hgr (hno _ (by omega)))
       have HB5 : Hid (Below w.heap.size w w5) := Lib.hid (((HB4.out.alloc (by omega) _).alloc (by simp; omega) _).grown hgr (by simp; omega) (fun k hk => by have := (HGE.out k hk).1; omega))
       have hz5 := hgr.size
       simp only [World.size_alloc] at hz5
       have HA5 := Lib.hid hacc5
       clear b0 b1 b2 b3 bf0 bf1 bf2 bf3 hgr hacc5 hno
       obtain ⟨b0, b1, b2, b3, bf0, bf1, bf2, bf3⟩ := blk4 HX5.out
       go_wp2
       go_roundw
       case rel =>
        have key : ∃ (p : Nat) (acc : List Ty) (tl : Nat) (vv : Value), p ≤ s.size ∧ Value.int .i64 (pq : Int) = .int .i64 p ∧ Hid (TLoop f s R p acc tl) ∧ acc.length ≤ p ∧ tl ≤ p ∧ Blk (w5.setCell ⟨w.heap.size + 1, 2, none⟩ (.slice (some ⟨g', 0, none⟩) n' cap')) w.heap.size 55 #[.int .i64 0, .int .i64 0, .slice none 0 0, .int .i64 0] ∧ Blk (w5.setCell ⟨w.heap.size + 1, 2, none⟩ (.slice (some ⟨g', 0, none⟩) n' cap')) (w.heap.size + 1) 55 #[.int .i64 5, .int .i64 0, vv, .int .i64 tl] ∧ AccT (w5.setCell ⟨w.heap.size + 1, 2, none⟩ (.slice (some ⟨g', 0, none⟩) n' cap')) (w.heap.size + 2) acc vv ∧ Below w.heap.size w (w5.setCell ⟨w.heap.size + 1, 2, none⟩ (.slice (some ⟨g', 0, none⟩) n' cap')) ∧ w.heap.size + 2 ≤ (w5.setCell ⟨w.heap.size + 1, 2, none⟩ (.slice (some ⟨g', 0, none⟩) n' cap')).heap.size := by
         refine ⟨pq, [] ++ [y], (tl + 1), .slice (some ⟨g', 0, none⟩) n' cap', hn2', rfl, HREL, ?_, by omega, HR5.out.far (by simp) _, ?_, ?_, HB5.out.setCell (by simp) _, ?_⟩
         ·simp only [List.length_append, List.length_cons, List.length_nil] at hlen ⊢; omega
         ·rw [ETL.out]; exact HX5.out.store rfl
         ·exact HA5.out.only ((Only.refl [w.heap.size + 1] w5).setCell (p := ⟨w.heap.size + 1, 2, none⟩) (by simp) _) (by simp)
         ·simp [World.setCell]; omega
        first | exact key | ((repeat apply Exists.intro); exact ⟨key, rfl⟩)
       case measure => simp [intOf]; omega
     ·have e8 : ((s[p].toNat : Int) == 63) = false := beq_eq_false_iff_ne.2 (by omega)
      have HN63 : Hid (∀ hq : p < s.size, s[p].toNat ≠ 63) := Lib.hid (fun _ => h63)
      clear h63
      by_cases htl0 : 0 < tl
      ·have HE := Lib.hid (HSEP.out.none_ HN63.out htl0)
       go_wp2
       refine bodyPost_ret (v := badTy 0 0) (by simp [badTy, results, Tryz.results42, go_sem, r0, r1, r2', r3]) rfl ?_
       rw [HE.out]
       exact ⟨(((HB.out.setCell (by simp) _).setCell (by simp) _).setCell (by simp) _).setCell (by simp) _, 0, 0, rfl⟩
      ·obtain rfl : tl = 0 := by omega
       have HAT := Lib.hid (HSEP.out.plain HN63.out)
       obtain ⟨W, hW⟩ : ∃ W, wr = W := ⟨_, rfl⟩
       have HWX : Hid (Blk W (w.heap.size + 1) 55 #[.int .i64 5, .int .i64 0, .slice A2 0 cap2, .int .i64 0]) := Lib.hid (by rw [← hW]; exact HBX.out)
       have HWR : Hid (Blk W w.heap.size 55 #[.int .i64 0, .int .i64 0, .slice none 0 0, .int .i64 0]) := Lib.hid (by rw [← hW]; exact HBR.out)
       have HWA : Hid (AccT W (w.heap.size + 2) [] (.slice A2 0 cap2)) := Lib.hid (by rw [← hW]; exact HACC.out)
       have HWB : Hid (Below w.heap.size w W) := Lib.hid (by rw [← hW]; exact HB.out)
       have HWZ : Hid (W.heap.size = wr.heap.size) := Lib.hid (by rw [← hW])
       have HW := Lib.hid hW
       have hq : p ≤ s.size := by omega
       have ETL : Hid (((0 : Nat) : Int) = (0 : Int)) := Lib.hid rfl
       clear hW HSEP HN63
       have HI : Hid (∀ (V : World) (i : Int), i = (((p) : Nat) : Int) → Calls Tryz.prog 42 #[.string s, .int .i64 i, .int .i64 ((deep + 1 : Nat) : Int)] V fun e w' => TyEnd s V (tItem f (s.data.toList.drop ((p)))) e w') := Lib.hid (fun V i hi => by subst hi; exact IH.out s ((p)) V hq hs)
       have E9 : Hid ((deep : Int) + 1 = ((deep + 1 : Nat) : Int)) := Lib.hid (by omega)
       go_wp2_with fail
       rw [E9.out]
       refine (HI.out _ _ (by first | rfl | omega)).mono ?_
       rintro e w4 hend
       rw [HW.out] at hend
       obtain ⟨T, HT⟩ : ∃ T, Hid (tItem f (s.data.toList.drop ((p))) = T) := ⟨_, Lib.hid rfl⟩
       rw [HT.out] at hend
       have hWz := HWZ.out
       cases T with
       | none =>
        obtain ⟨hb4, v0, v1, rfl⟩ := hend
        have HE := Lib.hid (HAT.out.none HT.out)
        have hz4 := hb4.size
        have hlw : w.heap.size < w4.heap.size := by omega
        have HB4 := Lib.hid (HWB.out.trans (hb4.mono (by omega)))
        clear r0 r1 r2' r3 rf0 rf1 rf2 rf3 b0 b1 b2 b3 bf0 bf1 bf2 bf3
        obtain ⟨r0, r1, r2', r3, rf0, rf1, rf2, rf3⟩ := blk4 (HWR.out.keep hb4 (by omega))
        clear hb4 hWz
        go_wp2
        refine bodyPost_ret (v := badTy 0 0) (by simp [badTy, results, Tryz.results42, go_sem, r0, r1, r2', r3, World.cell?_alloc_lt, hlw]) rfl ?_
        rw [HE.out]
        refine ⟨?_, 0, 0, rfl⟩
        exact (((((HB4.out.setCell (by simp) _).setCell (by simp) _).setCell (by simp) _).setCell (by simp) _).alloc (by simp [World.setCell]; omega) _)
       | some z =>
        obtain ⟨y, r⟩ := z
        obtain ⟨hb4, c0, c1, c2, c3, rfl, hy⟩ := hend
        obtain ⟨HN, hn1, hn2'⟩ := HAT.out.some hq HT.out
        have HREL := Lib.hid HN
        have hz4 := hb4.size
        have HX4 := Lib.hid (HWX.out.keep hb4 (by omega))
        have HR4 := Lib.hid (HWR.out.keep hb4 (by omega))
        have HA4 := Lib.hid (HWA.out.below hb4)
        have HB4 := Lib.hid (HWB.out.trans (hb4.mono (by omega)))
        have hge := HWA.out.ge
        have HY : Hid (∀ o o', TyS ((w4.alloc o).alloc o') (fun k => w.heap.size + 2 ≤ k ∧ (Value.slice A2 0 cap2).ownBlock ≠ some k) y c0 c1 c2 c3) := Lib.hid (by
         intro o o'
         refine TyS.keep ?_ ?_ y hy
         ·intro k hk hS
          have hS : W.heap.size ≤ k := hS
          exact ⟨by omega, fun e => by have := (hge k e).2; omega⟩
         ·intro q hq _
          rw [World.cell?_alloc_lt _ _ _ (by rw [World.size_alloc]; omega), World.cell?_alloc_lt _ _ _ hq])
        have hlw : w.heap.size < w4.heap.size := by omega
        have hlw1 : w.heap.size + 1 < w4.heap.size := by omega
        have HGE := Lib.hid hge
        obtain ⟨AA, ccap, rfl, rfl, rfl, rfl, _⟩ := hy.open_
        clear r0 r1 r2' r3 rf0 rf1 rf2 rf3 b0 b1 b2 b3 bf0 bf1 bf2 bf3 hy HN hge hb4 hWz
        obtain ⟨b0, b1, b2, b3, bf0, bf1, bf2, bf3⟩ := blk4 HX4.out
        have hqn : ¬ ((s.size - r.length : Nat) : Int) < 0 := by omega
        have hqd : s.size - r.length ≤ s.size := by omega
        generalize s.size - r.length = pq at *
        go_wp2_with (at_builtin; refine wpList_append_type (by rfl) (.tmp 181) (.tmp 183) (by rfl) (w.heap.size + 2) [] (by rfl) ((HA4.out.below ((Below.refl _ _).alloc (Nat.le_refl _) _)).below ((Below.refl _ _).alloc (Nat.le_refl _) _)) y (HY.out _ _) _ (by rfl) (by simp) (by simp) (by simp) (by simp) (by first | omega | simp) (by simp only [World.size_alloc]; omega) ?_)
        intro g' n' cap' w5 hn' hacc5 hgr hlo
        have hno : ∀ k, k < w.heap.size + 2 → (Value.slice A2 0 cap2).ownBlock ≠ some k := fun k hk e => by
         have := (HGE.out k e).1
         omega
        have HX5 := Lib.hid (((HX4.out.alloc _).alloc _).grown hgr (hno _ (by omega)))
        have HR5 := Lib.hid (((HR4.out.alloc _).alloc _).grown hgr (hno _ (by omega)))
        have HB5 : Hid (Below w.heap.size w w5) := Lib.hid (((HB4.out.alloc (by omega) _).alloc (by simp; omega) _).grown hgr (by simp; omega) (fun k hk => by have := (HGE.out k hk).1; omega))
        have hz5 := hgr.size
        simp only [World.size_alloc] at hz5
        have HA5 := Lib.hid hacc5
        clear b0 b1 b2 b3 bf0 bf1 bf2 bf3 hgr hacc5 hno
        obtain ⟨b0, b1, b2, b3, bf0, bf1, bf2, bf3⟩ := blk4 HX5.out
        go_wp2
        go_roundw
        case rel =>
         have key : ∃ (p : Nat) (acc : List Ty) (tl : Nat) (vv : Value), p ≤ s.size ∧ Value.int .i64 (pq : Int) = .int .i64 p ∧ Hid (TLoop f s R p acc tl) ∧ acc.length ≤ p ∧ tl ≤ p ∧ Blk (w5.setCell ⟨w.heap.size + 1, 2, none⟩ (.slice (some ⟨g', 0, none⟩) n' cap')) w.heap.size 55 #[.int .i64 0, .int .i64 0, .slice none 0 0, .int .i64 0] ∧ Blk (w5.setCell ⟨w.heap.size + 1, 2, none⟩ (.slice (some ⟨g', 0, none⟩) n' cap')) (w.heap.size + 1) 55 #[.int .i64 5, .int .i64 0, vv, .int .i64 tl] ∧ AccT (w5.setCell ⟨w.heap.size + 1, 2, none⟩ (.slice (some ⟨g', 0, none⟩) n' cap')) (w.heap.size + 2) acc vv ∧ Below w.heap.size w (w5.setCell ⟨w.heap.size + 1, 2, none⟩ (.slice (some ⟨g', 0, none⟩) n' cap')) ∧ w.heap.size + 2 ≤ (w5.setCell ⟨w.heap.size + 1, 2, none⟩ (.slice (some ⟨g', 0, none⟩) n' cap')).heap.size := by
          refine ⟨pq, [] ++ [y], 0, .slice (some ⟨g', 0, none⟩) n' cap', hn2', rfl, HREL, ?_, by omega, HR5.out.far (by simp) _, ?_, ?_, HB5.out.setCell (by simp) _, ?_⟩
          ·simp only [List.length_append, List.length_cons, List.length_nil] at hlen ⊢; omega
          ·rw [ETL.out]; exact HX5.out.store rfl
          ·exact HA5.out.only ((Only.refl [w.heap.size + 1] w5).setCell (p := ⟨w.heap.size + 1, 2, none⟩) (by simp) _) (by simp)
          ·simp [World.setCell]; omega
         first | exact key | ((repeat apply Exists.intro); exact ⟨key, rfl⟩)
        case measure => simp [intOf]; omega
    ·have hn0 : 0 < n2 := by
      rw [hn2.out]
      cases acc with
      | nil => exact absurd rfl ha
      | cons a b => simp
     by_cases h44 : s[p].toNat = 44
     ·have e7 : ((s[p].toNat : Int) != 44) = false := by simp [h44]
      have HSEP := Lib.hid (hrel.out.more hlp h44 ha)
      clear h125 ha h44
      by_cases hqs : (p + 1) < s.size
      ·by_cases h63 : s[(p + 1)].toNat = 63
       ·have e8 : ((s[(p + 1)].toNat : Int) == 63) = true := by simp [h63]
        have HAT := Lib.hid (HSEP.out.mark hqs h63)
        obtain ⟨W, hW⟩ : ∃ W, wr.setCell ⟨w.heap.size + 1, 3, none⟩ (.int .i64 ((tl : Int) + 1)) = W := ⟨_, rfl⟩
        have HWX : Hid (Blk W (w.heap.size + 1) 55 #[.int .i64 5, .int .i64 0, .slice A2 n2 cap2, .int .i64 ((tl : Int) + 1)]) := Lib.hid (by rw [← hW]; exact HBX.out.store rfl)
        have HWR : Hid (Blk W w.heap.size 55 #[.int .i64 0, .int .i64 0, .slice none 0 0, .int .i64 0]) := Lib.hid (by rw [← hW]; exact HBR.out.far (by simp) _)
        have HWA : Hid (AccT W (w.heap.size + 2) acc (.slice A2 n2 cap2)) := Lib.hid (by rw [← hW]; exact HACC.out.only ((Only.refl [w.heap.size + 1] wr).setCell (by simp) _) (by simp))
        have HWB : Hid (Below w.heap.size w W) := Lib.hid (by rw [← hW]; exact HB.out.setCell (by simp) _)
        have HWZ : Hid (W.heap.size = wr.heap.size) := Lib.hid (by rw [← hW]; simp [World.setCell])
        have HW := Lib.hid hW
        have hq : (p + 1) + 1 ≤ s.size := by omega
        have ETL : Hid (((tl + 1 : Nat) : Int) = (tl : Int) + 1) := Lib.hid (by omega)
        clear h63 hW HSEP
        have HI : Hid (∀ (V : World) (i : Int), i = ((((p + 1) + 1) : Nat) : Int) → Calls Tryz.prog 42 #[.string s, .int .i64 i, .int .i64 ((deep + 1 : Nat) : Int)] V fun e w' => TyEnd s V (tItem f (s.data.toList.drop (((p + 1) + 1)))) e w') := Lib.hid (fun V i hi => by subst hi; exact IH.out s (((p + 1) + 1)) V hq hs)
        have E9 : Hid ((deep : Int) + 1 = ((deep + 1 : Nat) : Int)) := Lib.hid (by omega)
        go_wp2_with fail
        rw [E9.out]
        refine (HI.out _ _ (by first | rfl | omega)).mono ?_
        rintro e w4 hend
        rw [HW.out] at hend
        obtain ⟨T, HT⟩ : ∃ T, Hid (tItem f (s.data.toList.drop (((p + 1) + 1))) = T) := ⟨_, Lib.hid rfl⟩
        rw [HT.out] at hend
        have hWz := HWZ.out
        cases T with
        | none =>
         obtain ⟨hb4, v0, v1, rfl⟩ := hend
         have HE := Lib.hid (HAT.out.none HT.out)
         have hz4 := hb4.size
         have hlw : w.heap.size < w4.heap.size := by omega
         have HB4 := Lib.hid (HWB.out.trans (hb4.mono (by omega)))
         clear r0 r1 r2' r3 rf0 rf1 rf2 rf3 b0 b1 b2 b3 bf0 bf1 bf2 bf3
         obtain ⟨r0, r1, r2', r3, rf0, rf1, rf2, rf3⟩ := blk4 (HWR.out.keep hb4 (by omega))
         clear hb4 hWz
         go_wp2
         refine bodyPost_ret (v := badTy 0 0) (by simp [badTy, results, Tryz.results42, go_sem, r0, r1, r2', r3, World.cell?_alloc_lt, hlw]) rfl ?_
         rw [HE.out]
         refine ⟨?_, 0, 0, rfl⟩
         exact (((((HB4.out.setCell (by simp) _).setCell (by simp) _).setCell (by simp) _).setCell (by simp) _).alloc (by simp [World.setCell]; omega) _)
        | some z =>
         obtain ⟨y, r⟩ := z
         obtain ⟨hb4, c0, c1, c2, c3, rfl, hy⟩ := hend
         obtain ⟨HN, hn1, hn2'⟩ := HAT.out.some hq HT.out
         have HREL := Lib.hid HN
         have hz4 := hb4.size
         have HX4 := Lib.hid (HWX.out.keep hb4 (by omega))
         have HR4 := Lib.hid (HWR.out.keep hb4 (by omega))
         have HA4 := Lib.hid (HWA.out.below hb4)
         have HB4 := Lib.hid (HWB.out.trans (hb4.mono (by omega)))
         have hge := HWA.out.ge
         have HY : Hid (∀ o o', TyS ((w4.alloc o).alloc o') (fun k => w.heap.size + 2 ≤ k ∧ (Value.slice A2 n2 cap2).ownBlock ≠ some k) y c0 c1 c2 c3) := Lib.hid (by
          intro o o'
          refine TyS.keep ?_ ?_ y hy
          ·intro k hk hS
           have hS : W.heap.size ≤ k := hS
           exact ⟨by omega, fun e => by have := (hge k e).2; omega⟩
          ·intro q hq _
           rw [World.cell?_alloc_lt _ _ _ (by rw [World.size_alloc]; omega), World.cell?_alloc_lt _ _ _ hq])
         have hlw : w.heap.size < w4.heap.size := by omega
         have hlw1 : w.heap.size + 1 < w4.heap.size := by omega
         have HGE := Lib.hid hge
         obtain ⟨AA, ccap, rfl, rfl, rfl, rfl, _⟩ := hy.open_
         clear r0 r1 r2' r3 rf0 rf1 rf2 rf3 b0 b1 b2 b3 bf0 bf1 bf2 bf3 hy HN hge hb4 hWz
         obtain ⟨b0, b1, b2, b3, bf0, bf1, bf2, bf3⟩ := blk4 HX4.out
         have hqn : ¬ ((s.size - r.length : Nat) : Int) < 0 := by omega
         have hqd : s.size - r.length ≤ s.size := by omega
         generalize s.size - r.length = pq at *
         go_wp2_with (at_builtin; refine wpList_append_type (by rfl) (.tmp 181) (.tmp 183) (by rfl) (w.heap.size + 2) acc (by rfl) ((HA4.out.below ((Below.refl _ _).alloc (Nat.le_refl _) _)).below ((Below.refl _ _).alloc (Nat.le_refl _) _)) y (HY.out _ _) _ (by rfl) (by simp) (by simp) (by simp) (by simp) (by first | omega | simp) (by simp only [World.size_alloc]; omega) ?_)
         intro g' n' cap' w5 hn' hacc5 hgr hlo
         have hno : ∀ k, k < w.heap.size + 2 → (Value.slice A2 n2 cap2).ownBlock ≠ some k := fun k hk e => by
          have := (HGE.out k e).1
          omega
         have HX5 := Lib.hid (((HX4.out.alloc _).alloc _).grown hgr (hno _ (by omega)))
         have HR5 := Lib.hid (((HR4.out.alloc _).alloc _).grown hgr (hno _ (by omega)))
         have HB5 : Hid (Below w.heap.size w w5) := Lib.hid (((HB4.out.alloc (by omega) _).alloc (by simp; omega) _).grown hgr (by simp; omega) (fun k hk => by have := (HGE.out k hk).1; omega))
         have hz5 := hgr.size
         simp only [World.size_alloc] at hz5
         have HA5 := Lib.hid hacc5
         clear b0 b1 b2 b3 bf0 bf1 bf2 bf3 hgr hacc5 hno
         obtain ⟨b0, b1, b2, b3, bf0, bf1, bf2, bf3⟩ := blk4 HX5.out
         go_wp2
         go_roundw
         case rel =>
          have key : ∃ (p : Nat) (acc : List Ty) (tl : Nat) (vv : Value), p ≤ s.size ∧ Value.int .i64 (pq : Int) = .int .i64 p ∧ Hid (TLoop f s R p acc tl) ∧ acc.length ≤ p ∧ tl ≤ p ∧ Blk (w5.setCell ⟨w.heap.size + 1, 2, none⟩ (.slice (some ⟨g', 0, none⟩) n' cap')) w.heap.size 55 #[.int .i64 0, .int .i64 0, .slice none 0 0, .int .i64 0] ∧ Blk (w5.setCell ⟨w.heap.size + 1, 2, none⟩ (.slice (some ⟨g', 0, none⟩) n' cap')) (w.heap.size + 1) 55 #[.int .i64 5, .int .i64 0, vv, .int .i64 tl] ∧ AccT (w5.setCell ⟨w.heap.size + 1, 2, none⟩ (.slice (some ⟨g', 0, none⟩) n' cap')) (w.heap.size + 2) acc vv ∧ Below w.heap.size w (w5.setCell ⟨w.heap.size + 1, 2, none⟩ (.slice (some ⟨g', 0, none⟩) n' cap')) ∧ w.heap.size + 2 ≤ (w5.setCell ⟨w.heap.size + 1, 2, none⟩ (.slice (some ⟨g', 0, none⟩) n' cap')).heap.size := by
           refine ⟨pq, acc ++ [y], (tl + 1), .slice (some ⟨g', 0, none⟩) n' cap', hn2', rfl, HREL, ?_, by omega, HR5.out.far (by simp) _, ?_, ?_, HB5.out.setCell (by simp) _, ?_⟩
           ·simp only [List.length_append, List.length_cons, List.length_nil] at hlen ⊢; omega
           ·rw [ETL.out]; exact HX5.out.store rfl
           ·exact HA5.out.only ((Only.refl [w.heap.size + 1] w5).setCell (p := ⟨w.heap.size + 1, 2, none⟩) (by simp) _) (by simp)
           ·simp [World.setCell]; omega
          first | exact key | ((repeat apply Exists.intro); exact ⟨key, rfl⟩)
         case measure => simp [intOf]; omega
       ·have e8 : ((s[(p + 1)].toNat : Int) == 63) = false := beq_eq_false_iff_ne.2 (by omega)
        have HN63 : Hid (∀ hq : (p + 1) < s.size, s[(p + 1)].toNat ≠ 63) := Lib.hid (fun _ => h63)
        clear h63
        by_cases htl0 : 0 < tl
        ·have HE := Lib.hid (HSEP.out.none_ HN63.out htl0)
         go_wp2
         refine bodyPost_ret (v := badTy 0 0) (by simp [badTy, results, Tryz.results42, go_sem, r0, r1, r2', r3]) rfl ?_
         rw [HE.out]
         exact ⟨(((HB.out.setCell (by simp) _).setCell (by simp) _).setCell (by simp) _).setCell (by simp) _, 0, 0, rfl⟩
        ·obtain rfl : tl = 0 := by omega
         have HAT := Lib.hid (HSEP.out.plain HN63.out)
         obtain ⟨W, hW⟩ : ∃ W, wr = W := ⟨_, rfl⟩
         have HWX : Hid (Blk W (w.heap.size + 1) 55 #[.int .i64 5, .int .i64 0, .slice A2 n2 cap2, .int .i64 0]) := Lib.hid (by rw [← hW]; exact HBX.out)
         have HWR : Hid (Blk W w.heap.size 55 #[.int .i64 0, .int .i64 0, .slice none 0 0, .int .i64 0]) := Lib.hid (by rw [← hW]; exact HBR.out)
         have HWA : Hid (AccT W (w.heap.size + 2) acc (.slice A2 n2 cap2)) := Lib.hid (by rw [← hW]; exact HACC.out)
         have HWB : Hid (Below w.heap.size w W) := Lib.hid (by rw [← hW]; exact HB.out)
         have HWZ : Hid (W.heap.size = wr.heap.size) := Lib.hid (by rw [← hW])
         have HW := Lib.hid hW
         have hq : (p + 1) ≤ s.size := by omega
         have ETL : Hid (((0 : Nat) : Int) = (0 : Int)) := Lib.hid rfl
         clear hW HSEP HN63
         have HI : Hid (∀ (V : World) (i : Int), i = ((((p + 1)) : Nat) : Int) → Calls Tryz.prog 42 #[.string s, .int .i64 i, .int .i64 ((deep + 1 : Nat) : Int)] V fun e w' => TyEnd s V (tItem f (s.data.toList.drop (((p + 1))))) e w') := Lib.hid (fun V i hi => by subst hi; exact IH.out s (((p + 1))) V hq hs)
         have E9 : Hid ((deep : Int) + 1 = ((deep + 1 : Nat) : Int)) := Lib.hid (by omega)
         go_wp2_with fail
         rw [E9.out]
         refine (HI.out _ _ (by first | rfl | omega)).mono ?_
         rintro e w4 hend
         rw [HW.out] at hend
         obtain ⟨T, HT⟩ : ∃ T, Hid (tItem f (s.data.toList.drop (((p + 1)))) = T) := ⟨_, Lib.hid rfl⟩
         rw [HT.out] at hend
         have hWz := HWZ.out
         cases T with
         | none =>
          obtain ⟨hb4, v0, v1, rfl⟩ := hend
          have HE := Lib.hid (HAT.out.none HT.out)
          have hz4 := hb4.size
          have hlw : w.heap.size < w4.heap.size := by omega
          have HB4 := Lib.hid (HWB.out.trans (hb4.mono (by omega)))
          clear r0 r1 r2' r3 rf0 rf1 rf2 rf3 b0 b1 b2 b3 bf0 bf1 bf2 bf3
          obtain ⟨r0, r1, r2', r3, rf0, rf1, rf2, rf3⟩ := blk4 (HWR.out.keep hb4 (by omega))
          clear hb4 hWz
          go_wp2
          refine bodyPost_ret (v := badTy 0 0) (by simp [badTy, results, Tryz.results42, go_sem, r0, r1, r2', r3, World.cell?_alloc_lt, hlw]) rfl ?_
          rw [HE.out]
          refine ⟨?_, 0, 0, rfl⟩
          exact (((((HB4.out.setCell (by simp) _).setCell (by simp) _).setCell (by simp) _).setCell (by simp) _).alloc (by simp [World.setCell]; omega) _)
         | some z =>
          obtain ⟨y, r⟩ := z
          obtain ⟨hb4, c0, c1, c2, c3, rfl, hy⟩ := hend
          obtain ⟨HN, hn1, hn2'⟩ := HAT.out.some hq HT.out
          have HREL := Lib.hid HN
          have hz4 := hb4.size
          have HX4 := Lib.hid (HWX.out.keep hb4 (by omega))
          have HR4 := Lib.hid (HWR.out.keep hb4 (by omega))
          have HA4 := Lib.hid (HWA.out.below hb4)
          have HB4 := Lib.hid (HWB.out.trans (hb4.mono (by omega)))
          have hge := HWA.out.ge
          have HY : Hid (∀ o o', TyS ((w4.alloc o).alloc o') (fun k => w.heap.size + 2 ≤ k ∧ (Value.slice A2 n2 cap2).ownBlock ≠ some k) y c0 c1 c2 c3) := Lib.hid (by
           intro o o'
           refine TyS.keep ?_ ?_ y hy
           ·intro k hk hS
            have hS : W.heap.size ≤ k := hS
            exact ⟨by omega, fun e => by have := (hge k e).2; omega⟩
           ·intro q hq _
            rw [World.cell?_alloc_lt _ _ _ (by rw [World.size_alloc]; omega), World.cell?_alloc_lt _ _ _ hq])
          have hlw : w.heap.size < w4.heap.size := by omega
          have hlw1 : w.heap.size + 1 < w4.heap.size := by omega
          have HGE := Lib.hid hge
          obtain ⟨AA, ccap, rfl, rfl, rfl, rfl, _⟩ := hy.open_
          clear r0 r1 r2' r3 rf0 rf1 rf2 rf3 b0 b1 b2 b3 bf0 bf1 bf2 bf3 hy HN hge hb4 hWz
          obtain ⟨b0, b1, b2, b3, bf0, bf1, bf2, bf3⟩ := blk4 HX4.out
          have hqn : ¬ ((s.size - r.length : Nat) : Int) < 0 := by omega
          have hqd : s.size - r.length ≤ s.size := by omega
          generalize s.size - r.length = pq at *
          go_wp2_with (at_builtin; refine wpList_append_type (by rfl) (.tmp 181) (.tmp 183) (by rfl) (w.heap.size + 2) acc (by rfl) ((HA4.out.below ((Below.refl _ _).alloc (Nat.le_refl _) _)).below ((Below.refl _ _).alloc (Nat.le_refl _) _)) y (HY.out _ _) _ (by rfl) (by simp) (by simp) (by simp) (by simp) (by first | omega | simp) (by simp only [World.size_alloc]; omega) ?_)
          intro g' n' cap' w5 hn' hacc5 hgr hlo
          have hno : ∀ k, k < w.heap.size + 2 → (Value.slice A2 n2 cap2).ownBlock ≠ some k := fun k hk e => by
           have := (HGE.out k e).1
           omega
          have HX5 := Lib.hid (((HX4.out.alloc _).alloc _).grown hgr (hno _ (by omega)))
          have HR5 := Lib.hid (((HR4.out.alloc _).alloc _).grown hgr (hno _ (by omega)))
          have HB5 : Hid (Below w.heap.size w w5) := Lib.hid (((HB4.out.alloc (by omega) _).alloc (by simp; omega) _).grown hgr (by simp; omega) (fun k hk => by have := (HGE.out k hk).1; omega))
          have hz5 := hgr.size
          simp only [World.size_alloc] at hz5
          have HA5 := Lib.hid hacc5
          clear b0 b1 b2 b3 bf0 bf1 bf2 bf3 hgr hacc5 hno
          obtain ⟨b0, b1, b2, b3, bf0, bf1, bf2, bf3⟩ := blk4 HX5.out
          go_wp2
          go_roundw
          case rel =>
           have key : ∃ (p : Nat) (acc : List Ty) (tl : Nat) (vv : Value), p ≤ s.size ∧ Value.int .i64 (pq : Int) = .int .i64 p ∧ Hid (TLoop f s R p acc tl) ∧ acc.length ≤ p ∧ tl ≤ p ∧ Blk (w5.setCell ⟨w.heap.size + 1, 2, none⟩ (.slice (some ⟨g', 0, none⟩) n' cap')) w.heap.size 55 #[.int .i64 0, .int .i64 0, .slice none 0 0, .int .i64 0] ∧ Blk (w5.setCell ⟨w.heap.size + 1, 2, none⟩ (.slice (some ⟨g', 0, none⟩) n' cap')) (w.heap.size + 1) 55 #[.int .i64 5, .int .i64 0, vv, .int .i64 tl] ∧ AccT (w5.setCell ⟨w.heap.size + 1, 2, none⟩ (.slice (some ⟨g', 0, none⟩) n' cap')) (w.heap.size + 2) acc vv ∧ Below w.heap.size w (w5.setCell ⟨w.heap.size + 1, 2, none⟩ (.slice (some ⟨g', 0, none⟩) n' cap')) ∧ w.heap.size + 2 ≤ (w5.setCell ⟨w.heap.size + 1, 2, none⟩ (.slice (some ⟨g', 0, none⟩) n' cap')).heap.size := by
            refine ⟨pq, acc ++ [y], 0, .slice (some ⟨g', 0, none⟩) n' cap', hn2', rfl, HREL, ?_, by omega, HR5.out.far (by simp) _, ?_, ?_, HB5.out.setCell (by simp) _, ?_⟩
            ·simp only [List.length_append, List.length_cons, List.length_nil] at hlen ⊢; omega
            ·rw [ETL.out]; exact HX5.out.store rfl
            ·exact HA5.out.only ((Only.refl [w.heap.size + 1] w5).setCell (p := ⟨w.heap.size + 1, 2, none⟩) (by simp) _) (by simp)
            ·simp [World.setCell]; omega
           first | exact key | ((repeat apply Exists.intro); exact ⟨key, rfl⟩)
          case measure => simp [intOf]; omega
      ·have HN63 : Hid (∀ hq : (p + 1) < s.size, s[(p + 1)].toNat ≠ 63) := Lib.hid (fun h => absurd h hqs)
       by_cases htl0 : 0 < tl
       ·have HE := Lib.hid (HSEP.out.none_ HN63.out htl0)
        go_wp2
        refine bodyPost_ret (v := badTy 0 0) (by simp [badTy, results, Tryz.results42, go_sem, r0, r1, r2', r3]) rfl ?_
        rw [HE.out]
        exact ⟨(((HB.out.setCell (by simp) _).setCell (by simp) _).setCell (by simp) _).setCell (by simp) _, 0, 0, rfl⟩
       ·obtain rfl : tl = 0 := by omega
        have HAT := Lib.hid (HSEP.out.plain HN63.out)
        obtain ⟨W, hW⟩ : ∃ W, wr = W := ⟨_, rfl⟩
        have HWX : Hid (Blk W (w.heap.size + 1) 55 #[.int .i64 5, .int .i64 0, .slice A2 n2 cap2, .int .i64 0]) := Lib.hid (by rw [← hW]; exact HBX.out)
        have HWR : Hid (Blk W w.heap.size 55 #[.int .i64 0, .int .i64 0, .slice none 0 0, .int .i64 0]) := Lib.hid (by rw [← hW]; exact HBR.out)
        have HWA : Hid (AccT W (w.heap.size + 2) acc (.slice A2 n2 cap2)) := Lib.hid (by rw [← hW]; exact HACC.out)
        have HWB : Hid (Below w.heap.size w W) := Lib.hid (by rw [← hW]; exact HB.out)
        have HWZ : Hid (W.heap.size = wr.heap.size) := Lib.hid (by rw [← hW])
        have HW := Lib.hid hW
        have hq : (p + 1) ≤ s.size := by omega
        have ETL : Hid (((0 : Nat) : Int) = (0 : Int)) := Lib.hid rfl
        clear hW HSEP HN63
        have HI : Hid (∀ (V : World) (i : Int), i = ((((p + 1)) : Nat) : Int) → Calls Tryz.prog 42 #[.string s, .int .i64 i, .int .i64 ((deep + 1 : Nat) : Int)] V fun e w' => TyEnd s V (tItem f (s.data.toList.drop (((p + 1))))) e w') := Lib.hid (fun V i hi => by subst hi; exact IH.out s (((p + 1))) V hq hs)
        have E9 : Hid ((deep : Int) + 1 = ((deep + 1 : Nat) : Int)) := Lib.hid (by omega)
        go_wp2_with fail
        rw [E9.out]
        refine (HI.out _ _ (by first | rfl | omega)).mono ?_
        rintro e w4 hend
        rw [HW.out] at hend
        have HT : Hid (tItem f (s.data.toList.drop (((p + 1)))) = none) := Lib.hid (by rw [List.drop_eq_nil_of_le (by simp; omega), tItem_nil])
        rw [HT.out] at hend
        have hWz := HWZ.out
        obtain ⟨hb4, v0, v1, rfl⟩ := hend
        have HE := Lib.hid (HAT.out.none HT.out)
        have hz4 := hb4.size
        have hlw : w.heap.size < w4.heap.size := by omega
        have HB4 := Lib.hid (HWB.out.trans (hb4.mono (by omega)))
        clear r0 r1 r2' r3 rf0 rf1 rf2 rf3 b0 b1 b2 b3 bf0 bf1 bf2 bf3
        obtain ⟨r0, r1, r2', r3, rf0, rf1, rf2, rf3⟩ := blk4 (HWR.out.keep hb4 (by omega))
        clear hb4 hWz
        go_wp2
        refine bodyPost_ret (v := badTy 0 0) (by simp [badTy, results, Tryz.results42, go_sem, r0, r1, r2', r3, World.cell?_alloc_lt, hlw]) rfl ?_
        rw [HE.out]
        refine ⟨?_, 0, 0, rfl⟩
        exact (((((HB4.out.setCell (by simp) _).setCell (by simp) _).setCell (by simp) _).setCell (by simp) _).alloc (by simp [World.setCell]; omega) _)
     ·have e7 : ((s[p].toNat : Int) != 44) = true := by simp; omega
      have HE := Lib.hid (hrel.out.bad hlp h125 h44 ha)
      clear h125 ha h44
      go_wp2
      refine bodyPost_ret (v := badTy 0 0) (by simp [badTy, results, Tryz.results42, go_sem, r0, r1, r2', r3]) rfl ?_
      rw [HE.out]
      exact ⟨(((HB.out.setCell (by simp) _).setCell (by simp) _).setCell (by simp) _).setCell (by simp) _, 0, 0, rfl⟩
  ·have HE := Lib.hid (hrel.out.stop (by omega))
   go_wp2
   refine bodyPost_ret (v := badTy 0 0) (by simp [badTy, results, Tryz.results42, go_sem, r0, r1, r2', r3]) rfl ?_
   rw [HE.out]
   exact ⟨(((HB.out.setCell (by simp) _).setCell (by simp) _).setCell (by simp) _).setCell (by simp) _, 0, 0, rfl⟩
theorem tyParse_c : ∀ (f deep : Nat), deep + f = 9 → ∀ (s : ByteArray) (at_ : Nat) (w : World), at_ ≤ s.size → s.size ≤ 100000 →
 Calls Tryz.prog 42 #[.string s, .int .i64 at_, .int .i64 deep] w fun e w' => TyEnd s w (tItem f (s.data.toList.drop at_)) e w' := by
 intro f
 induction f with
 | zero =>
  intro deep hdp s at_ w hat hs
  have HE : Hid (tItem 0 (s.data.toList.drop at_) = none) := Lib.hid rfl
  generalize tItem 0 (s.data.toList.drop at_) = R at *
  have hd8 : 8 < deep := by omega
  clear hdp
  by_cases hlt : at_ < s.size
  ·go_enter Tryz.func42, Tryz.ntmps42
   go_wp2
   refine bodyPost_ret (v := badTy 0 0) (by simp [badTy, results, Tryz.results42, go_sem, HE]) rfl ?_
   rw [HE.out]
   exact ⟨blw, 0, 0, rfl⟩
  ·go_enter Tryz.func42, Tryz.ntmps42
   go_wp2
   refine bodyPost_ret (v := badTy 0 0) (by simp [badTy, results, Tryz.results42, go_sem, HE]) rfl ?_
   rw [HE.out]
   exact ⟨blw, 0, 0, rfl⟩
 | succ f ih =>
  intro deep hdp s at_ w hat hs
  have IH := Lib.hid (fun s at_ w => ih (deep + 1) (by omega) s at_ w)
  have hd8 : deep ≤ 8 := by omega
  clear ih hdp
  obtain ⟨R, HR⟩ : ∃ R, Hid (tItem (f + 1) (s.data.toList.drop at_) = R) := ⟨_, Lib.hid rfl⟩
  rw [HR.out]
  by_cases hlt : at_ < s.size
  ·by_cases hl : s[at_].toNat = 91
   ·exact tyParse_list f deep hd8 IH s at_ w hat hs R HR hlt hl
   ·by_cases ht : s[at_].toNat = 123
    ·exact tyParse_struct f deep hd8 IH s at_ w hat hs R HR hlt ht
    ·exact tyParse_num f deep hd8 IH s at_ w hat hs R HR hlt hl ht
  ·have HE : Hid (R = none) := Lib.hid (by rw [← HR.out, List.drop_eq_nil_of_le (by simp; omega), tItem_nil])
   clear HR
   go_enter Tryz.func42, Tryz.ntmps42
   go_wp2
   refine bodyPost_ret (v := badTy 0 0) (by simp [badTy, results, Tryz.results42, go_sem, HE]) rfl ?_
   rw [HE.out]
   exact ⟨blw, 0, 0, rfl⟩
theorem tLoop_count {p : List UInt8 → Option (Ty × List UInt8)} (hp : ∀ l y r, p l = some (y, r) → y.count + r.length ≤ l.length) : ∀ n l acc tl y r, tLoop p n l acc tl = some (y, r) → y.count + r.length ≤ countT acc + l.length
 | 0, _, _, _, _, _, h => by simp [tLoop] at h
 | n + 1, [], _, _, _, _, h => by simp [tLoop] at h
 | n + 1, c :: l, acc, tl, y, r, h => by
  unfold tLoop at h
  split at h
  ·injection h with h; injection h with h1 h2
   rw [← h1, ← h2]; simp [Ty.count]; omega
  ·split at h
   ·cases h
   ·rename_i l1 h1
    split at h
    ·cases h
    ·rename_i l2 tl' h2
     split at h
     ·cases h
     ·rename_i y' r' h3
      have k1 := (tSep_some h1).length_le
      have k2 := (tQ_some h2).length_le
      have k3 := hp _ _ _ h3
      have k4 := tLoop_count hp n _ _ _ _ _ h
      rw [countT_append] at k4
      simp only [countT] at k4
      omega
theorem tItem_count : ∀ (f : Nat) (l : List UInt8) (y : Ty) (r : List UInt8), tItem f l = some (y, r) → y.count + r.length ≤ l.length
 | 0, _, _, _, h => by simp [tItem] at h
 | f + 1, [], _, _, h => by simp [tItem] at h
 | f + 1, c :: l, y, r, h => by
  have hl := (tItem_sfx _ _ _ _ h).2
  have hs := tItem_sfx _ _ _ _ h
  unfold tItem at h
  split at h
  ·split at h
   ·cases h
   ·split at h
    ·injection h with h; injection h with h1 h2; subst h1; simp [Ty.count, countT] at hl ⊢; omega
    ·cases h
  ·split at h
   ·split at h
    ·cases h
    ·injection h with h; injection h with h1 h2; subst h1; simp [Ty.count, countT] at hl ⊢; omega
   ·split at h
    ·split at h
     ·cases h
     ·injection h with h; injection h with h1 h2; subst h1; simp [Ty.count, countT] at hl ⊢; omega
    ·split at h
     ·split at h
      ·cases h
      ·rename_i x r' h1
       have k1 := tItem_count f _ _ _ h1
       have k2 := tTail_sfx h
       have k3 : y.count = 1 + x.count := by
        unfold tTail at h
        match r', h with
        | d :: r', h =>
         simp only at h
         split at h
         ·split at h
          ·cases h
          ·cases h
          ·split at h
           ·injection h with h; injection h with h3 h4; rw [← h3]; simp [Ty.count, countT]
           ·cases h
         ·cases h
       have := k2.2
       simp; omega
     ·split at h
      ·have k := tLoop_count (tItem_count f) _ _ _ _ _ _ h
       simp [countT] at k ⊢; omega
      ·cases h
def readT : Option (Ty × List UInt8) → Option Ty
 | none => none
 | some (x, []) => if x.may then some x else none
 | some (_, _ :: _) => none
theorem readTy_eq (l : List UInt8) : readTy l = readT (tItem 8 l) := by
 unfold readTy
 rcases tItem 8 l with _ | ⟨x, r⟩
 ·rfl
 ·cases r <;> rfl
theorem refGet20_c (s : ByteArray) (w : World) (hs : s.size ≤ 100000) :
 Calls Tryz.prog 21 #[.string s] w fun e w' => GetEnd20 w (readTy s.data.toList) e w' := by
 have HC := Lib.hid (tyParse_c 8 1 rfl s 0 (w.alloc (.cells #[.int .i64 0, .int .i64 0, .slice none 0 0, .int .i64 0] 55)) (Nat.zero_le _) hs)
 obtain ⟨T, HT⟩ : ∃ T, Hid (tItem 8 s.data.toList = T) := ⟨_, Lib.hid rfl⟩
 rw [List.drop_zero, HT.out] at HC
 obtain ⟨R, HR⟩ : ∃ R, Hid (readTy s.data.toList = R) := ⟨_, Lib.hid rfl⟩
 rw [HR.out]
 have HRD : Hid (readT T = R) := Lib.hid (by rw [← HR.out, readTy_eq, HT.out])
 clear HR
 cases T with
 | none =>
  have HE : Hid (R = none) := Lib.hid HRD.out.symm
  go_enter Tryz.func21, Tryz.ntmps21
  go_wp2_with fail
  refine HC.out.mono ?_
  rintro e w4 ⟨hb, v0, v1, rfl⟩
  have hbk := (Blk.new w 55 #[.int .i64 0, .int .i64 0, .slice none 0 0, .int .i64 0]).keep hb (by simp)
  have HBK := Lib.hid hbk
  obtain ⟨r0, r1, r2, r3, rf0, rf1, rf2, rf3⟩ := blk4 hbk
  have hz := hb.size
  simp only [World.size_alloc] at hz
  have hlw : w.heap.size < w4.heap.size := by omega
  have HB4 : Hid (Below w.heap.size w w4) := Lib.hid (((Below.refl w.heap.size w).alloc (Nat.le_refl _) _).trans (hb.mono (by simp)))
  clear hb hbk
  have n1 : ((-1 : Int) != (s.size : Int)) = true := by simp
  go_wp2
  refine bodyPost_ret (v := .tuple #[.agg #[.int .i64 0, .int .i64 0, .slice none 0 0, .int .i64 0], .int .i64 3]) (by simp [results, Tryz.results21, go_sem, r0, r1, r2, r3, World.cell?_alloc_lt, hlw]) rfl ?_
  rw [HE.out]
  exact ⟨(((((HB4.out.setCell (by simp) _).setCell (by simp) _).setCell (by simp) _).setCell (by simp) _).alloc (by simp [World.setCell]; omega) _), rfl⟩
 | some z =>
  obtain ⟨x, r⟩ := z
  have hcnt := tItem_count _ _ _ _ HT.out
  have hlen := (tItem_sfx _ _ _ _ HT.out).2
  rw [toList_size] at hcnt hlen
  cases r with
  | cons c r =>
   have HE : Hid (R = none) := Lib.hid HRD.out.symm
   have n1 : (((s.size - (c :: r).length : Nat) : Int) != (s.size : Int)) = true := by simp at hlen ⊢; omega
   have n2 : ((s.size - (c :: r).length) != s.size) = true := by simp at hlen ⊢; omega
   generalize s.size - (c :: r).length = q at *
   go_enter Tryz.func21, Tryz.ntmps21
   go_wp2_with fail
   refine HC.out.mono ?_
   rintro e w4 ⟨hb, c0, c1, c2, c3, rfl, hy⟩
   obtain ⟨AA, ccap, rfl, rfl, rfl, rfl, _⟩ := hy.open_
   have hbk := (Blk.new w 55 #[.int .i64 0, .int .i64 0, .slice none 0 0, .int .i64 0]).keep hb (by simp)
   have HBK := Lib.hid hbk
   obtain ⟨r0, r1, r2, r3, rf0, rf1, rf2, rf3⟩ := blk4 hbk
   have hz := hb.size
   simp only [World.size_alloc] at hz
   have hlw : w.heap.size < w4.heap.size := by omega
   have HB4 : Hid (Below w.heap.size w w4) := Lib.hid (((Below.refl w.heap.size w).alloc (Nat.le_refl _) _).trans (hb.mono (by simp)))
   clear hb hbk
   go_wp2
   refine bodyPost_ret (v := .tuple #[.agg #[.int .i64 0, .int .i64 0, .slice none 0 0, .int .i64 0], .int .i64 3]) (by simp [results, Tryz.results21, go_sem, r0, r1, r2, r3, World.cell?_alloc_lt, hlw]) rfl ?_
   rw [HE.out]
   exact ⟨(((((HB4.out.setCell (by simp) _).setCell (by simp) _).setCell (by simp) _).setCell (by simp) _).alloc (by simp [World.setCell]; omega) _), rfl⟩
  | nil =>
   have n1 : ((s.size : Int) != (s.size : Int)) = false := by simp
   have n2 : (s.size != s.size) = false := by simp
   have HCN := Lib.hid hcnt
   obtain ⟨m, hm⟩ : ∃ m, x.may = m := ⟨_, rfl⟩
   have HE : Hid (R = if m then some x else none) := Lib.hid (by rw [← hm]; exact HRD.out.symm)
   clear hcnt hlen
   go_enter Tryz.func21, Tryz.ntmps21
   go_wp2_with fail
   refine HC.out.mono ?_
   rintro e w4 ⟨hb, c0, c1, c2, c3, rfl, hy⟩
   have HY := Lib.hid hy
   obtain ⟨AA, ccap, rfl, rfl, rfl, rfl, _⟩ := hy.open_
   have hbk := (Blk.new w 55 #[.int .i64 0, .int .i64 0, .slice none 0 0, .int .i64 0]).keep hb (by simp)
   have HBK := Lib.hid hbk
   obtain ⟨r0, r1, r2, r3, rf0, rf1, rf2, rf3⟩ := blk4 hbk
   have hz := hb.size
   simp only [World.size_alloc] at hz
   have hlw : w.heap.size < w4.heap.size := by omega
   have HB4 : Hid (Below w.heap.size w w4) := Lib.hid (((Below.refl w.heap.size w).alloc (Nat.le_refl _) _).trans (hb.mono (by simp)))
   clear hb hbk
   have hin := TyS.toIn x (HY.out.below ((Below.refl _ _).alloc (Nat.le_refl _) (.cells #[.int .i64 x.kind, .int .i64 x.size, .slice AA x.sub.length ccap, .int .i64 x.tail] 55)))
   have HM := Lib.hid (may20_c x _ (w4.alloc (.cells #[.int .i64 x.kind, .int .i64 x.size, .slice AA x.sub.length ccap, .int .i64 x.tail] 55)) _ _ _ _ hin (Nat.le_refl _) (by have := HCN.out; omega))
   rw [hm] at HM
   have HXO := Lib.hid hm
   clear hin hm hy
   have HS0 : Hid (s.size - ([] : List UInt8).length = s.size) := Lib.hid rfl
   go_wp2_with fail
   refine HM.out.mono ?_
   rintro e w5 ⟨rfl, hb5⟩
   have hz5 := hb5.size
   simp only [World.size_alloc] at hz5
   clear r0 r1 r2 r3 rf0 rf1 rf2 rf3
   obtain ⟨r0, r1, r2, r3, rf0, rf1, rf2, rf3⟩ := blk4 ((HBK.out.alloc _).keep hb5 (by simp; omega))
   obtain ⟨b0, b1, b2, b3, bf0, bf1, bf2, bf3⟩ := blk4 ((Blk.new w4 55 #[.int .i64 x.kind, .int .i64 x.size, .slice AA x.sub.length ccap, .int .i64 x.tail]).keep hb5 (by simp))
   have HB5 : Hid (Below w.heap.size w w5) := Lib.hid ((HB4.out.alloc (by omega) _).trans (hb5.mono (by simp; omega)))
   have HY5 := Lib.hid ((HY.out.below ((Below.refl _ _).alloc (Nat.le_refl _) (.cells #[.int .i64 x.kind, .int .i64 x.size, .slice AA x.sub.length ccap, .int .i64 x.tail] 55))).below hb5)
   clear hb5
   cases m with
   | true =>
    go_wp2
    refine bodyPost_ret (v := .tuple #[.agg #[.int .i64 x.kind, .int .i64 x.size, .slice AA x.sub.length ccap, .int .i64 x.tail], .int .i64 0]) (by simp [results, Tryz.results21, go_sem, r0, r1, r2, r3]) rfl ?_
    rw [HE.out]
    refine ⟨(((HB5.out.setCell (by simp) _).setCell (by simp) _).setCell (by simp) _).setCell (by simp) _, _, _, _, _, rfl, ?_⟩
    refine HY5.out.only (L := [w.heap.size]) onl ?_ ?_
    ·intro k hk hs
     have hk : k = w.heap.size := by simpa using hk
     have hs : (w.alloc (.cells #[.int .i64 0, .int .i64 0, .slice none 0 0, .int .i64 0] 55)).heap.size ≤ k := hs
     simp at hs
     omega
    ·intro k _ hs
     have hs : (w.alloc (.cells #[.int .i64 0, .int .i64 0, .slice none 0 0, .int .i64 0] 55)).heap.size ≤ k := hs
     simp at hs
     show w.heap.size ≤ k
     omega
   | false =>
    go_wp2
    refine bodyPost_ret (v := .tuple #[.agg #[.int .i64 0, .int .i64 0, .slice none 0 0, .int .i64 0], .int .i64 3]) (by simp [results, Tryz.results21, go_sem, r0, r1, r2, r3, World.cell?_alloc_lt, hlw]) rfl ?_
    rw [HE.out]
    exact ⟨(((HB5.out.setCell (by simp) _).setCell (by simp) _).setCell (by simp) _).setCell (by simp) _, rfl⟩
end Go.Proofs.YtnfpgadegpmhkaaGreatDoor
