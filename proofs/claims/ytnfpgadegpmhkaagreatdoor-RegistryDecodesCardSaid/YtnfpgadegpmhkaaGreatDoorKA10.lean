/- The document's Same, of items. -/
import Derived.Test.YtnfpgadegpmhkaaGreatDoorKA9
import Derived.Test.YtnfpgadegpmhkaaGreatDoorKA5
import Derived.StillTailTactics
import Derived.Deep.Draws
set_option linter.unusedVariables false
set_option linter.unusedSimpArgs false
set_option maxRecDepth 100000
set_option maxHeartbeats 1600000
namespace Go.Proofs.YtnfpgadegpmhkaaGreatDoor
open Go.RowKit
def SameIs (a b : It) (e : Ending) : Prop := ∃ r : Bool, e = .returned (.bool r) ∧ (r = true ↔ a = b)
theorem SameIs.no {a b : It} (h : a ≠ b) : SameIs a b (.returned (.bool false)) := ⟨false, rfl, by simp [h]⟩
theorem SameIs.yes {a b : It} (h : a = b) : SameIs a b (.returned (.bool true)) := ⟨true, rfl, by simp [h]⟩
theorem list_eq_of {s s' : List It} (hl : s.length = s'.length) (h : ∀ j (h1 : j < s.length) (h2 : j < s'.length), s[j] = s'[j]) : s = s' := List.ext_getElem hl h
theorem refSame_c : ∀ (x : It) (B : Nat) (w : World) (c0 c1 c2 : Value), ItIn w B x c0 c1 c2 → B ≤ w.heap.size → ∀ (y : It) (d0 d1 d2 : Value), ItIn w B y d0 d1 d2 →
 Calls Tryz.prog 38 #[.agg #[c0, c1, c2], .agg #[d0, d1, d2]] w fun e w' => SameIs x y e ∧ Below w.heap.size w w' := by
 intro x
 induction x using It.ind with
 | h t l s ih =>
  intro B w c0 c1 c2 h hB y d0 d1 d2 hy
  obtain ⟨rfl, rfl, ht, hs, A, cap, rfl, hcap, hcm, hsub⟩ := h
  have IH := Lib.hid ih
  have HS := Lib.hid hsub
  clear ih hsub
  obtain ⟨t', l', s'⟩ := y
  obtain ⟨rfl, rfl, ht', hs', A', cap', rfl, hcap', hcm', hsub'⟩ := hy
  have HS' := Lib.hid hsub'
  clear hsub'
  by_cases h1 : l = l'
  ·subst h1
   have e1 : (l != l) = false := by simp
   have e1' : (l == l) = true := by simp
   rcases str_ways t t' with ⟨rfl, q1, q2⟩ | ⟨hne, q1, q2⟩
   ·by_cases h3 : s.length = s'.length
    ·have H3 := Lib.hid h3
     have e3 : ((s.length : Int) != (s'.length : Int)) = false := by simp [h3]
     have e3' : (s.length != s'.length) = false := by simp [h3]
     clear h3
     go_enter Tryz.func38, Tryz.ntmps38
     go_wp2_with fail
     go_loopw [5] (fun i wr => ∃ k : Nat, k ≤ s.length ∧ i = .int .i64 k ∧ Hid (∀ j (h1 : j < s.length) (h2 : j < s'.length), j < k → s[j] = s'[j]) ∧ Below w.heap.size w wr ∧ Blk wr w.heap.size 28 #[.string t, .bool l, .slice A s.length cap] ∧ Blk wr (w.heap.size + 1) 28 #[.string t, .bool l, .slice A' s'.length cap']) (fun i _ => s.length - (intOf i).toNat)
     case atStart => exact ⟨0, by omega, rfl, Lib.hid (by omega), blw, (Blk.new w _ _).alloc _, by have := Blk.new (w.alloc (.cells #[.string t, .bool l, .slice A s.length cap] 28)) 28 #[.string t, .bool l, .slice A' s'.length cap']; simpa using this⟩
     case round =>
      obtain ⟨k, hk, rfl, hag, hb, hk1, hk2⟩ := hrel
      have g1 : wr.cell? ⟨w.heap.size, 2, none⟩ = some (.slice A s.length cap) := hk1.cell 2
      have g2 : wr.cell? ⟨w.heap.size + 1, 2, none⟩ = some (.slice A' s'.length cap') := hk2.cell 2
      have hl1 := hk2.lt
      have K1 := Lib.hid hk1
      have K2 := Lib.hid hk2
      clear hk1 hk2
      by_cases hlt : k < s.length
      ·have hlt' : k < s'.length := by have := H3.out; omega
       obtain ⟨b, o, d0, d1, d2, rfl, hbB, e0, e1, e2, hi⟩ := HS.out.at_ k hlt
       obtain ⟨b', o', d0', d1', d2', rfl, hbB', e0', e1', e2', hi'⟩ := HS'.out.at_ k hlt'
       simp only [Nat.zero_add] at e0 e1 e2 e0' e1' e2'
       replace e0 := (hb.cell (p := ⟨b, o + k * 3, none⟩) (by simp; omega)).trans e0
       replace e1 := (hb.cell (p := ⟨b, o + k * 3 + 1, none⟩) (by simp; omega)).trans e1
       replace e2 := (hb.cell (p := ⟨b, o + k * 3 + 2, none⟩) (by simp; omega)).trans e2
       replace e0' := (hb.cell (p := ⟨b', o' + k * 3, none⟩) (by simp; omega)).trans e0'
       replace e1' := (hb.cell (p := ⟨b', o' + k * 3 + 1, none⟩) (by simp; omega)).trans e1'
       replace e2' := (hb.cell (p := ⟨b', o' + k * 3 + 2, none⟩) (by simp; omega)).trans e2'
       have hbz := hb.size
       have hmem := List.getElem_mem hlt
       have HC := Lib.hid (IH.out _ hmem B wr.drew d0 d1 d2 ((hi.below (hb.mono hB)).below (Below.refl _ _).drew) (by simp; omega) _ d0' d1' d2' ((hi'.below (hb.mono hB)).below (Below.refl _ _).drew))
       clear hi hi'
       go_wp2_with fail
       go_still_tail 10, (by kernel_rfl)
       change wpList _ _ _ _ _ wr.drew
       go_wp2_with fail
       refine HC.out.mono ?_
       rintro e w2 ⟨⟨r, rfl, hr⟩, hb2⟩
       have HR := Lib.hid hr
       have HB2 := Lib.hid hb2
       clear hr hb2
       cases r with
       | true =>
        go_wp2
        go_roundw
        case rel =>
         refine ⟨k + 1, by omega, by go_num, Lib.hid fun j h1 h2 hj => ?_, hb.drew.trans (HB2.out.mono (by simpa using hbz)), K1.out.drew.keep HB2.out (by simp; omega), K2.out.drew.keep HB2.out (by simpa using hl1)⟩
         by_cases hjk : j = k
         ·subst hjk; exact HR.out.1 (by simp)
         ·exact hag.out j h1 h2 (by omega)
        case measure => simp [intOf]; omega
       | false =>
        have HN : Hid (It.mk t l s ≠ It.mk t l s') := Lib.hid (by
         intro e
         injection e with _ _ e
         subst e
         have := HR.out.2 rfl; simp at this)
        go_wp2
        go_ret
        exact ⟨SameIs.no HN.out, hb.drew.trans (HB2.out.mono (by simpa using hbz))⟩
      ·have HE : Hid (It.mk t l s = It.mk t l s') := Lib.hid (by rw [list_eq_of H3.out (fun j h1 h2 => hag.out j h1 h2 (by omega))])
       go_wp2
       go_ret
       exact ⟨SameIs.yes HE.out, hb⟩
    ·have HN : Hid (It.mk t l s ≠ It.mk t l s') := Lib.hid (by intro e; injection e with _ _ e; exact h3 (by rw [e]))
     have e3 : ((s.length : Int) != (s'.length : Int)) = true := by simp; omega
     have e3' : (s.length != s'.length) = true := by simp; omega
     clear h3
     go_enter Tryz.func38, Tryz.ntmps38
     go_wp2
     go_ret
     exact ⟨SameIs.no HN.out, blw⟩
   ·have HN : Hid (It.mk t l s ≠ It.mk t' l s') := Lib.hid (by intro e; injection e with e; exact hne e)
    clear hne
    go_enter Tryz.func38, Tryz.ntmps38
    go_wp2
    go_ret
    exact ⟨SameIs.no HN.out, blw⟩
  ·have HN : Hid (It.mk t l s ≠ It.mk t' l' s') := Lib.hid (by intro e; injection e with _ e; exact h1 e)
   cases l <;> cases l'
   ·exact absurd rfl h1
   ·clear h1
    go_enter Tryz.func38, Tryz.ntmps38
    go_wp2
    go_ret
    exact ⟨SameIs.no HN.out, blw⟩
   ·clear h1
    go_enter Tryz.func38, Tryz.ntmps38
    go_wp2
    go_ret
    exact ⟨SameIs.no HN.out, blw⟩
   ·exact absurd rfl h1
end Go.Proofs.YtnfpgadegpmhkaaGreatDoor
