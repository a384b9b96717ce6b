/- hatchwaylaw24.Great. -/
import Derived.Test.YtnfpgadegpmhkaaGreatDoorKA4
import Derived.Test.YtnfpgadegpmhkaaGreatDoorKA7
import Derived.Test.YtnfpgadegpmhkaaGreatDoorKA26
set_option linter.unusedVariables false
set_option linter.unusedSimpArgs false
set_option maxRecDepth 100000
set_option maxHeartbeats 1600000
namespace Go.Proofs.YtnfpgadegpmhkaaGreatDoor
open Go.RowKit
def entGr (e : Ent) : Bool := decide (100 < e.name.size) || decide (500 < e.ty.size)
def entsGr (l : List Ent) : Bool := decide (40 < l.length) || l.any entGr
theorem entsGr_ok {l : List Ent} (h : entsGr l = false) (hid : ∀ e ∈ l, e.id < 18446744073709551616) : l.length ≤ 40 ∧ ∀ e ∈ l, EntOk e := by
 simp only [entsGr, Bool.or_eq_false_iff, decide_eq_false_iff_not, List.any_eq_false] at h
 refine ⟨by omega, fun e he => ?_⟩
 have := h.2 e he
 simp only [entGr, Bool.or_eq_true, decide_eq_true_eq, not_or] at this
 exact ⟨hid e he, by omega, by omega⟩
theorem great24_c (l : List Ent) (v : Value) (B : Nat) (w : World) (hv : EnR w B v l) :
 Calls Tryz.prog 7 #[v] w fun e w' => e = .returned (.bool (entsGr l)) ∧ w' = w := by
 obtain ⟨A, n, cap, rfl, hn, hnc, hcm⟩ := hv.form'
 have HV := Lib.hid hv
 clear hv
 by_cases h4 : 40 < n
 ·have h4i : (40 : Int) < n := by omega
  have HX : Hid (entsGr l = true) := Lib.hid (by unfold entsGr; rw [← hn.out]; simp [h4])
  rw [HX.out]
  go_enter Tryz.func7, Tryz.ntmps7
  go_wp2
  go_ret
  exact ⟨rfl, rfl⟩
 ·have h4i : ¬ (40 : Int) < n := by omega
  have HX : Hid (entsGr l = l.any entGr) := Lib.hid (by unfold entsGr; rw [← hn.out]; simp [h4])
  rw [HX.out]
  obtain ⟨R, hR⟩ : ∃ R, l.any entGr = R := ⟨_, rfl⟩
  rw [hR]
  have HR := Lib.hid hR
  clear hR HX
  go_enter Tryz.func7, Tryz.ntmps7
  go_wp2
  go_loopw [3] (fun i wr => ∃ k : Nat, i = .int .i64 k ∧ k ≤ n ∧ Hid (∀ j (hj : j < l.length), j < k → entGr l[j] = false) ∧ wr = w) (fun i _ => n - (intOf i).toNat)
  case atStart => exact ⟨0, rfl, by omega, Lib.hid (by omega), rfl⟩
  case round =>
   obtain ⟨k, rfl, hk, Hk, rfl⟩ := hrel
   by_cases hlt : k < n
   ·have hkl : k < l.length := by rw [← hn.out]; exact hlt
    obtain ⟨g, o, rfl, hg, e0, e1, e2⟩ := HV.out.at_ hkl
    have HGO : Hid (entGr l[k] = false → ∀ j (hj : j < l.length), j < k + 1 → entGr l[j] = false) := Lib.hid (fun h0 j hj hjk => by
     by_cases h : j = k
     ·subst h; exact h0
     ·exact Hk.out j hj (by omega))
    have HBD : Hid (entGr l[k] = true → R = true) := Lib.hid (fun h0 => by rw [← HR.out]; exact List.any_eq_true.2 ⟨_, List.getElem_mem hkl, h0⟩)
    obtain ⟨y, hy⟩ : ∃ y, l[k] = y := ⟨_, rfl⟩
    rw [hy] at e0 e1 e2 HGO HBD
    clear hy
    by_cases h1 : 100 < y.name.size
    ·have h1i : (100 : Int) < (y.name.size : Int) := by omega
     have HE := Lib.hid (HBD.out (by simp [entGr, h1]))
     go_wp2
     go_ret
     exact ⟨by rw [HE.out]; rfl, rfl⟩
    ·have h1i : ¬ (100 : Int) < (y.name.size : Int) := by omega
     by_cases h2 : 500 < y.ty.size
     ·have h2i : (500 : Int) < (y.ty.size : Int) := by omega
      have HE := Lib.hid (HBD.out (by simp [entGr, h2]))
      go_wp2
      go_ret
      exact ⟨by rw [HE.out]; rfl, rfl⟩
     ·have h2i : ¬ (500 : Int) < (y.ty.size : Int) := by omega
      have HN := Lib.hid (HGO.out (by simp [entGr, h1, h2]))
      go_wp2
      go_roundw
      case rel => exact ⟨k + 1, by go_num, by omega, HN, trivial⟩
      case measure => simp [intOf]; omega
   ·have HE : Hid (R = false) := Lib.hid (by
     rw [← HR.out, List.any_eq_false]
     intro e he
     obtain ⟨j, hj, rfl⟩ := List.getElem_of_mem he
     rw [Hk.out j hj (by rw [← hn.out] at hj; omega)]; simp)
    go_wp2
    go_ret
    exact ⟨by rw [HE.out]; rfl, rfl⟩
def nmAt (l : List Ent) (nm : ByteArray) : Int := match l.findIdx? (fun e => decide (e.name = nm)) with | some i => i | none => -1
theorem refByName_c (l : List Ent) (v : Value) (nm : ByteArray) (B : Nat) (w : World) (hv : EnR w B v l) :
 Calls Tryz.prog 20 #[v, .string nm] w fun e w' => e = .returned (.int .i64 (nmAt l nm)) ∧ w' = w := by
 obtain ⟨A, n, cap, rfl, hn, hnc, hcm⟩ := hv.form'
 have HV := Lib.hid hv
 clear hv
 obtain ⟨R, hR⟩ : ∃ R, nmAt l nm = R := ⟨_, rfl⟩
 rw [hR]
 have HR := Lib.hid hR
 clear hR
 go_enter Tryz.func20, Tryz.ntmps20
 go_wp2
 go_loopw [5] (fun i wr => ∃ k : Nat, i = .int .i64 k ∧ k ≤ n ∧ Hid (∀ j (hj : j < l.length), j < k → l[j].name ≠ nm) ∧ wr = w) (fun i _ => n - (intOf i).toNat)
 case atStart => exact ⟨0, rfl, by omega, Lib.hid (by omega), rfl⟩
 case round =>
  obtain ⟨k, rfl, hk, Hk, rfl⟩ := hrel
  by_cases hlt : k < n
  ·have hkl : k < l.length := by rw [← hn.out]; exact hlt
   obtain ⟨g, o, rfl, hg, e0, e1, e2⟩ := HV.out.at_ hkl
   rcases str_ways l[k].name nm with ⟨hq, q1, q2⟩ | ⟨hq, q1, q2⟩
   ·have HE : Hid (R = k) := Lib.hid (by
     rw [← HR.out]
     unfold nmAt
     have : l.findIdx? (fun e => decide (e.name = nm)) = some k := by
      rw [List.findIdx?_eq_some_iff_getElem]
      exact ⟨hkl, by simpa using hq, fun j hj => by simpa using Hk.out j (by omega) hj⟩
     rw [this])
    obtain ⟨y, hy⟩ : ∃ y, l[k] = y := ⟨_, rfl⟩
    rw [hy] at e0 e1 e2 q1 q2
    clear hy hq
    go_wp2
    go_ret
    exact ⟨by rw [HE.out]; rfl, rfl⟩
   ·have HGO : Hid (∀ j (hj : j < l.length), j < k + 1 → l[j].name ≠ nm) := Lib.hid (fun j hj hjk => by
     by_cases h : j = k
     ·subst h; exact hq
     ·exact Hk.out j hj (by omega))
    obtain ⟨y, hy⟩ : ∃ y, l[k] = y := ⟨_, rfl⟩
    rw [hy] at e0 e1 e2 q1 q2
    clear hy hq
    go_wp2
    go_roundw
    case rel => exact ⟨k + 1, by go_num, by omega, HGO, trivial⟩
    case measure => simp [intOf]; omega
  ·have HE : Hid (R = -1) := Lib.hid (by
    rw [← HR.out]
    unfold nmAt
    have : l.findIdx? (fun e => decide (e.name = nm)) = none := by
     rw [List.findIdx?_eq_none_iff]
     intro e he
     obtain ⟨j, hj, rfl⟩ := List.getElem_of_mem he
     simpa using Hk.out j hj (by rw [← hn.out] at hj; omega)
    rw [this])
   go_wp2
   go_ret
   exact ⟨by rw [HE.out]; rfl, rfl⟩
end Go.Proofs.YtnfpgadegpmhkaaGreatDoor
