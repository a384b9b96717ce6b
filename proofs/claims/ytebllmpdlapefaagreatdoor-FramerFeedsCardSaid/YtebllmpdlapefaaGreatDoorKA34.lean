/- framer.needed. -/
import Derived.Test.YtebllmpdlapefaaGreatDoorKA1
import Derived.Test.YtebllmpdlapefaaGreatDoorKA2
import Derived.Test.YtebllmpdlapefaaGreatDoorKA26
import Derived.Test.YtebllmpdlapefaaGreatDoorKA12
namespace Go.Proofs.YtebllmpdlapefaaGreatDoor
set_option linter.unusedVariables false
set_option linter.unusedSimpArgs false
open Go.RowKit

set_option maxRecDepth 100000 in
set_option maxHeartbeats 1000000 in
theorem needed_c (c : Cfg) (s : ByteArray) (w : World) (hr : c.right = true) (hs : s.size ≤ 1099511627776) :
    Calls Tryz.prog 94 #[c.val, .string s] w fun e w' => e = .returned (.int .i64 (wNeed c s : Nat)) ∧ Below w.heap.size w w' := by
  have hR := (c.right_iff).1 hr
  obtain ⟨fm, mg, fr, un, de, it⟩ := c
  simp only at hR
  obtain ⟨r1, r2, r3, r4, _⟩ := hR
  clear hr
  unfold Cfg.val
  by_cases h1 : fm = 1
  · subst h1
    clear r1 r2 r3 r4
    by_cases h2 : s.size < 24
    · have HX : Hid (wNeed ⟨1, mg, fr, un, de, it⟩ s = 0) := Lib.hid (by unfold wNeed; rw [if_pos rfl, if_pos h2])
      go_enter Tryz.func94, Tryz.ntmps94
      go_wp2
      go_ret
      exact ⟨by rw [HX.out]; rfl, (by repeat (first | exact Below.refl _ _ | assumption | with_reducible refine Below.drewN' ?_ _ | with_reducible refine Below.drew ?_ | ((with_reducible refine Below.alloc' ?_ ?_ _); · (first | omega | (simp <;> omega)))))⟩
    · have hz : (s.extract 16 20).size = 4 := by rw [size_cut _ _ _ (by omega)]
      have HX : Hid (wNeed ⟨1, mg, fr, un, de, it⟩ s = 24 + leL (s.extract 16 20).data.toList) := Lib.hid (by unfold wNeed; rw [if_pos rfl, if_neg h2])
      have HG := Lib.hid (fun V => getLittle_c (s.extract 16 20) V (by omega) (by omega))
      have hlt := leL4_lt (s.extract 16 20) hz
      generalize leL (s.extract 16 20).data.toList = N at *
      have hw : IntKind.i64.wrap (N : Int) = N := IntWalk.i64_in _ (by omega)
      clear hz
      go_enter Tryz.func94, Tryz.ntmps94
      go_wp2_with fail
      refine (HG.out _).mono ?_
      rintro e w' ⟨rfl, rfl⟩
      go_wp2
      go_ret
      exact ⟨by rw [HX.out]; exact ret_int (by omega), (by repeat (first | exact Below.refl _ _ | assumption | with_reducible refine Below.drewN' ?_ _ | with_reducible refine Below.drew ?_ | ((with_reducible refine Below.alloc' ?_ ?_ _); · (first | omega | (simp <;> omega)))))⟩
  · have HS := Lib.hid (fun V => plainSize_c fr s V (by omega) (by omega) (by omega))
    have hok := plSize_ok fr s
    by_cases h0 : (plSize fr s).2.2 = 0
    · obtain ⟨p1, p2, p3, p4⟩ := hok h0
      have HX : Hid (wNeed ⟨fm, mg, fr, un, de, it⟩ s = (plSize fr s).2.1 + (plSize fr s).1) := Lib.hid (by unfold wNeed; rw [if_neg h1, if_neg (by simp [h0])])
      generalize plSize fr s = X at *
      obtain ⟨n, k, er⟩ := X
      simp only at *
      subst h0
      clear hok
      have hb1 : (fm != 1) = true := bne_iff_ne.2 h1
      go_enter Tryz.func94, Tryz.ntmps94
      go_wp2_with fail
      refine (HS.out _).mono ?_
      rintro e w' ⟨rfl, rfl⟩
      go_wp2
      go_ret
      exact ⟨by rw [HX.out]; exact ret_int (by omega), (by repeat (first | exact Below.refl _ _ | assumption | with_reducible refine Below.drewN' ?_ _ | with_reducible refine Below.drew ?_ | ((with_reducible refine Below.alloc' ?_ ?_ _); · (first | omega | (simp <;> omega)))))⟩
    · have HX : Hid (wNeed ⟨fm, mg, fr, un, de, it⟩ s = 0) := Lib.hid (by unfold wNeed; rw [if_neg h1, if_pos h0])
      generalize plSize fr s = X at *
      obtain ⟨n, k, er⟩ := X
      simp only at *
      clear hok
      have hb1 : (fm != 1) = true := bne_iff_ne.2 h1
      have hb2 : (er != 0) = true := bne_iff_ne.2 h0
      go_enter Tryz.func94, Tryz.ntmps94
      go_wp2_with fail
      refine (HS.out _).mono ?_
      rintro e w' ⟨rfl, rfl⟩
      go_wp2
      go_ret
      exact ⟨by rw [HX.out]; rfl, (by repeat (first | exact Below.refl _ _ | assumption | with_reducible refine Below.drewN' ?_ _ | with_reducible refine Below.drew ?_ | ((with_reducible refine Below.alloc' ?_ ?_ _); · (first | omega | (simp <;> omega)))))⟩
end Go.Proofs.YtebllmpdlapefaaGreatDoor
