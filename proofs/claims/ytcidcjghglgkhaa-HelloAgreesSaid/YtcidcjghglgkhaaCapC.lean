/- hello.compare. -/
import Derived.Test.YtcidcjghglgkhaaCap
namespace Go.Proofs.Ytcidcjghglgkhaa
set_option linter.unusedVariables false
set_option linter.unusedSimpArgs false
open Go.RowKit

theorem pairA {w : World} {g : Nat} {x y : Value} {t : TypeId} (hg : g = w.heap.size) : (w.alloc (.cells #[x, y] t)).cell? ⟨g, 0, none⟩ = some x ∧ (w.alloc (.cells #[x, y] t)).cell? ⟨g, 1, none⟩ = some y := by
  subst hg; exact ⟨(Blk.new w t #[x, y]).cell 0, (Blk.new w t #[x, y]).cell 1⟩
theorem pairD {w : World} {g : Nat} {x y : Value} {t : TypeId} (hg : g = w.heap.size) : (w.alloc (.cells #[x, y] t)).drew.cell? ⟨g, 0, none⟩ = some x ∧ (w.alloc (.cells #[x, y] t)).drew.cell? ⟨g, 1, none⟩ = some y := pairA hg
set_option maxRecDepth 100000 in
set_option maxHeartbeats 800000 in
theorem compare_c (a b : Cp) (w : World) : Calls Try.prog 77 #[.agg #[.string a.1, .int .i64 a.2], .agg #[.string b.1, .int .i64 b.2]] w fun e w' => e = .returned (.int .i64 (cpCmp a b)) ∧ Below w.heap.size w w' := by
  obtain ⟨a1, a2⟩ := a
  obtain ⟨b1, b2⟩ := b
  have HS := Lib.hid (fun w => cmpStr_c a1 b1 w)
  have HI := Lib.hid (fun w => cmpInt_c a2 b2 w)
  have HE : Hid (cpCmp (a1, a2) (b1, b2) = orI (sCmp a1 b1) (iCmp a2 b2)) := Lib.hid rfl
  rw [HE.out]
  have HO := Lib.hid (fun g w => or_c (sCmp a1 b1) (iCmp a2 b2) g w)
  generalize sCmp a1 b1 = X at *
  generalize iCmp a2 b2 = Y at *
  generalize orI X Y = Z at *
  clear HE
  go_enter Try.func77, Try.ntmps77
  go_wp2_with fail
  go_region_law (first
    | (go_simp; go_at_call 89; refine (HS.out _).mono ?_; rintro e w' ⟨rfl, rfl⟩)
    | (go_simp; go_at_call 90; refine (HI.out _).mono ?_; rintro e w' ⟨rfl, rfl⟩)
    | (go_simp; go_at_call 88; refine (HO.out _ _ (by first | exact (pairA (by simp)).1 | exact (pairD (by simp)).1) (by first | exact (pairA (by simp)).2 | exact (pairD (by simp)).2)).mono ?_; rintro e w' ⟨rfl, rfl⟩))
  all_goals
    go_wp2
    go_ret
    exact ⟨rfl, (by repeat (first | exact Below.refl _ _ | assumption | with_reducible refine Below.drewN' ?_ _ | with_reducible refine Below.drew ?_ | ((with_reducible refine Below.alloc' ?_ ?_ _); · (first | omega | (simp <;> omega)))))⟩
end Go.Proofs.Ytcidcjghglgkhaa
