/- For ItemSame: contracts with the answer named. -/
import Derived.Test.YtcidcjghglgkhaaItemAlike
import Derived.Test.YtcidcjghglgkhaaItemShows
import Derived.Deep.RegionHeld3
import Derived.Deep.Cut
import Derived.Deep.RegionWith
namespace Go.Proofs.Ytcidcjghglgkhaa
set_option linter.unusedVariables false
set_option linter.unusedSimpArgs false
open Go.RowKit

theorem refSame_yes (x : It) (B : Nat) (w : World) (c0 c1 c2 d0 d1 d2 : Value) (h : ItIn w B x c0 c1 c2) (hB : B ≤ w.heap.size) (h' : ItIn w B x d0 d1 d2) :
    Calls Try.prog 18 #[.agg #[c0, c1, c2], .agg #[d0, d1, d2]] w fun e w' => e = .returned (.bool true) ∧ Below w.heap.size w w' :=
  (refSame_c x B w c0 c1 c2 h hB x d0 d1 d2 h').mono fun e w' ⟨⟨r, he, hr⟩, hb⟩ => ⟨by rw [he, hr.2 rfl], hb⟩
theorem refSame_is (x y : It) (R : Bool) (hR : R = true ↔ x = y) (B : Nat) (w : World) (c0 c1 c2 d0 d1 d2 : Value) (h : ItIn w B x c0 c1 c2) (hB : B ≤ w.heap.size) (h' : ItIn w B y d0 d1 d2) :
    Calls Try.prog 18 #[.agg #[c0, c1, c2], .agg #[d0, d1, d2]] w fun e w' => e = .returned (.bool R) ∧ Below w.heap.size w w' :=
  (refSame_c x B w c0 c1 c2 h hB y d0 d1 d2 h').mono fun e w' ⟨⟨r, he, hr⟩, hb⟩ => ⟨by rw [he]; congr 2; exact Bool.eq_iff_iff.2 (hr.trans hR.symm), hb⟩
theorem itemSame_is (x y : It) (R : Bool) (hR : R = true ↔ x.may = true ∧ y.may = true ∧ x = y) (B : Nat) (w : World) (c0 c1 c2 d0 d1 d2 : Value) (h : ItIn w B x c0 c1 c2) (hB : B ≤ w.heap.size) (h' : ItIn w B y d0 d1 d2) :
    Calls Try.prog 20 #[.agg #[c0, c1, c2], .agg #[d0, d1, d2]] w fun e w' => e = .returned (.bool R) ∧ Below w.heap.size w w' :=
  (itemSame_c x y B w c0 c1 c2 d0 d1 d2 h hB h').mono fun e w' ⟨⟨r, he, hr⟩, hb⟩ => ⟨by rw [he]; congr 2; exact Bool.eq_iff_iff.2 (hr.trans hR.symm), hb⟩
end Go.Proofs.Ytcidcjghglgkhaa
