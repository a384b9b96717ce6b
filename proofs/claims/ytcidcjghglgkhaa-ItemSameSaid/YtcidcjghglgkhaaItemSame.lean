/- hatchwaylaw08.ItemSame: whether any two that may be are alike is the document's; a text and a list are what they are made of. -/
import Derived.Test.YtcidcjghglgkhaaItemSameA
import Derived.Test.YtcidcjghglgkhaaItemSameB
import Derived.Test.YtcidcjghglgkhaaItemSameC
namespace Go.Proofs.Ytcidcjghglgkhaa
set_option linter.unusedVariables false
set_option linter.unusedSimpArgs false
open Go.RowKit

theorem itemSame_w (x : It) (c0 c1 c2 : Value) (y : It) (d0 d1 d2 : Value) (w : World) (h : ItIn w w.heap.size x c0 c1 c2) (h' : ItIn w w.heap.size y d0 d1 d2) :
    Calls Try.prog 4 #[.agg #[c0, c1, c2], .agg #[d0, d1, d2]] w fun e w' => e = .returned (.bool true) ∧ Below w.heap.size w w' := by
  cases hmx : x.may with
  | false => exact itemSame_wA x c0 c1 c2 y d0 d1 d2 w h h' hmx
  | true =>
    cases hmy : y.may with
    | false => exact itemSame_wB x c0 c1 c2 y d0 d1 d2 w h h' hmx hmy
    | true => exact itemSame_wC x c0 c1 c2 y d0 d1 d2 w h h' hmx hmy
end Go.Proofs.Ytcidcjghglgkhaa
