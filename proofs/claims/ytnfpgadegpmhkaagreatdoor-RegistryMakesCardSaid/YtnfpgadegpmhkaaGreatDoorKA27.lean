/- The document's Fits. -/
import Derived.Test.YtnfpgadegpmhkaaGreatDoorKA25
import Derived.Test.YtnfpgadegpmhkaaGreatDoorKA19
import Derived.Test.YtnfpgadegpmhkaaGreatDoorKA26
set_option linter.unusedVariables false
set_option linter.unusedSimpArgs false
namespace Go.Proofs.YtnfpgadegpmhkaaGreatDoor
open Go.RowKit
end Go.Proofs.YtnfpgadegpmhkaaGreatDoor
