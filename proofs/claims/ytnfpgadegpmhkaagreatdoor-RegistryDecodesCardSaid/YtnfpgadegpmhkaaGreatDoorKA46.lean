/- The document's lay. -/
import Derived.Test.YtnfpgadegpmhkaaGreatDoorKA16
import Derived.Test.YtnfpgadegpmhkaaGreatDoorKA29
import Derived.Test.YtnfpgadegpmhkaaGreatDoorKA18
import Derived.Test.YtnfpgadegpmhkaaGreatDoorKA24
import Derived.Test.YtnfpgadegpmhkaaGreatDoorKA28
set_option linter.unusedVariables false
set_option linter.unusedSimpArgs false
namespace Go.Proofs.YtnfpgadegpmhkaaGreatDoor
open Go.RowKit
end Go.Proofs.YtnfpgadegpmhkaaGreatDoor
