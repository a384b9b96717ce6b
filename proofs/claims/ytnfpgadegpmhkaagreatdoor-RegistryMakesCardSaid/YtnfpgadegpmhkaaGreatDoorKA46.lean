/- The document's read of an item's bytes tells rdItem. -/
import Derived.Test.YtnfpgadegpmhkaaGreatDoorKA3
import Derived.Test.YtnfpgadegpmhkaaGreatDoorKA6
import Derived.Test.YtnfpgadegpmhkaaGreatDoorKA2
import Derived.Deep.LoopGhost
import Derived.Deep.DeepCutAuto
set_option linter.unusedVariables false
set_option linter.unusedSimpArgs false
namespace Go.Proofs.YtnfpgadegpmhkaaGreatDoor
open Go.RowKit
end Go.Proofs.YtnfpgadegpmhkaaGreatDoor
