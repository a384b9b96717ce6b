/- The document's lay. -/
import Derived.Test.YtnfpgadegpmhkaaGreatDoorKA13
import Derived.Test.YtnfpgadegpmhkaaGreatDoorKA28
import Derived.Test.YtnfpgadegpmhkaaGreatDoorKA15
import Derived.Test.YtnfpgadegpmhkaaGreatDoorKA22
import Derived.Test.YtnfpgadegpmhkaaGreatDoorKA27
set_option linter.unusedVariables false
set_option linter.unusedSimpArgs false
namespace Go.Proofs.YtnfpgadegpmhkaaGreatDoor
open Go.RowKit
end Go.Proofs.YtnfpgadegpmhkaaGreatDoor
