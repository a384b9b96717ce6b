/- tree.Check; the document's Put and Get of trees. -/
import Derived.Test.YtnfpgadegpmhkaaGreatDoorKA33
import Derived.Test.YtnfpgadegpmhkaaGreatDoorKA27
import Derived.Test.YtnfpgadegpmhkaaGreatDoorKA15
import Derived.Test.YtnfpgadegpmhkaaGreatDoorKA34
set_option linter.unusedVariables false
set_option linter.unusedSimpArgs false
namespace Go.Proofs.YtnfpgadegpmhkaaGreatDoor
open Go.RowKit
end Go.Proofs.YtnfpgadegpmhkaaGreatDoor
