/- A literal of one byte as a string, later. -/
import Derived.Test.YtcppbdbbgakfcaaGreatDoorProg
import Derived.Test.YtcppbdbbgakfcaaGreatDoorKA4
import Derived.WalkSpells
import Derived.LoopTactic
import Derived.Deep.RegionWith
import Derived.Deep.DeepFit
set_option linter.unusedVariables false
set_option linter.unusedSimpArgs false
namespace Go.Proofs.YtcppbdbbgakfcaaGreatDoor
open Go.RowKit
end Go.Proofs.YtcppbdbbgakfcaaGreatDoor
