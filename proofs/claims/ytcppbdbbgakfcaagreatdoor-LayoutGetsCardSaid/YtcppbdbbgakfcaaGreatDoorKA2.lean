/- []byte(s): the world behind it, in my words. Own text; no program in sight. -/
import Derived.Test.YtcppbdbbgakfcaaGreatDoorKA1
import Derived.Lib.ConvBytes
import Derived.Lib.AtoiErrMem
set_option linter.unusedVariables false
set_option linter.unusedSimpArgs false
namespace Go.Proofs.YtcppbdbbgakfcaaGreatDoor
open Go.RowKit
end Go.Proofs.YtcppbdbbgakfcaaGreatDoor
