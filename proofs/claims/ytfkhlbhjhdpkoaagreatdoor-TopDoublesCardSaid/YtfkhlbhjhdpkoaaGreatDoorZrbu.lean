/- The closed fact that is asked first: reckoned. Plain. -/
import Derived.Test.YtfkhlbhjhdpkoaaGreatDoorZrbr
set_option linter.unusedVariables false
set_option linter.unusedSimpArgs false
set_option maxHeartbeats 4000000
set_option maxRecDepth 100000
namespace Go.Proofs.YtfkhlbhjhdpkoaaGreatDoor
open Go.RowKit
set_option maxRecDepth 100000
set_option maxHeartbeats 0
theorem JCI:Zz=some true:=by rw[JlV]; decide +kernel
end Go.Proofs.YtfkhlbhjhdpkoaaGreatDoor
