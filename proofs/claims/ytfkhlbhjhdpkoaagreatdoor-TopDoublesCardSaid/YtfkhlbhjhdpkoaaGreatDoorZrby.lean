/- DriveOnce answers true. Plain. -/
import Derived.Test.YtfkhlbhjhdpkoaaGreatDoorZrbx
set_option linter.unusedVariables false
set_option linter.unusedSimpArgs false
set_option maxHeartbeats 4000000
namespace Go.Proofs.YtfkhlbhjhdpkoaaGreatDoor
open Go.RowKit
set_option maxHeartbeats 1000000
end Go.Proofs.YtfkhlbhjhdpkoaaGreatDoor
