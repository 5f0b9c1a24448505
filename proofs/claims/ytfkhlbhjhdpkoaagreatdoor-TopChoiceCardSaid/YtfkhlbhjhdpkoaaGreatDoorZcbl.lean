/- TopChoice: reckoned, a part. Plain. -/
import Derived.Test.YtfkhlbhjhdpkoaaGreatDoorZcbk
set_option linter.unusedVariables false
set_option linter.unusedSimpArgs false
set_option maxHeartbeats 4000000
set_option maxRecDepth 100000
namespace Go.Proofs.YtfkhlbhjhdpkoaaGreatDoor
open Go.RowKit
set_option maxRecDepth 100000
set_option maxHeartbeats 0
theorem tc6 : (allL 6).all tcOk = true := by decide +kernel
theorem tc7_0 : (allL 6).all (fun l => tcOk (false :: l)) = true := by decide +kernel
theorem tc7_1 : (allL 6).all (fun l => tcOk (true :: l)) = true := by decide +kernel
end Go.Proofs.YtfkhlbhjhdpkoaaGreatDoor
