/- slices.Clone of an own stack. -/
import Derived.Test.YtfkhlbhjhdpkoaaGreatDoorZrau
set_option linter.unusedVariables false
set_option linter.unusedSimpArgs false
namespace Go.Proofs.YtfkhlbhjhdpkoaaGreatDoor
open Go.RowKit
end Go.Proofs.YtfkhlbhjhdpkoaaGreatDoor
