/- slices.Clone of an own stack. -/
import Derived.Test.YtfkhlbhjhdpkoaaGreatDoorZqau
set_option linter.unusedVariables false
set_option linter.unusedSimpArgs false
namespace Go.Proofs.YtfkhlbhjhdpkoaaGreatDoor
open Go.RowKit
end Go.Proofs.YtfkhlbhjhdpkoaaGreatDoor
