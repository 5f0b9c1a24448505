/- Texts one behind the other: what their tokens are,wherever they stand. Plain. -/
import Derived.Test.YtfkhlbhjhdpkoaaGreatDoorZrbk
set_option linter.unusedVariables false
set_option linter.unusedSimpArgs false
namespace Go.Proofs.YtfkhlbhjhdpkoaaGreatDoor
open Go.RowKit
end Go.Proofs.YtfkhlbhjhdpkoaaGreatDoor
