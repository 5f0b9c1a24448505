/- Texts one behind the other: all tokens. Plain. -/
import Derived.Test.YtfkhlbhjhdpkoaaGreatDoorZrbe
set_option linter.unusedVariables false
set_option linter.unusedSimpArgs false
namespace Go.Proofs.YtfkhlbhjhdpkoaaGreatDoor
open Go.RowKit
end Go.Proofs.YtfkhlbhjhdpkoaaGreatDoor
