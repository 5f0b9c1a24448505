/- A string's maker of Go's library: what its check and its end make of the heap,by the library's contracts. -/
import Derived.Test.YtfkhlbhjhdpkoaaGreatDoorZrae
import Derived.Test.YtfkhlbhjhdpkoaaGreatDoorZraf
import Derived.Shelf.Strings.Builder1
set_option linter.unusedVariables false
set_option linter.unusedSimpArgs false
namespace Go.Proofs.YtfkhlbhjhdpkoaaGreatDoor
open Go.Shelf Go.RowKit
end Go.Proofs.YtfkhlbhjhdpkoaaGreatDoor
