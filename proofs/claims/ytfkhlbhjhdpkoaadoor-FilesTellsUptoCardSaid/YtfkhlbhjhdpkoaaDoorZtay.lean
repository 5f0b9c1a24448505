/- The closed fact that is asked first. By the kernel. -/
import Derived.Test.YtfkhlbhjhdpkoaaDoorZtaw
set_option linter.unusedVariables false
set_option linter.unusedSimpArgs false
namespace Go.Proofs.YtfkhlbhjhdpkoaaDoor
open Go.RowKit
end Go.Proofs.YtfkhlbhjhdpkoaaDoor
