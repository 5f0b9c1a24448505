/- The closed fact that is asked first. By the kernel. -/
import Derived.Test.YtfkhlbhjhdpkoaaDoorZoau
set_option linter.unusedVariables false
set_option linter.unusedSimpArgs false
set_option maxRecDepth 100000
namespace Go.Proofs.YtfkhlbhjhdpkoaaDoor
open Go.RowKit
theorem JcV:Xm=some true:=by decide +kernel
end Go.Proofs.YtfkhlbhjhdpkoaaDoor
