/- TreeJoined holds. -/
import Derived.Test.YtppomhjhokbacaaZbbd
set_option linter.unusedVariables false
set_option linter.unusedSimpArgs false
namespace Go.Proofs.Ytppomhjhokbacaa
open Go.RowKit
set_option maxRecDepth 100000
theorem alive9 : prelaw9_alive = some true := by decide +kernel
end Go.Proofs.Ytppomhjhokbacaa
