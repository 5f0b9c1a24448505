/- CondIdle is true of all numbers. Plain. -/
import Derived.Test.YtghmojcecefgjaaDoorZtbi
import Derived.Test.YtghmojcecefgjaaDoorZtbk
set_option linter.unusedVariables false
set_option linter.unusedSimpArgs false
namespace Go.Proofs.YtghmojcecefgjaaDoor
open Go.RowKit
end Go.Proofs.YtghmojcecefgjaaDoor
