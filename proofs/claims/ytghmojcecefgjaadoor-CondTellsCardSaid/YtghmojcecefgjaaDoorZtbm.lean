/- Two numbers with a sign between: what they come to. Plain. -/
import Derived.Test.YtghmojcecefgjaaDoorZtbl
set_option linter.unusedVariables false
set_option linter.unusedSimpArgs false
namespace Go.Proofs.YtghmojcecefgjaaDoor
open Go.RowKit
end Go.Proofs.YtghmojcecefgjaaDoor
