/- What tokens come to, step by step. Plain. -/
import Derived.Test.YtghmojcecefgjaaDoorZtbj
set_option linter.unusedVariables false
set_option linter.unusedSimpArgs false
namespace Go.Proofs.YtghmojcecefgjaaDoor
open Go.RowKit
end Go.Proofs.YtghmojcecefgjaaDoor
