/- Tokens of a text in parentheses. Plain. -/
import Derived.Test.YtghmojcecefgjaaDoorZtbc
set_option linter.unusedVariables false
set_option linter.unusedSimpArgs false
namespace Go.Proofs.YtghmojcecefgjaaDoor
open Go.RowKit
end Go.Proofs.YtghmojcecefgjaaDoor
