/- Tokens of texts that are put together: signs, numerals, blanks. Plain. -/
import Derived.Test.YtghmojcecefgjaaDoorZtbh
set_option linter.unusedVariables false
set_option linter.unusedSimpArgs false
namespace Go.Proofs.YtghmojcecefgjaaDoor
open Go.RowKit
end Go.Proofs.YtghmojcecefgjaaDoor
