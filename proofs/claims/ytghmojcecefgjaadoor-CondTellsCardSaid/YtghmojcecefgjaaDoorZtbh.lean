/- Numerals: their letters, and that Num reads them. Plain. -/
import Derived.Test.YtghmojcecefgjaaDoorZtbg
import Derived.Lib.ItoaLen
set_option linter.unusedVariables false
set_option linter.unusedSimpArgs false
namespace Go.Proofs.YtghmojcecefgjaaDoor
open Go.RowKit
end Go.Proofs.YtghmojcecefgjaaDoor
