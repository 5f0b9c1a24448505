/- CondParens is true of every text. Plain. -/
import Derived.Test.YtghmojcecefgjaaDoorZtbg
set_option linter.unusedVariables false
set_option linter.unusedSimpArgs false
namespace Go.Proofs.YtghmojcecefgjaaDoor
open Go.RowKit
theorem c92' (c : UInt8) : eqI (c.toNat : Int) 92 = decide (c = 92) := c8 c 92 (by decide)
end Go.Proofs.YtghmojcecefgjaaDoor
