/- CondParens. Plain. -/
import Derived.Test.YtghmojcecefgjaaDoorZtbf
set_option linter.unusedVariables false
set_option linter.unusedSimpArgs false
namespace Go.Proofs.YtghmojcecefgjaaDoor
open Go.RowKit
def Ne : Res → Prop
  | .ok _ _ => True
  | .er e _ _ => e ≠ 0
end Go.Proofs.YtghmojcecefgjaaDoor
