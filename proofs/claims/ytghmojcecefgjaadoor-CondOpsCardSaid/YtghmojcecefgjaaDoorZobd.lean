/- CondParens is true of every text. Plain. -/
import Derived.Test.YtghmojcecefgjaaDoorZobb
set_option linter.unusedVariables false
set_option linter.unusedSimpArgs false
namespace Go.Proofs.YtghmojcecefgjaaDoor
open Go.RowKit
theorem evalT_ok {s : List UInt8} (h : (toksV 0 s).2.Err = 0) : evalT s = ((evalV (toksV 0 s).1).1, ⟨(evalV (toksV 0 s).1).2.1, (evalV (toksV 0 s).1).2.2.1, (evalV (toksV 0 s).1).2.2.2⟩) := if_pos h
end Go.Proofs.YtghmojcecefgjaaDoor
