/- What a text comes to; alive. Plain. -/
import Derived.Test.YtghmojcecefgjaaDoorZtap
import Derived.Test.YtghmojcecefgjaaDoorZtas
import Derived.Test.YtghmojcecefgjaaDoorZtbb
set_option linter.unusedVariables false
set_option linter.unusedSimpArgs false
namespace Go.Proofs.YtghmojcecefgjaaDoor
open Go.RowKit
theorem toks_clean (s : List UInt8) : clean (toksV 0 s).1 := fun t ht => by
  have := ((toksV_small 0 s).2.1 t ht).1
  omega
end Go.Proofs.YtghmojcecefgjaaDoor
