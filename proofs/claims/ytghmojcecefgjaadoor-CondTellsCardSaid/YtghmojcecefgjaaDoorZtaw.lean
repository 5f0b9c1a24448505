/- Maps that a function makes for itself: what is laid in, what is found. -/
import Derived.Test.YtghmojcecefgjaaDoorZtao
import Derived.Test.YtghmojcecefgjaaDoorZtar
import Derived.Maps.OwnOps
import Derived.OpenShut
set_option linter.unusedVariables false
set_option linter.unusedSimpArgs false
namespace Go.Proofs.YtghmojcecefgjaaDoor
open Go.RowKit Go.Maps
theorem key9 : Keyed Tryd.prog 9 := string_keyed Tryd.underlying9
theorem keyOf_str {s : ByteArray} (h : s.size ≤ maxLen) : keyOf Tryd.prog 9 (.string s) = some (.string s.data.toList) := by
  simp [keyOf, Tryd.underlying9, mapKey, h]
def putAll : List (List UInt8 × Int) → DataW Unit
  | [] => .map []
  | (k, v) :: r => (putAll r).put (.string k) (.lit (.int .i64 v))
theorem putAll_map : ∀ L, IsMap (putAll L)
  | [] => Maps.isMap_empty
  | (k, v) :: r => (putAll_map r).put _ _
end Go.Proofs.YtghmojcecefgjaaDoor
