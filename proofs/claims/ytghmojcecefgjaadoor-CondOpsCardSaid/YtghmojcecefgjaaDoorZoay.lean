/- What a text comes to; alive. Plain. -/
import Derived.Test.YtghmojcecefgjaaDoorZoap
import Derived.Test.YtghmojcecefgjaaDoorZoas
import Derived.Test.YtghmojcecefgjaaDoorZoax
set_option linter.unusedVariables false
set_option linter.unusedSimpArgs false
namespace Go.Proofs.YtghmojcecefgjaaDoor
open Go.RowKit
def evalT (s : List UInt8) : Int × Fault :=
  if (toksV 0 s).2.Err = 0 then ((evalV (toksV 0 s).1).1, ⟨(evalV (toksV 0 s).1).2.1, (evalV (toksV 0 s).1).2.2.1, (evalV (toksV 0 s).1).2.2.2⟩) else (0, (toksV 0 s).2)
theorem toks_clean (s : List UInt8) : clean (toksV 0 s).1 := fun t ht => by
  have := ((toksV_small 0 s).2.1 t ht).1
  omega
theorem peval_eq (s : List UInt8) (h : s.length ≤ 1099511627776) : prelaw4_eval s = some (evalT s) := by
  unfold prelaw4_eval evalT
  rw [rtokens_eq 0 s h, Option.bind_some]
  have h3 := (toksV_small 0 s).1
  by_cases he : (toksV 0 s).2.Err = 0
  · rw [ei_t he, if_neg (by decide), if_pos he, eval_eq _ (by omega) (toks_clean s)]
    rfl
  · rw [ei_f he, if_pos (by decide), if_neg he]
set_option maxRecDepth 100000 in
theorem alive4_eq : prelaw4_alive = some true := by
  have f1 : (evalT [49, 32, 43, 32, 50, 32, 42, 32, 51, 32, 61, 61, 32, 55, 32, 38, 38, 32, 39, 97, 39, 32, 61, 61, 32, 57, 55, 32, 63, 32, 48, 120, 49, 48, 32, 58, 32, 49, 32, 47, 32, 48]).1 = 16 := by decide +kernel
  have f2 : (evalT [49, 32, 43, 32, 50, 32, 42, 32, 51, 32, 61, 61, 32, 55, 32, 38, 38, 32, 39, 97, 39, 32, 61, 61, 32, 57, 55, 32, 63, 32, 48, 120, 49, 48, 32, 58, 32, 49, 32, 47, 32, 48]).2.Err = 0 := by decide +kernel
  have f3 : numV [48, 49, 55, 117] = (15, true) := by decide +kernel
  have f4 : charF [39, 92, 110, 39] = (10, true) := by decide +kernel
  unfold prelaw4_alive
  rw [peval_eq _ (by decide), num_eq _ (by decide), Option.bind_some, Option.bind_some]
  generalize evalT _ = w at *
  rw [show cond_Char [39, 92, 110, 39] = some (charF [39, 92, 110, 39]) from rfl, Option.bind_some, f1, f2, f3, f4]
  rfl
end Go.Proofs.YtghmojcecefgjaaDoor
