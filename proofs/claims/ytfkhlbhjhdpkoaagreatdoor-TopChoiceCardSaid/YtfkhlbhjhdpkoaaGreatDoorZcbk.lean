/- The closed fact that is asked first: reckoned. Plain. -/
import Derived.Test.YtfkhlbhjhdpkoaaGreatDoorZcbj
set_option linter.unusedVariables false
set_option linter.unusedSimpArgs false
set_option maxHeartbeats 4000000
set_option maxRecDepth 100000
namespace Go.Proofs.YtfkhlbhjhdpkoaaGreatDoor
open Go.RowKit
set_option maxRecDepth 100000
set_option maxHeartbeats 0
theorem aliveP : VM = some true := by rw [JeY]; decide +kernel
def allL : Nat → List (List Bool)
 | 0 => [[]]
 | n + 1 => (allL n).flatMap fun l => [false :: l, true :: l]
theorem allL_mem : ∀ l : List Bool, l ∈ allL l.length
 | [] => by simp [allL]
 | b :: l => by
  rw [List.length_cons, allL, List.mem_flatMap]
  exact ⟨l, allL_mem l, by cases b <;> simp⟩
noncomputable def tcOk (l : List Bool) : Bool := decide (V3 fastLex l ((l.length : Int), false) = some true)
theorem tc1 : (allL 1).all tcOk = true := by decide +kernel
theorem tc2 : (allL 2).all tcOk = true := by decide +kernel
theorem tc3 : (allL 3).all tcOk = true := by decide +kernel
theorem tc4 : (allL 4).all tcOk = true := by decide +kernel
theorem tc5 : (allL 5).all tcOk = true := by decide +kernel
end Go.Proofs.YtfkhlbhjhdpkoaaGreatDoor
