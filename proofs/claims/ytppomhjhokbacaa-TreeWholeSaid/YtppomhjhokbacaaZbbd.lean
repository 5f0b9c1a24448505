/- TreeJoined, plain. -/
import Derived.Test.YtppomhjhokbacaaZbbc
set_option linter.unusedVariables false
set_option linter.unusedSimpArgs false
namespace Go.Proofs.Ytppomhjhokbacaa
open Go.RowKit
theorem nsz_mem : ∀ {l : List Node} {x : Node}, x ∈ l → nsz x ≤ nszs l
  | y :: l, x, h => by
    rw [nszs]
    rcases List.mem_cons.1 h with h | h
    · subst h; omega
    · have := nsz_mem h; omega
theorem cnt_mem (i : Int) : ∀ {l : List Node} {x : Node}, x ∈ l → cnt i x ≤ cnts i l
  | y :: l, x, h => by
    rw [cnts]
    rcases List.mem_cons.1 h with h | h
    · subst h; omega
    · have := cnt_mem i h; omega
theorem getD_mem' (l : List Node) (j : Nat) (h : j < l.length) : l.getD j default ∈ l := by
  rw [List.getD_eq_getElem?_getD, List.getElem?_eq_getElem h]
  exact List.getElem_mem h
end Go.Proofs.Ytppomhjhokbacaa
