/- CondIdle is true of all numbers. Plain. -/
import Derived.Test.YtghmojcecefgjaaDoorZobd
import Derived.Test.YtghmojcecefgjaaDoorZobf
set_option linter.unusedVariables false
set_option linter.unusedSimpArgs false
namespace Go.Proofs.YtghmojcecefgjaaDoor
open Go.RowKit
theorem itoa_eq (n : Int) (h0 : 0 ≤ n) (h1 : n ≤ 9223372036854775807) : strconv_Itoa n = some (Lib.decDigits n.toNat) := by
  unfold strconv_Itoa
  rw [if_pos ⟨by omega, h1⟩]
  unfold Lib.itoa
  rw [if_neg (by omega)]
theorem lit_eq (a : Int) (ha : -9223372036854775808 ≤ a ∧ a ≤ 9223372036854775807) : prelaw4_lit a = some (litS a) := by
  unfold prelaw4_lit litS
  by_cases h : a < 0
  · have hl := Lib.nDigits_le20 (-1 - a).toNat (by omega)
    rw [li_t h, if_pos rfl, wr _ (by omega), itoa_eq _ (by omega) (by omega), Option.bind_some, if_pos h]
    rw [if_pos (show 2 + (Lib.decDigits (-1 - a).toNat).length ≤ 9223372036854775807 by rw [Lib.decDigits_length]; omega), if_pos (show 2 + (Lib.decDigits (-1 - a).toNat).length + 1 ≤ 9223372036854775807 by rw [Lib.decDigits_length]; omega)]
  · have hl := Lib.nDigits_le20 a.toNat (by omega)
    rw [li_f h, if_neg (by decide), itoa_eq _ (by omega) (by omega), Option.bind_some, if_neg h]
    rw [if_pos (show 1 + (Lib.decDigits a.toNat).length ≤ 9223372036854775807 by rw [Lib.decDigits_length]; omega), if_pos (show 1 + (Lib.decDigits a.toNat).length + 1 ≤ 9223372036854775807 by rw [Lib.decDigits_length]; omega)]
theorem plain_app {a b : List UInt8} (h : ∀ c ∈ a, c ≠ 92 ∧ c ≠ 10) (g : ∀ c ∈ b, c ≠ 92 ∧ c ≠ 10) : ∀ c ∈ a ++ b, c ≠ 92 ∧ c ≠ 10 := fun c hc => (List.mem_append.1 hc).elim (h c) (g c)
end Go.Proofs.YtghmojcecefgjaaDoor
