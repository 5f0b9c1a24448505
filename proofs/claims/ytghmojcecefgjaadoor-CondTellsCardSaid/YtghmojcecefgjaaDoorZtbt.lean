/- CondTells. Plain. -/
import Derived.Test.YtghmojcecefgjaaDoorZtbs
set_option linter.unusedVariables false
set_option linter.unusedSimpArgs false
namespace Go.Proofs.YtghmojcecefgjaaDoor
open Go.RowKit
theorem condTells_j1 (b : List UInt8) (hb : b.length ≤ 281474976710656) : prelaw4_CondTells_j1 b () = some true := by
  rw [prelaw4_CondTells_j1, num_eq b (by omega), Option.bind_some, rnum_eq b hb, Option.bind_some]
  have j2 : prelaw4_CondTells_j2 b false = some true := by
    rw [prelaw4_CondTells_j2, if_neg (by decide), show cond_Char b = some (charF b) from rfl, Option.bind_some, rchar_eq, Option.bind_some, ei_t rfl, if_pos rfl, prelaw4_CondTells_j3]
    cases (charF b).2 <;> rfl
  by_cases h : (!eqS b []) = true
  · rw [if_pos h, ei_t rfl, if_neg (by decide)]
    rw [show (!eqB (numV b).2 (numV b).2) = false by cases (numV b).2 <;> rfl, j2]
  · rw [if_neg h, j2]
theorem toks_big (s : List UInt8) (h : 3000 < s.length) : preref1_Tokens 0 s = some ([], ⟨4, 0, 0⟩) := by
  unfold preref1_Tokens
  rw [li_t (show (3000 : Int) < (s.length : Int) by omega), if_pos rfl]
theorem condTells_all (a b : List UInt8) (hb : b.length ≤ 281474976710656) : prelaw4_CondTells a b = some true := by
  unfold prelaw4_CondTells
  by_cases ha : a.length ≤ 1099511627776
  · rw [rtokens_eq 0 a ha, Option.bind_some]
    have h3 := (toksV_small 0 a).1
    by_cases he : (toksV 0 a).2.Err = 0
    · rw [ei_t he, if_pos rfl, eval_eq _ (by omega) (toks_clean a), Option.bind_some, reval_eq _ (by omega) (fun t ht => by have := ((toksV_small 0 a).2.1 t ht).1; omega), Option.bind_some]
      rw [ei_t rfl, if_neg (by decide)]
      dsimp only
      rw [ei_t rfl, ei_t rfl, ei_t rfl]
      show prelaw4_CondTells_j4 b false = some true
      rw [prelaw4_CondTells_j4, if_neg (by decide), condTells_j1 b hb]
    · rw [ei_f he, if_neg (by decide), condTells_j1 b hb]
  · rw [toks_big a (by omega), Option.bind_some, ei_f (show ¬ (4 : Int) = 0 by decide), if_neg (by decide), condTells_j1 b hb]
end Go.Proofs.YtghmojcecefgjaaDoor
