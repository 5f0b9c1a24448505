/- TopRound: reckoned. Plain. -/
import Derived.Test.YtfkhlbhjhdpkoaaGreatDoorZrbh
set_option linter.unusedVariables false
set_option linter.unusedSimpArgs false
set_option maxHeartbeats 4000000
set_option maxRecDepth 100000
namespace Go.Proofs.YtfkhlbhjhdpkoaaGreatDoor
open Go.RowKit
set_option maxRecDepth 100000
set_option maxHeartbeats 0
theorem tr1 : (List.range 1).all (fun k => decide (Jb fastLex 1 (k : Int) false = some true)) = true := by decide +kernel
theorem tr2 : (List.range 2).all (fun k => decide (Jb fastLex 2 (k : Int) false = some true)) = true := by decide +kernel
theorem tr3 : (List.range 3).all (fun k => decide (Jb fastLex 3 (k : Int) false = some true)) = true := by decide +kernel
theorem tr4 : (List.range 4).all (fun k => decide (Jb fastLex 4 (k : Int) false = some true)) = true := by decide +kernel
theorem tr5 : (List.range 5).all (fun k => decide (Jb fastLex 5 (k : Int) false = some true)) = true := by decide +kernel
theorem tr6 : (List.range 6).all (fun k => decide (Jb fastLex 6 (k : Int) false = some true)) = true := by decide +kernel
theorem tr7 : (List.range 7).all (fun k => decide (Jb fastLex 7 (k : Int) false = some true)) = true := by decide +kernel
theorem tr8 : (List.range 8).all (fun k => decide (Jb fastLex 8 (k : Int) false = some true)) = true := by decide +kernel
theorem tr9 : (List.range 9).all (fun k => decide (Jb fastLex 9 (k : Int) false = some true)) = true := by decide +kernel
theorem tr10 : (List.range 10).all (fun k => decide (Jb fastLex 10 (k : Int) false = some true)) = true := by decide +kernel
theorem tr11 : (List.range 11).all (fun k => decide (Jb fastLex 11 (k : Int) false = some true)) = true := by decide +kernel
theorem tr12 : (List.range 12).all (fun k => decide (Jb fastLex 12 (k : Int) false = some true)) = true := by decide +kernel
theorem tr_at {n : Nat} (h : (List.range n).all (fun k => decide (Jb fastLex (n : Int) (k : Int) false = some true)) = true) (k : Int) (h0 : 0 ≤ k) (hn : k < (n : Int)) : Jb fastLex (n : Int) k false = some true := by
 have := List.all_eq_true.1 h k.toNat (List.mem_range.2 (by omega))
 rw [Int.toNat_of_nonneg h0] at this
 exact of_decide_eq_true this
theorem topRound_all (n k : Int) : Zf n k = some true := by
 unfold Zf
 rw [aliveP]
 simp only [Option.bind_some, Bool.not_true, Bool.false_eq_true, if_false, ltI, leI, decide_eq_true_eq]
 by_cases h : n < 1
 ·rw [if_pos h]; rfl
 rw [if_neg h]
 by_cases h12 : 12 < n
 ·rw [if_pos h12]; rfl
 rw [if_neg h12]
 by_cases h0 : k < 0
 ·rw [if_pos h0]; rfl
 rw [if_neg h0]
 by_cases hk : n ≤ k
 ·rw [decide_eq_true hk]; rfl
 rw [decide_eq_false hk, JcO]
 obtain rfl | rfl | rfl | rfl | rfl | rfl | rfl | rfl | rfl | rfl | rfl | rfl : n = 1 ∨ n = 2 ∨ n = 3 ∨ n = 4 ∨ n = 5 ∨ n = 6 ∨ n = 7 ∨ n = 8 ∨ n = 9 ∨ n = 10 ∨ n = 11 ∨ n = 12 := by omega
 ·exact tr_at tr1 k (by omega) (by omega)
 ·exact tr_at tr2 k (by omega) (by omega)
 ·exact tr_at tr3 k (by omega) (by omega)
 ·exact tr_at tr4 k (by omega) (by omega)
 ·exact tr_at tr5 k (by omega) (by omega)
 ·exact tr_at tr6 k (by omega) (by omega)
 ·exact tr_at tr7 k (by omega) (by omega)
 ·exact tr_at tr8 k (by omega) (by omega)
 ·exact tr_at tr9 k (by omega) (by omega)
 ·exact tr_at tr10 k (by omega) (by omega)
 ·exact tr_at tr11 k (by omega) (by omega)
 ·exact tr_at tr12 k (by omega) (by omega)
theorem topRound_row (n k : Int) (_ : -9223372036854775808 ≤ n ∧ n ≤ 9223372036854775807) (_ : -9223372036854775808 ≤ k ∧ k ≤ 9223372036854775807) : Zf n k = some true := topRound_all n k
end Go.Proofs.YtfkhlbhjhdpkoaaGreatDoor
