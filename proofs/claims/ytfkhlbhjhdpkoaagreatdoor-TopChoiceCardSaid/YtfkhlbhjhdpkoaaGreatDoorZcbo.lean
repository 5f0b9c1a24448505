/- TopChoice: all lists. Plain. -/
import Derived.Test.YtfkhlbhjhdpkoaaGreatDoorZcbl
import Derived.Test.YtfkhlbhjhdpkoaaGreatDoorZcbm
import Derived.Test.YtfkhlbhjhdpkoaaGreatDoorZcbn
set_option linter.unusedVariables false
set_option linter.unusedSimpArgs false
namespace Go.Proofs.YtfkhlbhjhdpkoaaGreatDoor
open Go.RowKit
theorem tc_small {n : Nat} (h : (allL n).all tcOk = true) (l : List Bool) (hl : l.length = n) : tcOk l = true := List.all_eq_true.1 h l (hl ▸ allL_mem l)
theorem tc_pre {n : Nat} {f : List Bool → List Bool} (h : (allL n).all (fun l => tcOk (f l)) = true) (l : List Bool) (hl : l.length = n) : tcOk (f l) = true := List.all_eq_true.1 h l (hl ▸ allL_mem l)
theorem tc_all (l : List Bool) (h0 : 1 ≤ l.length) (h8 : l.length ≤ 8) : tcOk l = true := by
 by_cases h5 : l.length ≤ 6
 ·obtain h | h | h | h | h | h : l.length = 1 ∨ l.length = 2 ∨ l.length = 3 ∨ l.length = 4 ∨ l.length = 5 ∨ l.length = 6 := by omega
  ·exact tc_small tc1 l h
  ·exact tc_small tc2 l h
  ·exact tc_small tc3 l h
  ·exact tc_small tc4 l h
  ·exact tc_small tc5 l h
  exact tc_small tc6 l h
 cases l with
 | nil => simp at h0
 | cons a l =>
  cases l with
  | nil => simp at h5
  | cons b l =>
   simp only [List.length_cons] at h5 h8
   by_cases h7 : l.length = 5
   ·cases a
    ·exact tc_pre (f := fun l => false :: l) tc7_0 (b :: l) (by simp [h7])
    exact tc_pre (f := fun l => true :: l) tc7_1 (b :: l) (by simp [h7])
   have h6 : l.length = 6 := by omega
   cases a <;> cases b
   ·exact tc_pre (f := fun l => false :: false :: l) tc8_00 l h6
   ·exact tc_pre (f := fun l => false :: true :: l) tc8_01 l h6
   ·exact tc_pre (f := fun l => true :: false :: l) tc8_10 l h6
   exact tc_pre (f := fun l => true :: true :: l) tc8_11 l h6
theorem topChoice_all (l : List Bool) : XU l = some true := by
 unfold XU
 rw [aliveP]
 simp only [Option.bind_some, Bool.not_true, Bool.false_eq_true, if_false, ltI, decide_eq_true_eq]
 by_cases h : (l.length : Int) < 1
 ·rw [if_pos h]; rfl
 rw [if_neg h]
 by_cases h8 : (8 : Int) < (l.length : Int)
 ·rw [decide_eq_true h8]; rfl
 rw [decide_eq_false h8, Jc0]
 exact of_decide_eq_true (tc_all l (by omega) (by omega))
theorem topChoice_row (l : List Bool) (_ : l.length ≤ 9223372036854775807) : XU l = some true := topChoice_all l
end Go.Proofs.YtfkhlbhjhdpkoaaGreatDoor
