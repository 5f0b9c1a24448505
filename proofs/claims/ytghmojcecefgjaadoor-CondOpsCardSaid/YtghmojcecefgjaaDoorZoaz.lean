/- Tokens of a text in parentheses. Plain. -/
import Derived.Test.YtghmojcecefgjaaDoorZoay
set_option linter.unusedVariables false
set_option linter.unusedSimpArgs false
namespace Go.Proofs.YtghmojcecefgjaaDoor
open Go.RowKit
def kx (r : Raw) : Int × List UInt8 := (r.kind, r.txt)
theorem inNum41 (pr : UInt8) : inNum pr 41 = false := by
  unfold inNum
  have h1 : decide ((41 : UInt8) = 43) = false := by decide
  have h2 : decide ((41 : UInt8) = 45) = false := by decide
  have h3 : decide ((41 : UInt8) = 46) = false := by decide
  have h4 : isWd 41 = false := by decide
  rw [h1, h2, h3, h4]
  rfl
theorem lxF_nil (n i st : Nat) (f : Bool) : lxF n [] i st f = ([], none) := by
  cases n with
  | zero => rfl
  | succ n => rfl
theorem sp_plain : ∀ (l : List UInt8) (i : Nat), (∀ c ∈ l, c ≠ 92 ∧ c ≠ 10) → (sp 0 i l).map (·.1) = l
  | [], i, _ => by simp [sp]
  | c :: r, i, h => by
    have hc := h c (by simp)
    have hj : joinsN (c :: r) = 0 := by
      unfold joinsN
      simp [hc.1]
    have h2 : ¬ (c = 13 ∧ r.head? = some 10) := by
      rintro ⟨_, q⟩
      cases r with
      | nil => cases q
      | cons d r => cases q; exact (h 10 (by simp)).2 rfl
    rw [sp, hj, if_neg (by omega), if_neg h2, List.map_cons, sp_plain r (i + 1) (fun d hd => h d (by simp [hd]))]
theorem spText_plain (l : List UInt8) (h : ∀ c ∈ l, c ≠ 92 ∧ c ≠ 10) : spText l = l := by
  unfold spText spAt
  exact sp_plain l 0 h
def kwT (t : Token) : Int × List UInt8 := (t.Kind, t.Text)
end Go.Proofs.YtghmojcecefgjaaDoor
