/- In parentheses tokens come to what they come to without, or it is too deep. Plain. -/
import Derived.Test.YtghmojcecefgjaaDoorZoaz
set_option linter.unusedVariables false
set_option linter.unusedSimpArgs false
namespace Go.Proofs.YtghmojcecefgjaaDoor
open Go.RowKit
structure Sub (l l' : List Token) (p : Nat) : Prop where
  len : l'.length = l.length + p + 1
  kd : ∀ i, i < l.length → (l'.getD (i + p) default).Kind = (l.getD i default).Kind
  tx : ∀ i, i < l.length → (l'.getD (i + p) default).Text = (l.getD i default).Text
  lk : (l'.getD (l.length + p) default).Kind = 5
  lt : (l'.getD (l.length + p) default).Text = [41]
theorem Sub.sign {l l' : List Token} {p : Nat} (H : Sub l l' p) {i : Nat} (h : i < l.length) : signAt l' (i + p) = signAt l i := by
  unfold signAt
  rw [H.kd i h, H.tx i h]
  have := H.len
  by_cases h5 : (l.getD i default).Kind = 5
  · rw [if_pos ⟨by omega, h5⟩, if_pos ⟨h, h5⟩]
  · rw [if_neg (fun q => h5 q.2), if_neg (fun q => h5 q.2)]
theorem Sub.last {l l' : List Token} {p : Nat} (H : Sub l l' p) : signAt l' (l.length + p) = [41] := by
  unfold signAt
  rw [H.lk, H.lt, if_pos ⟨by have := H.len; omega, rfl⟩]
theorem sign_out (l : List Token) (i : Nat) (h : l.length ≤ i) : signAt l i = [] := by
  unfold signAt
  rw [if_neg (fun q => by omega)]
theorem Sub.is {l l' : List Token} {p : Nat} (H : Sub l l' p) {i : Nat} (h : i ≤ l.length) (s : List UInt8) (h0 : s ≠ []) (h1 : s ≠ [41]) : signAt l' (i + p) = s ↔ signAt l i = s := by
  rcases Nat.lt_or_ge i l.length with h2 | h2
  · rw [H.sign h2]
  · have : i = l.length := by omega
    subst this
    rw [H.last, sign_out l _ (Nat.le_refl _)]
    constructor
    · intro q; exact absurd q.symm h1
    · intro q; exact absurd q.symm h0
end Go.Proofs.YtghmojcecefgjaaDoor
