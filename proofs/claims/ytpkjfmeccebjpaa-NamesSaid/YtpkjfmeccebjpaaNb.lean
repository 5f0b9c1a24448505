/- pretop.Names: what its function of data answers. -/
import Derived.Test.YtpkjfmeccebjpaaNa
import Derived.IntWalk
namespace Go.Proofs.Ytpkjfmeccebjpaa
open Go.RowKit

theorem wr (x : Int) (h : -9223372036854775808 ≤ x ∧ x ≤ 9223372036854775807) : IntKind.i64.wrap x = x := IntWalk.i64_in _ h
def Nxt {S R : Type} (I : S → Prop) (μ : S → Nat) (post : R → Prop) (n : Nat) (o : S ⊕ R) : Prop := match o with | .inl s' => I s' ∧ μ s' < n | .inr r => post r
theorem loopO_go {S R : Type} {b : S → Option (S ⊕ R)} (I : S → Prop) (μ : S → Nat) (post : R → Prop)
    (h : ∀ s, I s → ∃ o, b s = some o ∧ Nxt I μ post (μ s) o) (s : S) (hs : I s) : ∃ r, loopO b s = some r ∧ post r :=
  loopO_rule I μ post (fun s hs => by
    obtain ⟨o, h1, h2⟩ := h s hs
    refine ⟨o, h1, ?_⟩
    cases o <;> exact h2) s hs

theorem names2 (W : List Int) (hW : W.length ≤ 1000) : loopO pretop_Names_b2 (W, W, (W.length : Int), 0) = some true := by
  obtain ⟨r, h1, h2⟩ := loopO_go (b := pretop_Names_b2) (fun s => ∃ i : Nat, s = (W, W, (W.length : Int), (i : Int)) ∧ i ≤ W.length) (fun s => W.length - s.2.2.2.toNat) (fun r => r = true) (by
    rintro _ ⟨i, rfl, hi⟩
    simp only [pretop_Names_b2, ltI, eqI, decide_eq_true_eq, Int.toNat_natCast, decide_true, Bool.not_true, Bool.false_eq_true, if_false]
    by_cases hil : i < W.length
    · rw [if_pos (by omega), if_pos (by omega), if_pos (by omega), wr _ (by omega)]
      exact ⟨_, rfl, ⟨i + 1, by simp, by omega⟩, by simp; omega⟩
    · rw [if_neg (by omega)]
      exact ⟨_, rfl, rfl⟩) (W, W, (W.length : Int), 0) ⟨0, by simp, by omega⟩
  rw [h1, h2]

theorem names1 (V : List Int) (hl : V.length ≤ 1000) (hV : ∀ i, i < V.length → V.getD i default = (i : Int)) : loopO pretop_Names_b1 (V, (V.length : Int), 0) = some true := by
  obtain ⟨r, h1, h2⟩ := loopO_go (b := pretop_Names_b1) (fun s => ∃ i : Nat, s = (V, (V.length : Int), (i : Int)) ∧ i ≤ V.length) (fun s => V.length - s.2.2.toNat) (fun r => r = true) (by
    rintro _ ⟨i, rfl, hi⟩
    simp only [pretop_Names_b1, ltI, eqI, decide_eq_true_eq, Int.toNat_natCast, Bool.not_eq_true', decide_eq_false_iff_not]
    by_cases hil : i < V.length
    · rw [if_pos (by omega), if_pos (by omega), if_neg (fun h => h (hV i hil)), wr _ (by omega)]
      exact ⟨_, rfl, ⟨i + 1, by simp, by omega⟩, by simp; omega⟩
    · rw [if_neg (by omega)]
      exact ⟨_, inrO_of (names2 _ (by decide)), rfl⟩) (V, (V.length : Int), 0) ⟨0, by simp, by omega⟩
  rw [h1, h2]

theorem names_eq : pretop_Names = some true := names1 _ (by decide) (by decide)
end Go.Proofs.Ytpkjfmeccebjpaa
