/- CondParens is true of every text. Plain. -/
import Derived.Test.YtghmojcecefgjaaDoorYba
set_option linter.unusedVariables false
set_option linter.unusedSimpArgs false
namespace Go.Proofs.YtghmojcecefgjaaDoor
open Go.RowKit
theorem c47' (c : UInt8) : eqI (c.toNat : Int) 47 = decide (c = 47) := c8 c 47 (by decide)
theorem c92' (c : UInt8) : eqI (c.toNat : Int) 92 = decide (c = 92) := c8 c 92 (by decide)
theorem c10' (c : UInt8) : eqI (c.toNat : Int) 10 = decide (c = 10) := c8 c 10 (by decide)
theorem evalT_ok {s : List UInt8} (h : (toksV 0 s).2.Err = 0) : evalT s = ((evalV (toksV 0 s).1).1, ⟨(evalV (toksV 0 s).1).2.1, (evalV (toksV 0 s).1).2.2.1, (evalV (toksV 0 s).1).2.2.2⟩) := if_pos h
theorem parens_law (s : List UInt8) (hl : s.length ≤ 2000) (hs : ∀ c ∈ s, c ≠ 47 ∧ c ≠ 92 ∧ c ≠ 10) (he : (evalT s).2.Err = 0) :
    ((evalT ([40] ++ s ++ [41])).2.Err = 10 ∨ ((evalT ([40] ++ s ++ [41])).2.Err = 0 ∧ (evalT ([40] ++ s ++ [41])).1 = (evalT s).1)) ∧
    ((evalT ([33, 33, 40] ++ s ++ [41])).2.Err = 10 ∨ ((evalT ([33, 33, 40] ++ s ++ [41])).2.Err = 0 ∧ (evalT ([33, 33, 40] ++ s ++ [41])).1 = oneV (decide (oneV (decide ((evalT s).1 = 0)) = 0)))) := by
  have he0 : (toksV 0 s).2.Err = 0 := by
    rcases Classical.em ((toksV 0 s).2.Err = 0) with h | h
    · exact h
    · have : evalT s = (0, (toksV 0 s).2) := if_neg h
      rw [this] at he; exact absurd he h
  have h3 := (toksV_small 0 s).1
  have hc := toks_clean s
  rw [evalT_ok he0] at he
  have he1 : (evalV (toksV 0 s).1).2.1 = 0 := he
  have hh : ∀ t r, (toksV 0 s).1 = t :: r → t.Text ≠ [35] := by
    intro t r e ht
    obtain ⟨u, p, n, g1, g2⟩ := toksV_piece 0 s t (by rw [e]; simp)
    exact hash_eval (by omega) hc t r e (piece35 u p t.Kind n g1 (g2 ▸ ht)) ht he1
  obtain ⟨⟨a1, a2⟩, b1, b2⟩ := toks_paren s hl hs he0 hh
  rw [evalT_ok a1, evalT_ok b1, evalT_ok he0]
  constructor
  · rcases paren_eval (by omega) hc (toks_clean _) he1 a2 with ⟨f, g, h⟩ | h
    · rw [h]; exact Or.inl rfl
    · rw [h]; exact Or.inr ⟨rfl, rfl⟩
  · rcases nots_eval (by omega) hc (toks_clean _) he1 b2 with ⟨f, g, h⟩ | h
    · rw [h]; exact Or.inl rfl
    · rw [h]; exact Or.inr ⟨rfl, rfl⟩
theorem parens_fin (s : List UInt8) (hl : s.length ≤ 500) (hs : ∀ c ∈ s, c ≠ 47 ∧ c ≠ 92 ∧ c ≠ 10) (he : (evalT s).2.Err = 0) :
    prelaw4_CondParens_b2 s (evalT s) ((s.length : Int), (s.length : Int)) = some (.inr true) := by
  obtain ⟨h1, h2⟩ := parens_law s (by omega) hs he
  rw [prelaw4_CondParens_b2, li_f (show ¬ (s.length : Int) < (s.length : Int) by omega), if_neg (by decide),
    if_pos (show 1 + s.length ≤ 9223372036854775807 by omega), if_pos (show 1 + s.length + 1 ≤ 9223372036854775807 by omega),
    peval_eq _ (by simp; omega), Option.bind_some, if_pos (show 3 + s.length ≤ 9223372036854775807 by omega), if_pos (show 3 + s.length + 1 ≤ 9223372036854775807 by omega),
    peval_eq _ (by simp; omega), Option.bind_some]
  have j4t : ∀ r2 r3 r4, prelaw4_CondParens_j4 r2 r3 r4 true = some true := fun _ _ _ => rfl
  generalize evalT ([40] ++ s ++ [41]) = r3 at h1 ⊢
  generalize evalT ([33, 33, 40] ++ s ++ [41]) = r4 at h2 ⊢
  rcases h1 with h1 | ⟨h1, h1'⟩
  · rw [ei_t h1, if_pos rfl, j4t]; rfl
  rw [ei_f (show ¬ r3.2.Err = 10 by omega), if_neg (by decide)]
  rcases h2 with h2 | ⟨h2, h2'⟩
  · rw [ei_t h2, j4t]; rfl
  rw [ei_f (show ¬ r4.2.Err = 10 by omega), prelaw4_CondParens_j4, if_neg (by decide), ei_t h1, if_pos rfl, ei_t h1', if_pos rfl, ei_t h2, if_pos rfl, h2']
  by_cases hv : (evalT s).1 = 0
  · rw [ei_t hv, decide_eq_true hv]; rfl
  · rw [ei_f hv, decide_eq_false hv]; rfl
theorem parens_loop (s : List UInt8) (hl : s.length ≤ 500) (he : (evalT s).2.Err = 0) : ∀ (n k : Nat), k ≤ s.length → s.length - k ≤ n → (∀ c ∈ s.take k, c ≠ 47 ∧ c ≠ 92 ∧ c ≠ 10) →
    loopO (prelaw4_CondParens_b2 s (evalT s)) ((s.length : Int), (k : Int)) = some true := by
  intro n
  induction n with
  | zero =>
    intro k hk hn hs
    have : k = s.length := by omega
    subst this
    rw [List.take_length] at hs
    rw [loopO_eq, parens_fin s hl hs he]
  | succ n ih =>
    intro k hk hn hs
    rcases Nat.lt_or_ge k s.length with hlt | hge
    · rw [loopO_eq, prelaw4_CondParens_b2, li_t (show (k : Int) < (s.length : Int) by omega), if_pos rfl]
      have e : (0 : Int) ≤ (k : Int) ∧ k < s.length := by omega
      simp only [Int.toNat_natCast]
      rw [if_pos e, if_pos e, if_pos e, c47', c92', c10']
      have jt : prelaw4_CondParens_j3 (s.length : Int) (k : Int) true = some (.inr true) := rfl
      have jf : prelaw4_CondParens_j3 (s.length : Int) (k : Int) false = some (.inl ((s.length : Int), ((k + 1 : Nat) : Int))) := by
        rw [prelaw4_CondParens_j3, if_neg (by decide), w1 k (by omega)]
      by_cases h1 : s.getD k 0 = 47
      · rw [decide_eq_true h1, if_pos rfl, jt]
      rw [decide_eq_false h1, if_neg (by decide)]
      by_cases h2 : s.getD k 0 = 92
      · rw [decide_eq_true h2, if_pos rfl, jt]
      rw [decide_eq_false h2, if_neg (by decide)]
      by_cases h3 : s.getD k 0 = 10
      · rw [decide_eq_true h3, jt]
      rw [decide_eq_false h3, jf]
      refine ih (k + 1) (by omega) (by omega) fun c hc => ?_
      rw [List.take_add_one] at hc
      rcases List.mem_append.1 hc with hc | hc
      · exact hs c hc
      · have : c = s.getD k 0 := by
          rw [List.getElem?_eq_getElem hlt] at hc
          simp only [Option.toList_some, List.mem_singleton] at hc
          rw [hc, List.getD_eq_getElem?_getD, List.getElem?_eq_getElem hlt]; rfl
        rw [this]; exact ⟨h1, h2, h3⟩
    · have : k = s.length := by omega
      subst this
      rw [List.take_length] at hs
      rw [loopO_eq, parens_fin s hl hs he]
theorem condParens_eq (s : List UInt8) (hl : s.length ≤ 1099511627776) : prelaw4_CondParens s = some true := by
  unfold prelaw4_CondParens
  rw [alive4_eq, Option.bind_some, if_neg (by decide), peval_eq s hl, Option.bind_some]
  by_cases he : (evalT s).2.Err = 0
  · rw [ei_t he, if_neg (by decide), prelaw4_CondParens_j1]
    by_cases h5 : 500 < s.length
    · rw [li_t (show (500 : Int) < (s.length : Int) by omega), if_pos rfl]
    · rw [li_f (show ¬ (500 : Int) < (s.length : Int) by omega), if_neg (by decide)]
      exact parens_loop s (by omega) he s.length 0 (Nat.zero_le _) (by omega) (by simp)
  · rw [ei_f he, if_pos (by decide), prelaw4_CondParens_j1, if_pos rfl]
theorem peval_big (s : List UInt8) (h : 3000 < s.length) : prelaw4_eval s = some (0, ⟨4, 0, 0⟩) := by
  unfold prelaw4_eval preref1_Tokens
  rw [li_t (show (3000 : Int) < (s.length : Int) by omega), if_pos rfl, Option.bind_some, ei_f (show ¬ (4 : Int) = 0 by decide), if_pos (by decide)]
theorem condParens_all (s : List UInt8) : prelaw4_CondParens s = some true := by
  by_cases h : s.length ≤ 1099511627776
  · exact condParens_eq s h
  · unfold prelaw4_CondParens
    rw [alive4_eq, Option.bind_some, if_neg (by decide), peval_big s (by omega), Option.bind_some, ei_f (show ¬ (4 : Int) = 0 by decide), if_pos (by decide), prelaw4_CondParens_j1, if_pos rfl]
end Go.Proofs.YtghmojcecefgjaaDoor
