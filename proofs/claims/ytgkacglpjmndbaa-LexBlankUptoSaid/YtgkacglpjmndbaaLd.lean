/- lex: what is blank, and Tokens. Plain. -/
import Derived.Test.YtgkacglpjmndbaaLc
namespace Go.Proofs.Ytgkacglpjmndbaa
open Go.RowKit

/-- The end of a note, from place k on. -/
theorem note_loop {R : Type} {b : Int → Option (Int ⊕ R)} (u : List UInt8) (f : Option Nat → R)
    (hb : ∀ k : Nat, k ≤ u.length → b (k : Int) = if k + 1 < u.length ∧ ¬ (u.getD k 0 = 42 ∧ u.getD (k + 1) 0 = 47) then some (.inl ((k + 1 : Nat) : Int)) else some (.inr (f (if k + 1 < u.length then some k else none)))) :
    ∀ (n k : Nat), k ≤ u.length → u.length - k ≤ n → loopO b (k : Int) = some (f ((endC (u.drop k)).map (k + ·)))
  | n, k, hk, hn => by
    rw [loopO_eq, hb k hk]
    by_cases h : k + 1 < u.length
    · have e := drop_cons u k (by omega)
      have e2 := drop_cons u (k + 1) h
      rw [e]
      by_cases h2 : u.getD k 0 = 42 ∧ u.getD (k + 1) 0 = 47
      · rw [if_neg (fun hh => hh.2 h2), if_pos h]
        rw [e2]
        simp only [endC, List.head?_cons, h2, and_self, if_true, Option.map_some, Nat.add_zero]
      · rw [if_pos ⟨h, h2⟩]
        cases n with
        | zero => omega
        | succ n =>
          simp only
          rw [note_loop u f hb n (k + 1) (by omega) (by omega)]
          have : ¬ (u.getD k 0 = 42 ∧ (u.drop (k + 1)).head? = some 47) := by
            rw [drop_head h]; simpa using h2
          rw [endC, if_neg this]
          cases endC (u.drop (k + 1)) with
          | none => rfl
          | some a => simp only [Option.map_some]; rw [show k + 1 + a = k + (a + 1) by omega]
    · rw [if_neg (fun hh => h hh.1), if_neg h]
      have : endC (u.drop k) = none := by
        cases he : endC (u.drop k) with
        | none => rfl
        | some j => have := endC_lt he; simp at this; omega
      rw [this]
      rfl

/-- What is blank, as a loop's rounds have it. -/
def skRes (u : List UInt8) (k : Nat) (feed : Bool) : Nat × Bool × Bool := (k + (skip (u.drop k)).1, feed || (skip (u.drop k)).2.1, (skip (u.drop k)).2.2)
theorem skRes_bl {u : List UInt8} {k : Nat} (h : k < u.length) (hb : isBl (u.getD k 0) = true) (feed : Bool) : skRes u k feed = skRes u (k + 1) (feed || decide (u.getD k 0 = 10)) := by
  unfold skRes
  rw [drop_cons u k h, skip_bl hb, Bool.or_assoc]
  simp only [Prod.mk.injEq, and_true]
  omega
theorem skRes_line {u : List UInt8} {k : Nat} (h : k + 1 < u.length) (h1 : u.getD k 0 = 47) (h2 : u.getD (k + 1) 0 = 47) (feed : Bool) : skRes u k feed = skRes u (k + lineL (u.drop k)) feed := by
  unfold skRes
  have e := drop_cons u k (by omega)
  rw [e, h1, skip_line (by rw [drop_head h, h2]), ← h1, ← e, List.drop_drop]
  simp only [Prod.mk.injEq, and_true]
  omega
theorem skRes_note {u : List UInt8} {k j : Nat} (h : k + 1 < u.length) (h1 : u.getD k 0 = 47) (h2 : u.getD (k + 1) 0 = 42) (hj : endC (u.drop (k + 2)) = some j) (feed : Bool) : skRes u k feed = skRes u (k + 2 + j + 2) feed := by
  unfold skRes
  have e := drop_cons u k (by omega)
  rw [e, h1, skip_note (j := j) (by rw [drop_head h, h2]) (by rw [List.drop_drop]; exact hj), List.drop_drop]
  rw [show k + 1 + (j + 3) = k + 2 + j + 2 by omega]
  simp only [Prod.mk.injEq, and_true]
  omega
theorem skRes_open {u : List UInt8} {k : Nat} (h : k + 1 < u.length) (h1 : u.getD k 0 = 47) (h2 : u.getD (k + 1) 0 = 42) (hj : endC (u.drop (k + 2)) = none) (feed : Bool) : skRes u k feed = (k, feed, false) := by
  unfold skRes
  have e := drop_cons u k (by omega)
  rw [e, h1, skip_open (by rw [drop_head h, h2]) (by rw [List.drop_drop]; exact hj)]
  simp
theorem skRes_stop {u : List UInt8} {k : Nat} (h : k < u.length) (hb : isBl (u.getD k 0) = false) (h1 : ¬ (u.getD k 0 = 47 ∧ k + 1 < u.length ∧ u.getD (k + 1) 0 = 47)) (h2 : ¬ (u.getD k 0 = 47 ∧ k + 1 < u.length ∧ u.getD (k + 1) 0 = 42)) (feed : Bool) : skRes u k feed = (k, feed, true) := by
  unfold skRes
  have key : ∀ d, (u.drop (k + 1)).head? = some d → k + 1 < u.length ∧ u.getD (k + 1) 0 = d := fun d hd => by
    by_cases h3 : k + 1 < u.length
    · rw [drop_head h3] at hd; exact ⟨h3, by simpa using hd⟩
    · rw [drop_nil h3] at hd; cases hd
  rw [drop_cons u k h, skip_stop hb (fun ⟨a, b⟩ => h1 ⟨a, key _ b⟩) (fun ⟨a, b⟩ => h2 ⟨a, key _ b⟩)]
  simp
theorem skRes_end {u : List UInt8} {k : Nat} (h : ¬ k < u.length) (feed : Bool) : skRes u k feed = (k, feed, true) := by
  unfold skRes
  rw [drop_nil h]
  simp [skip_nil]

noncomputable def stepO {S R : Type} (b : S → Option (S ⊕ R)) : Option (S ⊕ R) → Option R
  | none => none
  | some (.inl s') => loopO b s'
  | some (.inr r) => some r
theorem loopO_step {S R : Type} (b : S → Option (S ⊕ R)) (s : S) : loopO b s = stepO b (b s) := by
  rw [loopO_eq]
  cases b s with
  | none => rfl
  | some o => cases o <;> rfl

section
variable (x : Spliced) (txt : List UInt8) (file : Int) (out : List Token)

theorem blank_eq (hx : x.Text.length ≤ 1099511627776) (a : Nat) (i : Nat) (hi : i ≤ x.Text.length) :
    ∀ (n k : Nat) (some0 feed : Bool), k ≤ x.Text.length → x.Text.length - k ≤ n → loopO (lex_lexer_blank_b1 (lx x txt file out a)) (some0, feed, (k : Int)) =
      some ((some0 || decide (k < (skRes x.Text k feed).1), (skRes x.Text k feed).2.1, (skRes x.Text k feed).2.2), lx x txt file out (skRes x.Text k feed).1)
  | n, k, some0, feed, hk, hn => by
    rw [loopO_step]
    have next : ∀ (k' : Nat) (feed' : Bool), k < k' → k' ≤ x.Text.length → skRes x.Text k feed = skRes x.Text k' feed' → loopO (lex_lexer_blank_b1 (lx x txt file out a)) (true, feed', (k' : Int)) =
        some ((some0 || decide (k < (skRes x.Text k feed).1), (skRes x.Text k feed).2.1, (skRes x.Text k feed).2.2), lx x txt file out (skRes x.Text k feed).1) := fun k' feed' h1 h2 h3 => by
      cases n with
      | zero => omega
      | succ n =>
        rw [blank_eq hx a i hi n k' true feed' h2 (by omega), h3]
        have : k' ≤ (skRes x.Text k' feed').1 := by unfold skRes; simp
        have h4 : decide (k < (skRes x.Text k' feed').1) = true := by simp; omega
        rw [h4]
        simp
    by_cases h : k < x.Text.length
    · simp only [lex_lexer_blank_b1, ltI, decide_eq_true_eq, Int.toNat_natCast, chr _ 32 32 rfl, chr _ 9 9 rfl, chr _ 10 10 rfl, chr _ 13 13 rfl]
      rw [if_pos (show (k : Int) < x.Text.length by omega), if_pos (show (0 : Int) ≤ k ∧ k < x.Text.length by omega)]
      -- blank, or not
      have j3 : ∀ p : Bool, p = isBl (x.Text.getD k 0) → stepO (lex_lexer_blank_b1 (lx x txt file out a)) (lex_lexer_blank_j3 (lx x txt file out a) some0 feed (k : Int) (x.Text.getD k 0, p)) =
          some ((some0 || decide (k < (skRes x.Text k feed).1), (skRes x.Text k feed).2.1, (skRes x.Text k feed).2.2), lx x txt file out (skRes x.Text k feed).1) := fun p hp => by
        simp only [lex_lexer_blank_j3, lex_lexer_blank_j4, lex_lexer_blank_j5, lex_lexer_blank_j6, lex_lexer_blank_j2, ltI, decide_eq_true_eq, Int.toNat_natCast, chr _ 10 10 rfl, chr _ 47 47 rfl, chr _ 42 42 rfl, wN1 k (by omega), wN2 k (by omega), inrO]
        cases hpp : p
        · rw [hpp] at hp
          have hp := hp.symm
          rw [if_neg (by decide)]
          have stop : ¬ (x.Text.getD k 0 = 47 ∧ k + 1 < x.Text.length ∧ x.Text.getD (k + 1) 0 = 47) → ¬ (x.Text.getD k 0 = 47 ∧ k + 1 < x.Text.length ∧ x.Text.getD (k + 1) 0 = 42) →
              some ((some0, feed, true), lx x txt file out k) = some ((some0 || decide (k < (skRes x.Text k feed).1), (skRes x.Text k feed).2.1, (skRes x.Text k feed).2.2), lx x txt file out (skRes x.Text k feed).1) := fun h1 h2 => by
            rw [skRes_stop h hp h1 h2]; simp
          by_cases h47 : x.Text.getD k 0 = 47
          · by_cases h2 : k + 1 < x.Text.length
            · by_cases h3 : x.Text.getD (k + 1) 0 = 47
              · rw [if_pos h47, if_pos (show ((k + 1 : Nat) : Int) < x.Text.length by omega), if_pos (show (0 : Int) ≤ ((k + 1 : Nat) : Int) ∧ k + 1 < x.Text.length by omega), if_pos h3, while80_eq x txt file out _ hx k (by omega)]
                simp only [Option.bind_some, stepO]
                have hl := runN_le (fun c => decide (c ≠ 10)) (x.Text.drop k)
                have hp2 : 0 < lineL (x.Text.drop k) := by rw [drop_cons x.Text k h]; exact lineL_pos (by rw [h47]; decide)
                rw [List.length_drop] at hl
                exact next _ _ (by omega) (by unfold lineL; omega) (skRes_line h2 h47 h3 feed)
              · by_cases h4 : x.Text.getD (k + 1) 0 = 42
                · rw [if_pos h47, if_pos (show ((k + 1 : Nat) : Int) < x.Text.length by omega), if_pos (show (0 : Int) ≤ ((k + 1 : Nat) : Int) ∧ k + 1 < x.Text.length by omega), if_neg h3, if_pos (show ((k + 1 : Nat) : Int) < x.Text.length by omega), if_pos (show (0 : Int) ≤ ((k + 1 : Nat) : Int) ∧ k + 1 < x.Text.length by omega), if_pos h47, if_pos h4]
                  have := note_loop (b := lex_lexer_blank_b7 (lx x txt file out a) some0 feed (k : Int)) x.Text (fun o => match o with | none => Sum.inr ((some0, feed, false), lx x txt file out k) | some e => Sum.inl (true, feed, ((e + 2 : Nat) : Int))) (fun m hm => ?_) _ (k + 2) (by omega) (Nat.le_refl _)
                  · rw [this]
                    cases hj : endC (x.Text.drop (k + 2)) with
                    | none =>
                      simp only [Option.map_none, stepO]
                      rw [skRes_open h2 h47 h4 hj]
                      simp
                    | some j =>
                      simp only [Option.map_some, stepO]
                      have := endC_lt hj
                      rw [List.length_drop] at this
                      exact next _ _ (by omega) (by omega) (skRes_note h2 h47 h4 hj feed)
                  · simp only [lex_lexer_blank_b7, lex_lexer_blank_j8, lex_lexer_blank_j2, ltI, leI, eqS, decide_eq_true_eq, Int.toNat_natCast, wN1 m (by omega), wN2 m (by omega), inrO]
                    by_cases hm2 : m + 1 < x.Text.length
                    · rw [if_pos (show ((m + 1 : Nat) : Int) < x.Text.length by omega), if_pos (show (0 : Int) ≤ (m : Int) ∧ (m : Int) ≤ ((m + 2 : Nat) : Int) ∧ ((m + 2 : Nat) : Int) ≤ x.Text.length by omega)]
                      rw [show m + 2 - m = 2 by omega, drop_cons x.Text m (by omega), drop_cons x.Text (m + 1) hm2]
                      simp only [List.take_succ_cons, List.take_zero]
                      generalize x.Text.getD m 0 = c
                      generalize x.Text.getD (m + 1) 0 = d
                      rw [if_neg (show ¬ (x.Text.length : Int) ≤ ((m + 1 : Nat) : Int) by omega)]
                      by_cases hcd : c = 42 ∧ d = 47
                      · obtain ⟨rfl, rfl⟩ := hcd
                        simp [hm2]
                      · have : ¬ [c, d] = [42, 47] := fun hh => hcd (by simpa using hh)
                        simp [this, hm2, hcd]
                    · rw [if_neg (show ¬ ((m + 1 : Nat) : Int) < x.Text.length by omega), if_neg (by decide), if_pos (show (x.Text.length : Int) ≤ ((m + 1 : Nat) : Int) by omega), if_neg (fun hh => hm2 hh.1), if_neg hm2]
                      rfl
                · rw [if_pos h47, if_pos (show ((k + 1 : Nat) : Int) < x.Text.length by omega), if_pos (show (0 : Int) ≤ ((k + 1 : Nat) : Int) ∧ k + 1 < x.Text.length by omega), if_neg h3, if_pos (show ((k + 1 : Nat) : Int) < x.Text.length by omega), if_pos (show (0 : Int) ≤ ((k + 1 : Nat) : Int) ∧ k + 1 < x.Text.length by omega), if_pos h47, if_neg h4]
                  simp only [Option.map_some, stepO]
                  exact stop (fun hh => h3 hh.2.2) (fun hh => h4 hh.2.2)
            · rw [if_pos h47, if_neg (show ¬ ((k + 1 : Nat) : Int) < x.Text.length by omega), if_neg (by decide), if_pos h47, if_neg (show ¬ ((k + 1 : Nat) : Int) < x.Text.length by omega), if_neg (by decide)]
              simp only [Option.map_some, stepO]
              exact stop (fun hh => h2 hh.2.1) (fun hh => h2 hh.2.1)
          · rw [if_neg h47, if_neg (by decide), if_neg h47, if_neg (by decide)]
            simp only [Option.map_some, stepO]
            exact stop (fun hh => h47 hh.1) (fun hh => h47 hh.1)
        · rw [hpp] at hp
          have hp := hp.symm
          rw [if_pos rfl]
          have e := skRes_bl h hp feed
          cases feed
          · rw [if_neg (by decide)]
            exact next (k + 1) _ (by omega) (by omega) (by simpa using e)
          · rw [if_pos rfl]
            exact next (k + 1) _ (by omega) (by omega) (by simpa using e)
      unfold isBl at j3
      generalize x.Text.getD k 0 = c at j3 ⊢
      by_cases h32 : c = 32
      · rw [if_pos h32]; exact j3 true (by simp [h32])
      · rw [if_neg h32]
        by_cases h9 : c = 9
        · rw [if_pos h9]; exact j3 true (by simp [h9])
        · rw [if_neg h9]
          by_cases h10 : c = 10
          · rw [if_pos h10]; exact j3 true (by simp [h10])
          · rw [if_neg h10]; exact j3 _ (by simp [h32, h9, h10])
    · rw [skRes_end h]
      simp only [lex_lexer_blank_b1, ltI, decide_eq_true_eq, inrO]
      rw [if_neg (show ¬ (k : Int) < x.Text.length by omega)]
      simp [stepO]
end
end Go.Proofs.Ytgkacglpjmndbaa
