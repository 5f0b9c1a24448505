/- lex: the document's answer is the same. Plain. -/
import Derived.Test.YtgkacglpjmndbaaLe
import Derived.Test.YtgkacglpjmndbaaQi
namespace Go.Proofs.Ytgkacglpjmndbaa
open Go.RowKit

theorem rletter_eq (c : UInt8) : preref1_Letter c = some (isLet c) := letter_eq c
theorem rdigit_eq (c : UInt8) : preref1_Digit c = some (isDig c) := digit_eq c
theorem rsigns : preref1_Signs = some signsL := rfl

theorem take2at (u : List UInt8) (m : Nat) (h : m + 1 < u.length) : List.take (m + 2 - m) (List.drop m u) = [u.getD m 0, u.getD (m + 1) 0] := by
  rw [show m + 2 - m = 2 by omega, drop_cons u m (by omega), drop_cons u (m + 1) h]
  rfl
def skI (r : Nat × Bool × Bool) : Int × Bool := (if r.2.2 = true then ((r.1 : Nat) : Int) else -1 - ((r.1 : Nat) : Int), r.2.1)

theorem rskip_loop (u : List UInt8) (hu : u.length ≤ 1099511627776) : ∀ (n k : Nat) (feed : Bool), k ≤ u.length → u.length - k ≤ n → loopO (preref1_Skip_b1 u) ((k : Int), feed) = some (skI (skRes u k feed))
  | n, k, feed, hk, hn => by
    rw [loopO_step]
    have next : ∀ (k' : Nat) (feed' : Bool), k < k' → k' ≤ u.length → skRes u k feed = skRes u k' feed' → loopO (preref1_Skip_b1 u) ((k' : Int), feed') = some (skI (skRes u k feed)) := fun k' feed' h1 h2 h3 => by
      cases n with
      | zero => omega
      | succ n => rw [rskip_loop u hu n k' feed' h2 (by omega), h3]
    by_cases h : k < u.length
    · -- whatever stands behind it
      have j2 : ∀ two : List UInt8, two = (if k + 1 < u.length then [u.getD k 0, u.getD (k + 1) 0] else []) → stepO (preref1_Skip_b1 u) (preref1_Skip_j2 u (k : Int) feed (u.getD k 0, two)) = some (skI (skRes u k feed)) := fun two htwo => by
        have j3 : isBl (u.getD k 0) = false → stepO (preref1_Skip_b1 u) (preref1_Skip_j3 u (k : Int) feed two (u.getD k 0, false)) = some (skI (skRes u k feed)) := fun hb => by
          have h10 : ¬ u.getD k 0 = 10 := fun h10 => by rw [h10] at hb; exact absurd hb (by decide)
          simp only [preref1_Skip_j3, chr _ 10 10 rfl, eqS, decide_eq_true_eq]
          rw [if_neg (by decide), if_neg h10]
          by_cases h2 : k + 1 < u.length
          · rw [if_pos h2] at htwo
            subst htwo
            by_cases hl : u.getD k 0 = 47 ∧ u.getD (k + 1) 0 = 47
            · rw [if_pos (by rw [hl.1, hl.2])]
              have := while_loop (b := preref1_Skip_b4 u feed) u (fun c => decide (c ≠ 10)) (fun e => (Sum.inl ((e : Int), feed) : (Int × Bool) ⊕ (Int × Bool))) (fun m hm => ?_) _ k hk (Nat.le_refl _)
              · rw [this]
                have hp2 : 0 < lineL (u.drop k) := by rw [drop_cons u k h]; exact lineL_pos h10
                have hle := runN_le (fun c => decide (c ≠ 10)) (u.drop k)
                rw [List.length_drop] at hle
                exact next _ _ (by unfold lineL at hp2; omega) (by omega) (skRes_line h2 hl.1 hl.2 feed)
              · simp only [preref1_Skip_b4, preref1_Skip_j5, ltI, decide_eq_true_eq, Int.toNat_natCast, inrO, chr _ 10 10 rfl]
                by_cases hm2 : m < u.length
                · rw [if_pos (show (m : Int) < u.length by omega), if_pos (show (0 : Int) ≤ m ∧ m < u.length by omega), wN1 m (by omega)]
                  generalize u.getD m 0 = c
                  by_cases hc : c = 10
                  · simp [hc]
                  · simp [hc, hm2]
                · rw [if_neg (show ¬ (m : Int) < u.length by omega)]; simp [hm2]
            · have hl' : ¬ [u.getD k 0, u.getD (k + 1) 0] = [47, 47] := fun hh => hl (by simpa using hh)
              rw [if_neg hl']
              by_cases hc : u.getD k 0 = 47 ∧ u.getD (k + 1) 0 = 42
              · rw [if_pos (by rw [hc.1, hc.2]), wN2 k (by omega)]
                have := note_loop (b := preref1_Skip_b6 u (k : Int) feed) u (fun o => (match o with | none => Sum.inr (-1 - (k : Int), feed) | some e => Sum.inl (((e + 2 : Nat) : Int), feed) : (Int × Bool) ⊕ (Int × Bool))) (fun m hm => ?_) _ (k + 2) (by omega) (Nat.le_refl _)
                · rw [this]
                  cases hj : endC (u.drop (k + 2)) with
                  | none =>
                    simp only [Option.map_none, stepO]
                    rw [skRes_open h2 hc.1 hc.2 hj]
                    simp [skI]
                  | some j =>
                    simp only [Option.map_some, stepO]
                    have := endC_lt hj
                    rw [List.length_drop] at this
                    exact next _ _ (by omega) (by omega) (skRes_note h2 hc.1 hc.2 hj feed)
                · simp only [preref1_Skip_b6, preref1_Skip_j7, ltI, leI, eqS, decide_eq_true_eq, Int.toNat_natCast, wN1 m (by omega), wN2 m (by omega), inrO]
                  by_cases hm2 : m + 1 < u.length
                  · rw [if_pos (show ((m + 1 : Nat) : Int) < u.length by omega), if_pos (show (0 : Int) ≤ (m : Int) ∧ (m : Int) ≤ ((m + 2 : Nat) : Int) ∧ ((m + 2 : Nat) : Int) ≤ u.length by omega), take2at u m hm2]
                    generalize u.getD m 0 = c
                    generalize u.getD (m + 1) 0 = d
                    rw [if_neg (show ¬ (u.length : Int) ≤ ((m + 1 : Nat) : Int) by omega)]
                    by_cases hcd : c = 42 ∧ d = 47
                    · obtain ⟨rfl, rfl⟩ := hcd
                      simp [hm2]
                    · have : ¬ [c, d] = [42, 47] := fun hh => hcd (by simpa using hh)
                      simp [this, hm2, hcd]
                  · rw [if_neg (show ¬ ((m + 1 : Nat) : Int) < u.length by omega), if_neg (by decide), if_pos (show (u.length : Int) ≤ ((m + 1 : Nat) : Int) by omega), if_neg (fun hh => hm2 hh.1), if_neg hm2]
                    rw [show IntKind.i64.wrap (-1 - (k : Int)) = -1 - (k : Int) from wr _ (by omega)]
                    rfl
              · have hc' : ¬ [u.getD k 0, u.getD (k + 1) 0] = [47, 42] := fun hh => hc (by simpa using hh)
                rw [if_neg hc']
                simp only [inrO, Option.map_some, stepO]
                rw [skRes_stop h hb (fun hh => hl ⟨hh.1, hh.2.2⟩) (fun hh => hc ⟨hh.1, hh.2.2⟩)]
                rfl
          · rw [if_neg h2] at htwo
            subst htwo
            rw [if_neg (by decide), if_neg (by decide)]
            simp only [inrO, Option.map_some, stepO]
            rw [skRes_stop h hb (fun hh => h2 hh.2.1) (fun hh => h2 hh.2.1)]
            rfl
        have bl : isBl (u.getD k 0) = true → ∀ f2, f2 = (feed || decide (u.getD k 0 = 10)) → stepO (preref1_Skip_b1 u) (some (.inl (IntKind.i64.wrap ((k : Int) + 1), f2))) = some (skI (skRes u k feed)) := fun hb f2 hf2 => by
          rw [wN1 k (by omega)]
          exact next (k + 1) f2 (by omega) (by omega) (by rw [hf2]; exact skRes_bl h hb feed)
        simp only [preref1_Skip_j2, chr _ 32 32 rfl, chr _ 9 9 rfl, chr _ 13 13 rfl, decide_eq_true_eq]
        have e3 : ∀ b, preref1_Skip_j3 u (k : Int) feed two (u.getD k 0, b) = if b = true then some (.inl (IntKind.i64.wrap ((k : Int) + 1), feed)) else preref1_Skip_j3 u (k : Int) feed two (u.getD k 0, false) := fun b => by cases b <;> simp [preref1_Skip_j3]
        by_cases h32 : u.getD k 0 = 32
        · rw [if_pos h32, e3, if_pos rfl]; exact bl (by rw [h32]; rfl) _ (by rw [h32]; simp)
        · rw [if_neg h32]
          by_cases h9 : u.getD k 0 = 9
          · rw [if_pos h9, e3, if_pos rfl]; exact bl (by rw [h9]; rfl) _ (by rw [h9]; simp)
          · rw [if_neg h9]
            by_cases h13 : u.getD k 0 = 13
            · rw [e3, if_pos (decide_eq_true h13)]; exact bl (by rw [h13]; rfl) _ (by rw [h13]; simp)
            · rw [e3, if_neg (show ¬ decide (u.getD k 0 = 13) = true by rw [decide_eq_true_eq]; exact h13)]
              by_cases h10 : u.getD k 0 = 10
              · have := bl (by rw [h10]; rfl) true (by rw [h10]; simp)
                simp only [preref1_Skip_j3, chr _ 10 10 rfl, decide_eq_true_eq]
                rw [if_neg (by decide), if_pos h10]
                exact this
              · exact j3 (by unfold isBl; simp only [h32, h9, h10, h13]; rfl)
      simp only [preref1_Skip_b1, ltI, decide_eq_true_eq, Int.toNat_natCast, wN1 k (by omega), wN2 k (by omega)]
      rw [if_pos (show (k : Int) < u.length by omega), if_pos (show (0 : Int) ≤ k ∧ k < u.length by omega)]
      by_cases h2 : k + 1 < u.length
      · rw [if_pos (show ((k + 1 : Nat) : Int) < u.length by omega), if_pos (show (0 : Int) ≤ (k : Int) ∧ (k : Int) ≤ ((k + 2 : Nat) : Int) ∧ ((k + 2 : Nat) : Int) ≤ u.length by omega), take2at u k h2]
        exact j2 _ (by rw [if_pos h2])
      · rw [if_neg (show ¬ ((k + 1 : Nat) : Int) < u.length by omega)]
        exact j2 _ (by rw [if_neg h2])
    · simp only [preref1_Skip_b1, ltI, decide_eq_true_eq, inrO]
      rw [if_neg (show ¬ (k : Int) < u.length by omega), skRes_end h]
      rfl
theorem rskip_eq (u : List UInt8) (hu : u.length ≤ 1099511627776) : preref1_Skip u = some (skI (skip u)) := by
  unfold preref1_Skip
  have := rskip_loop u hu _ 0 false (Nat.zero_le _) (Nat.le_refl _)
  rw [show ((0 : Int), false) = (((0 : Nat) : Int), false) from rfl, this]
  unfold skRes
  simp
end Go.Proofs.Ytgkacglpjmndbaa
