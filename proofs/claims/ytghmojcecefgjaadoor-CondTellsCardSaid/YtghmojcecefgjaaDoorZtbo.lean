/- The document's Num is the program's. Plain. -/
import Derived.Test.YtghmojcecefgjaaDoorZtbn
set_option linter.unusedVariables false
set_option linter.unusedSimpArgs false
namespace Go.Proofs.YtghmojcecefgjaaDoor
open Go.RowKit
theorem digB_sign (B : Nat) (hB : B ≤ 16) (c : UInt8) (h : c = 43 ∨ c = 45) : ¬ digB c.toNat < B := by
  rcases h with rfl | rfl
  · have : digB (43 : UInt8).toNat = 99 := by decide
    omega
  · have : digB (45 : UInt8).toNat = 99 := by decide
    omega
theorem finR_numF (B : Nat) (hB : B = 8 ∨ B = 10 ∨ B = 16) (u : List UInt8) : finR (ltI 0 (u.length : Int)) (parseB B 0 u) = numF B u := by
  unfold numF
  cases u with
  | nil => rfl
  | cons c r =>
    rw [li_t (show (0 : Int) < ((c :: r).length : Int) by simp only [List.length_cons]; omega)]
    have hg : (c :: r).getD 0 0 = c := rfl
    rw [hg]
    by_cases h1 : c = 43
    · rw [parseB, if_neg (digB_sign B (by omega) c (Or.inl h1))]
      cases parseI B (c :: r) with
      | none => rfl
      | some n => show _ = if c = 43 then ((0 : Int), false) else _; rw [if_pos h1]; rfl
    by_cases h2 : c = 45
    · rw [parseB, if_neg (digB_sign B (by omega) c (Or.inr h2))]
      cases parseI B (c :: r) with
      | none => rfl
      | some n => show _ = if c = 43 then ((0 : Int), false) else if c = 45 then (0, false) else _; rw [if_neg h1, if_pos h2]; rfl
    simp only [if_neg h1, if_neg h2]
    rw [show parseI B (c :: r) = posI (parseU B (c :: r)) from by rw [parseI, if_neg h1, if_neg h2]]
    show _ = match posI (parseB B 0 (c :: r)) with | none => _ | some n => _
    cases parseB B 0 (c :: r) with
    | bad => rfl
    | range => rfl
    | ok n =>
      show (if n < 9223372036854775808 then ((n : Int), true) else (0, false)) = match (if 9223372036854775808 ≤ n then none else some (n : Int) : Option Int) with | none => (0, false) | some n => (n, true)
      by_cases h : n < 9223372036854775808
      · rw [if_pos h, if_neg (show ¬ 9223372036854775808 ≤ n by omega)]
      · rw [if_neg h, if_pos (show 9223372036854775808 ≤ n by omega)]
theorem rnum_j2 (u : List UInt8) (hu : u.length ≤ 281474976710656) (B : Nat) (hB : B = 8 ∨ B = 10 ∨ B = 16) : preref4_Num_j2 (u, (B : Int)) = some (numF B u) := by
  have := rnum_loop u hu B hB u.length 0 0 (by omega) (by omega) (by omega)
  rw [List.drop_zero, finR_numF B hB] at this
  exact this
theorem rnum_j9 (q : List UInt8) (hq : q.length ≤ 281474976710656) (p : Bool) (hp : p = true → 2 < q.length) :
    preref4_Num_j9 q p = some (if p = true then numF 16 (q.drop 2) else if 1 < q.length ∧ q.getD 0 0 = 48 then numF 8 (q.drop 1) else numF 10 q) := by
  cases p with
  | true =>
    have := hp rfl
    rw [preref4_Num_j9, if_pos rfl, if_pos (show (0 : Int) ≤ 2 ∧ 2 ≤ (q.length : Int) ∧ (q.length : Int) ≤ (q.length : Int) by omega), if_pos rfl]
    exact rnum_j2 _ (by simp; omega) 16 (by omega)
  | false =>
    have jf : preref4_Num_j10 q false = some (numF 10 q) := by
      rw [preref4_Num_j10, if_neg (by decide)]
      exact rnum_j2 _ hq 10 (by omega)
    rw [preref4_Num_j9, if_neg (by decide), if_neg (show ¬ (false = true) by decide)]
    by_cases h1 : 1 < q.length
    · rw [li_t (show (1 : Int) < (q.length : Int) by omega), if_pos rfl, if_pos (show 0 < q.length by omega), c48]
      by_cases h2 : q.getD 0 0 = 48
      · rw [decide_eq_true h2, if_pos ⟨h1, h2⟩, preref4_Num_j10, if_pos rfl, if_pos (show (0 : Int) ≤ 1 ∧ 1 ≤ (q.length : Int) ∧ (q.length : Int) ≤ (q.length : Int) by omega)]
        exact rnum_j2 _ (by simp; omega) 8 (by omega)
      · rw [decide_eq_false h2, if_neg (fun z => h2 z.2), jf]
    · rw [li_f (show ¬ (1 : Int) < (q.length : Int) by omega), if_neg (by decide), if_neg (fun z => h1 z.1), jf]
theorem c120 (c : UInt8) : eqI (c.toNat : Int) 120 = decide (c = 120) := c8 c 120 (by decide)
theorem c88 (c : UInt8) : eqI (c.toNat : Int) 88 = decide (c = 88) := c8 c 88 (by decide)
theorem rnum_j1 (q : List UInt8) (hq : q.length ≤ 281474976710656) : preref4_Num_j1 q = some (numT q) := by
  rw [preref4_Num_j1]
  unfold numT
  by_cases h2 : 2 < q.length
  · rw [li_t (show (2 : Int) < (q.length : Int) by omega), if_pos rfl, if_pos (show 0 < q.length by omega), c48]
    obtain ⟨a, b, r, rfl⟩ : ∃ a b r, q = a :: b :: r := by
      match q, h2 with
      | a :: b :: r, _ => exact ⟨a, b, r, rfl⟩
    have g0 : (a :: b :: r).getD 0 0 = a := rfl
    have g1 : (a :: b :: r).getD 1 0 = b := rfl
    have tk : (a :: b :: r).take 2 = [a, b] := rfl
    rw [g0, g1, c120, c88, tk, if_pos (show 1 < (a :: b :: r).length by omega), if_pos (show 1 < (a :: b :: r).length by omega)]
    by_cases h3 : a = 48
    · rw [decide_eq_true h3, if_pos rfl]
      by_cases h4 : b = 120
      · rw [decide_eq_true h4, if_pos rfl, rnum_j9 _ hq true (fun _ => h2), if_pos rfl, if_pos ⟨h2, Or.inl (by rw [h3, h4])⟩]
      · rw [decide_eq_false h4, if_neg (by decide)]
        by_cases h5 : b = 88
        · rw [decide_eq_true h5, rnum_j9 _ hq true (fun _ => h2), if_pos rfl, if_pos ⟨h2, Or.inr (by rw [h3, h5])⟩]
        · rw [decide_eq_false h5, rnum_j9 _ hq false (by simp), if_neg (by decide), if_neg (show ¬ (2 < (a :: b :: r).length ∧ ([a, b] = [48, 120] ∨ [a, b] = [48, 88])) from fun z => by
            rcases z.2 with e | e
            · exact h4 (by injection e with _ e; injection e)
            · exact h5 (by injection e with _ e; injection e))]
          rfl
    · rw [decide_eq_false h3, if_neg (by decide), rnum_j9 _ hq false (by simp), if_neg (by decide), if_neg (show ¬ (2 < (a :: b :: r).length ∧ ([a, b] = [48, 120] ∨ [a, b] = [48, 88])) from fun z => by
            rcases z.2 with e | e
            · exact h3 (by injection e)
            · exact h3 (by injection e))]
      rfl
  · rw [li_f (show ¬ (2 : Int) < (q.length : Int) by omega), if_neg (by decide), rnum_j9 q hq false (by simp), if_neg (by decide), if_neg (show ¬ (2 < q.length ∧ (q.take 2 = [48, 120] ∨ q.take 2 = [48, 88])) from fun z => h2 z.1)]
theorem rnum_all : ∀ (n : Nat) (q : List UInt8), q.length ≤ n → q.length ≤ 281474976710656 → loopO preref4_Num_b11 q = some (numT (strip q)) := by
  intro n
  induction n with
  | zero =>
    intro q h hq
    obtain rfl : q = [] := List.eq_nil_of_length_eq_zero (by omega)
    rw [loopO_eq, show preref4_Num_b11 [] = inrO (preref4_Num_j1 []) from rfl, rnum_j1 [] hq]
    rfl
  | succ n ih =>
    intro q h hq
    rw [loopO_eq]
    cases hr : q.reverse with
    | nil =>
      obtain rfl : q = [] := List.reverse_eq_nil_iff.1 hr
      rw [show preref4_Num_b11 [] = inrO (preref4_Num_j1 []) from rfl, rnum_j1 [] hq]
      rfl
    | cons c t =>
      have hqe : q = t.reverse ++ [c] := by rw [← List.reverse_reverse q, hr, List.reverse_cons]
      have hlen : q.length = t.length + 1 := by rw [hqe]; simp
      by_cases h1 : 1 < q.length
      · have ew : IntKind.i64.wrap ((q.length : Int) - 1) = (t.length : Int) := by rw [hlen]; exact wm1 _ (by omega)
        have eg : q.getD t.length 0 = c := by rw [hqe]; simp [List.getD_eq_getElem?_getD]
        have et : q.take t.length = t.reverse := by rw [hqe, show t.length = t.reverse.length by simp, List.take_left]
        have hb : preref4_Num_b11 q = preref4_Num_j12 q (!isUL c) := by
          unfold isUL
          rw [preref4_Num_b11, li_t (show (1 : Int) < (q.length : Int) by omega), if_pos rfl, ew, Int.toNat_natCast, if_pos (show (0 : Int) ≤ (t.length : Int) ∧ t.length < q.length by omega), eg]
          rw [c76, c85, c108, c117]
          by_cases a1 : c = 76
          · simp [a1]
          by_cases a2 : c = 85
          · simp [a2]
          by_cases a3 : c = 108
          · simp [a3]
          by_cases a4 : c = 117
          · simp [a4]
          simp [a1, a2, a3, a4]
        rw [hb]
        cases hu : isUL c with
        | true =>
          rw [Bool.not_true, preref4_Num_j12, if_neg (by decide), ew, if_pos (show (0 : Int) ≤ 0 ∧ (0 : Int) ≤ (t.length : Int) ∧ (t.length : Int) ≤ (q.length : Int) by omega), Int.toNat_natCast, et]
          show loopO preref4_Num_b11 t.reverse = _
          rw [ih t.reverse (by simp; omega) (by simp; omega)]
          have : strip q = strip t.reverse := by
            unfold strip
            rw [hr, List.reverse_reverse]
            cases t with
            | nil => simp at hlen; omega
            | cons d r => rw [stripR, if_pos hu]
          rw [this]
        | false =>
          rw [Bool.not_false, preref4_Num_j12, if_pos rfl, rnum_j1 q hq]
          have : strip q = q := by
            unfold strip
            rw [hr]
            cases t with
            | nil => simp at hlen; omega
            | cons d r => rw [stripR, if_neg (by simp [hu]), ← hr, List.reverse_reverse]
          rw [this]
          rfl
      · have hb : preref4_Num_b11 q = inrO (preref4_Num_j1 q) := by
          rw [preref4_Num_b11, li_f (show ¬ (1 : Int) < (q.length : Int) by omega), if_neg (by decide)]
        rw [hb, rnum_j1 q hq]
        have : strip q = q := by
          unfold strip
          rw [hr]
          cases t with
          | nil => rw [stripR, ← hr, List.reverse_reverse]
          | cons d r => simp at hlen; omega
        rw [this]
        rfl
theorem rnum_eq (l : List UInt8) (h : l.length ≤ 281474976710656) : preref4_Num l = some (numV l) := rnum_all l.length l (Nat.le_refl _) h
end Go.Proofs.YtghmojcecefgjaaDoor
