/- lex: the program's functions answer what La says. Plain. -/
import Derived.Test.YtgkacglpjmndbaaLa
import Derived.Test.YtgkacglpjmndbaaQl
namespace Go.Proofs.Ytgkacglpjmndbaa
open Go.RowKit

theorem chr (c m : UInt8) (n : Int) (h : (m.toNat : Int) = n) : eqI (c.toNat : Int) n = decide (c = m) := by
  unfold eqI
  by_cases hc : c = m
  · subst hc; simp [h]
  · have : ¬ (c.toNat : Int) = n := fun h2 => hc (UInt8.toNat_inj.1 (by omega))
    simp [hc, this]
theorem chr2 (c m : UInt8) : eqI (c.toNat : Int) (m.toNat : Int) = decide (c = m) := chr c m _ rfl
theorem wN1 (k : Nat) (h : k ≤ 4611686018427387904) : IntKind.i64.wrap ((k : Int) + 1) = ((k + 1 : Nat) : Int) := by rw [wr _ (by omega)]; omega
theorem wN2 (k : Nat) (h : k ≤ 4611686018427387904) : IntKind.i64.wrap ((k : Int) + 2) = ((k + 2 : Nat) : Int) := by rw [wr _ (by omega)]; omega
theorem wNm (k : Nat) (h : 0 < k ∧ k ≤ 4611686018427387904) : IntKind.i64.wrap ((k : Int) - 1) = ((k - 1 : Nat) : Int) := by rw [wr _ (by omega)]; omega

theorem letter_eq (c : UInt8) : lex_Letter c = some (isLet c) := by
  unfold lex_Letter isLet
  simp only [lex_Letter_j1, leI, eqI, decide_eq_true_eq]
  repeat' split
  all_goals (simp only [Option.some.injEq]; rw [Bool.eq_iff_iff]; simp; try omega)
theorem digit_eq (c : UInt8) : lex_Digit c = some (isDig c) := by
  unfold lex_Digit isDig
  simp only [lex_Digit_j1, leI, decide_eq_true_eq]
  repeat' split
  all_goals (simp only [Option.some.injEq]; rw [Bool.eq_iff_iff]; simp; try omega)
theorem wd_eq (c : UInt8) : lex_lexer_one_1 c = some (isWd c) := by
  unfold lex_lexer_one_1 isWd
  simp only [letter_eq, digit_eq, Option.bind_some, lex_lexer_one_1_j1]
  by_cases h : isLet c = true <;> simp [h]

/-! Loops. -/
theorem while_loop {R : Type} {b : Int → Option (Int ⊕ R)} (u : List UInt8) (p : UInt8 → Bool) (f : Nat → R)
    (hb : ∀ k : Nat, k ≤ u.length → b (k : Int) = if k < u.length ∧ p (u.getD k 0) = true then some (.inl ((k + 1 : Nat) : Int)) else some (.inr (f k))) :
    ∀ (n k : Nat), k ≤ u.length → u.length - k ≤ n → loopO b (k : Int) = some (f (k + runN p (u.drop k)))
  | 0, k, hk, hn => by
    have : k = u.length := by omega
    subst this
    rw [loopO_eq, hb _ hk, if_neg (by simp)]
    simp [runN]
  | n + 1, k, hk, hn => by
    rw [loopO_eq, hb k hk]
    by_cases h : k < u.length
    · rw [drop_cons u k h]
      by_cases hp : p (u.getD k 0) = true
      · rw [if_pos ⟨h, hp⟩]
        simp only
        rw [while_loop u p f hb n (k + 1) (by omega) (by omega)]
        simp only [runN, List.takeWhile_cons, hp, if_true, List.length_cons]
        congr 2; omega
      · rw [if_neg (fun h => hp h.2)]
        simp only [runN, List.takeWhile_cons, hp, if_false, List.length_nil, Nat.add_zero, Bool.false_eq_true]
    · rw [if_neg (fun h' => h h'.1), List.drop_of_length_le (by omega)]
      simp [runN]

theorem find_loop {A R : Type} [Inhabited A] {b : Int × Int → Option ((Int × Int) ⊕ R)} (l : List A) (p : A → Bool) (f : A → R) (d : R)
    (hb : ∀ j : Nat, j ≤ l.length → b ((l.length : Int), (j : Int)) = if j < l.length then (if p (l.getD j default) = true then some (.inr (f (l.getD j default))) else some (.inl ((l.length : Int), ((j + 1 : Nat) : Int)))) else some (.inr d)) :
    ∀ (n j : Nat), j ≤ l.length → l.length - j ≤ n → loopO b ((l.length : Int), (j : Int)) = some (((l.drop j).find? p).elim d f)
  | 0, j, hj, hn => by
    have : j = l.length := by omega
    subst this
    rw [loopO_eq, hb _ hj, if_neg (by simp)]
    simp
  | n + 1, j, hj, hn => by
    rw [loopO_eq, hb j hj]
    by_cases h : j < l.length
    · have e : l.drop j = l.getD j default :: l.drop (j + 1) := by rw [List.drop_eq_getElem_cons h]; simp [List.getD_eq_getElem?_getD, List.getElem?_eq_getElem h]
      rw [if_pos h, e, List.find?_cons]
      by_cases hp : p (l.getD j default) = true
      · rw [if_pos hp, hp]; rfl
      · rw [if_neg hp]
        simp only
        rw [find_loop l p f d hb n (j + 1) (by omega) (by omega)]
        have hp : p (l.getD j default) = false := by simpa using hp
        rw [hp]
    · rw [if_neg h, List.drop_of_length_le (by omega)]
      rfl

section
variable (x : Spliced) (txt : List UInt8) (file : Int) (out : List Token)
abbrev lx (i : Nat) : lex_lexer := ⟨x, txt, file, (i : Int), out⟩

theorem while81_eq (a : Int) (hx : x.Text.length ≤ 1099511627776) (k : Nat) (hk : k ≤ x.Text.length) : lex_lexer_while_81 ⟨x, txt, file, a, out⟩ (k : Int) = some ((k + runN isWd (x.Text.drop k) : Nat) : Int) := by
  unfold lex_lexer_while_81
  refine while_loop x.Text isWd (fun k => ((k : Nat) : Int)) (fun k hk => ?_) _ k hk (Nat.le_refl _)
  simp only [lex_lexer_while_81_b1, lex_lexer_while_81_j2, ltI, decide_eq_true_eq, Int.toNat_natCast, wd_eq, Option.bind_some, inrO]
  by_cases h : k < x.Text.length
  · rw [if_pos (by omega), if_pos (by omega), wN1 k (by omega)]
    by_cases hp : isWd (x.Text.getD k 0) = true <;> simp [h, hp]
  · rw [if_neg (by omega)]; simp [h]
theorem while80_eq (a : Int) (hx : x.Text.length ≤ 1099511627776) (k : Nat) (hk : k ≤ x.Text.length) : lex_lexer_while_80 ⟨x, txt, file, a, out⟩ (k : Int) = some ((k + lineL (x.Text.drop k) : Nat) : Int) := by
  unfold lex_lexer_while_80
  refine while_loop x.Text (fun c => decide (c ≠ 10)) (fun k => ((k : Nat) : Int)) (fun k hk => ?_) _ k hk (Nat.le_refl _)
  simp only [lex_lexer_while_80_b1, lex_lexer_while_80_j2, lex_lexer_blank_1, ltI, decide_eq_true_eq, Int.toNat_natCast, Option.bind_some, inrO, chr _ 10 10 rfl]
  by_cases h : k < x.Text.length
  · rw [if_pos (by omega), if_pos (by omega), wN1 k (by omega)]
    generalize x.Text.getD k 0 = c
    by_cases hp : c = 10
    · rw [hp]; simp
    · simp [hp, h]
  · rw [if_neg (by omega)]; simp [h]
theorem while109_eq (a : Int) (hx : x.Text.length ≤ 1099511627776) (k : Nat) (hk : k ≤ x.Text.length) : lex_lexer_while_109 ⟨x, txt, file, a, out⟩ (k : Int) = some ((k + runN (fun c => decide (c ≠ 62) && decide (c ≠ 10)) (x.Text.drop k) : Nat) : Int) := by
  unfold lex_lexer_while_109
  refine while_loop x.Text (fun c => decide (c ≠ 62) && decide (c ≠ 10)) (fun k => ((k : Nat) : Int)) (fun k hk => ?_) _ k hk (Nat.le_refl _)
  simp only [lex_lexer_while_109_b1, lex_lexer_while_109_j2, lex_lexer_path_1, lex_lexer_path_1_j1, ltI, decide_eq_true_eq, Int.toNat_natCast, inrO, chr _ 10 10 rfl, chr _ 62 62 rfl]
  by_cases h : k < x.Text.length
  · rw [if_pos (by omega), if_pos (by omega), wN1 k (by omega)]
    generalize x.Text.getD k 0 = c
    by_cases hp : c = 10
    · rw [hp]; simp
    · by_cases hq : c = 62
      · rw [hq]; simp
      · simp [hp, hq, h]
  · rw [if_neg (by omega)]; simp [h]

/-- A place, or none. -/
def optI (k : Nat) : Option Nat → Int
  | none => -1
  | some m => ((k + m : Nat) : Int)

def prevC (u : List UInt8) (i k : Nat) : UInt8 := if i < k then u.getD (k - 1) 0 else 0
theorem num_loop {R : Type} {b : Int → Option (Int ⊕ R)} (u : List UInt8) (i : Nat) (f : Nat → R)
    (hb : ∀ k : Nat, i ≤ k → k ≤ u.length → b (k : Int) = if k < u.length ∧ inNum (prevC u i k) (u.getD k 0) = true then some (.inl ((k + 1 : Nat) : Int)) else some (.inr (f k))) :
    ∀ (n k : Nat), i ≤ k → k ≤ u.length → u.length - k ≤ n → loopO b (k : Int) = some (f (k + numN (prevC u i k) (u.drop k)))
  | 0, k, hi, hk, hn => by
    have : k = u.length := by omega
    subst this
    rw [loopO_eq, hb _ hi hk, if_neg (by simp)]
    simp [numN]
  | n + 1, k, hi, hk, hn => by
    rw [loopO_eq, hb k hi hk]
    by_cases h : k < u.length
    · rw [drop_cons u k h]
      by_cases hp : inNum (prevC u i k) (u.getD k 0) = true
      · rw [if_pos ⟨h, hp⟩]
        simp only
        rw [num_loop u i f hb n (k + 1) (by omega) (by omega) (by omega)]
        have e : prevC u i (k + 1) = u.getD k 0 := by unfold prevC; rw [if_pos (by omega)]; rfl
        simp only [numN, hp, if_true, e]
        congr 2; omega
      · rw [if_neg (fun h => hp h.2)]
        simp only [numN, hp, if_false, Nat.add_zero, Bool.false_eq_true]
    · rw [if_neg (fun h' => h h'.1), List.drop_of_length_le (by omega)]
      simp [numN]

theorem number_eq (hx : x.Text.length ≤ 1099511627776) (i : Nat) (hi : i ≤ x.Text.length) : lex_lexer_number (lx x txt file out i) = some ((i + numN 0 (x.Text.drop i) : Nat) : Int) := by
  unfold lex_lexer_number
  have := num_loop (b := lex_lexer_number_b1 (lx x txt file out i)) x.Text i (fun k => ((k : Nat) : Int)) (fun k hik hk => ?_) _ i (Nat.le_refl _) hi (Nat.le_refl _)
  · rw [this]; simp [prevC]
  · simp only [lex_lexer_number_b1, lex_lexer_number_j2, lex_lexer_number_j3, lex_lexer_number_j4, ltI, decide_eq_true_eq, Int.toNat_natCast, inrO, letter_eq, digit_eq, Option.bind_some, chr _ 43 43 rfl, chr _ 45 45 rfl, chr _ 46 46 rfl]
    by_cases h : k < x.Text.length
    · rw [if_pos (by omega), if_pos (by omega), wN1 k (by omega)]
      have hk1 : i < k → (0 : Int) ≤ ((k - 1 : Nat) : Int) ∧ k - 1 < x.Text.length := fun _ => by omega
      unfold prevC
      generalize x.Text.getD k 0 = c
      by_cases hik2 : i < k
      · simp only [wNm k (by omega), Int.toNat_natCast, chr _ 101 101 rfl, chr _ 69 69 rfl, decide_eq_true_eq]
        rw [if_pos (show (i : Int) < (k : Int) by omega), if_pos (hk1 hik2), if_pos (hk1 hik2), if_pos hik2]
        unfold inNum isWd
        generalize x.Text.getD (k - 1) 0 = pr
        generalize isLet c = e
        generalize isDig c = g
        generalize hd : decide (c = 46) = d
        by_cases h43 : c = 43
        · have : d = false := by rw [← hd, h43]; rfl
          subst this
          by_cases h101 : pr = 101 <;> by_cases h69 : pr = 69 <;> cases e <;> cases g <;> simp [h, h43, h101, h69]
        · by_cases h45 : c = 45
          · have : d = false := by rw [← hd, h45]; rfl
            subst this
            by_cases h101 : pr = 101 <;> by_cases h69 : pr = 69 <;> cases e <;> cases g <;> simp [h, h43, h45, h101, h69]
          · clear hd
            cases d <;> cases e <;> cases g <;> simp [h, h43, h45]
      · rw [if_neg (show ¬ (i : Int) < (k : Int) by omega), if_neg hik2]
        unfold inNum isWd
        generalize isLet c = e
        generalize isDig c = g
        generalize hd : decide (c = 46) = d
        by_cases h43 : c = 43
        · have : d = false := by rw [← hd, h43]; rfl
          subst this
          cases e <;> cases g <;> simp [h, h43]
        · by_cases h45 : c = 45
          · have : d = false := by rw [← hd, h45]; rfl
            subst this
            cases e <;> cases g <;> simp [h, h43, h45]
          · clear hd
            cases d <;> cases e <;> cases g <;> simp [h, h43, h45]
    · rw [if_neg (by omega)]; simp [h]
end
end Go.Proofs.Ytgkacglpjmndbaa
