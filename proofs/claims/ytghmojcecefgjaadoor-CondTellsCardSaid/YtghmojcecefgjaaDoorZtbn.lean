/- The document's Num and Char are the program's. Plain. -/
import Derived.Test.YtghmojcecefgjaaDoorZtat
import Derived.Test.YtghmojcecefgjaaDoorZtbm
set_option linter.unusedVariables false
set_option linter.unusedSimpArgs false
namespace Go.Proofs.YtghmojcecefgjaaDoor
open Go.RowKit
theorem rchar_none (s : List UInt8) (h3 : s.length ≠ 3) (h4 : s.length ≠ 4) : preref4_Char s = some (0, false) := by
  unfold preref4_Char
  rw [ei_f (show ¬ (s.length : Int) = 3 by omega), if_neg (by decide), preref4_Char_j1, if_neg (by decide), ei_f (show ¬ (s.length : Int) = 4 by omega), if_neg (by decide), preref4_Char_j3, if_neg (by decide)]
  rfl
theorem wu (c : UInt8) : IntKind.i64.wrap (c.toNat : Int) = (c.toNat : Int) := wr _ (by have := c.toNat_lt; omega)
theorem rchar_eq (s : List UInt8) : preref4_Char s = some (charF s) := by
  match s with
  | [] => exact rchar_none _ (by simp) (by simp)
  | [_] => exact rchar_none _ (by simp) (by simp)
  | [_, _] => exact rchar_none _ (by simp) (by simp)
  | _ :: _ :: _ :: _ :: _ :: _ => exact rchar_none _ (by simp) (by simp)
  | [a, b, c] =>
    have e3 : eqI (([a, b, c] : List UInt8).length : Int) 3 = true := rfl
    have e4 : eqI (([a, b, c] : List UInt8).length : Int) 4 = false := rfl
    have h1 : 1 < ([a, b, c] : List UInt8).length := by simp
    have g1 : ([a, b, c] : List UInt8).getD 1 0 = b := rfl
    have jf : preref4_Char_j1 [a, b, c] false = some (0, false) := by
      rw [preref4_Char_j1, if_neg (by decide), e4, if_neg (by decide), preref4_Char_j3, if_neg (by decide)]; rfl
    unfold preref4_Char
    show _ = some (if b = 92 then ((0 : Int), false) else if b = 39 then (0, false) else ((b.toNat : Int), true))
    rw [e3, if_pos rfl, if_pos h1, g1, c92', c39]
    by_cases q1 : b = 92
    · rw [decide_eq_true q1, if_neg (by decide), if_pos q1, jf]
    rw [decide_eq_false q1, if_pos (by decide), if_pos h1, if_neg q1]
    by_cases q2 : b = 39
    · rw [decide_eq_true q2, if_pos q2]; exact jf
    rw [decide_eq_false q2, if_neg q2]
    show preref4_Char_j1 [a, b, c] true = _
    rw [preref4_Char_j1, if_pos rfl, if_pos h1, g1, wu]
  | [a, b, c, d] =>
    have e3 : eqI (([a, b, c, d] : List UInt8).length : Int) 3 = false := rfl
    have e4 : eqI (([a, b, c, d] : List UInt8).length : Int) 4 = true := rfl
    have h1 : 1 < ([a, b, c, d] : List UInt8).length := by simp
    have h2 : 2 < ([a, b, c, d] : List UInt8).length := by simp
    have g1 : ([a, b, c, d] : List UInt8).getD 1 0 = b := rfl
    have g2 : ([a, b, c, d] : List UInt8).getD 2 0 = c := rfl
    unfold preref4_Char
    show _ = some (if b = 92 then esc c else (0, false))
    rw [e3, if_neg (by decide), preref4_Char_j1, if_neg (by decide), e4, if_pos rfl, if_pos h1, g1, c92']
    by_cases q1 : b = 92
    · rw [decide_eq_true q1, if_pos q1, preref4_Char_j3, if_pos rfl, if_pos h2, g2]
      have j4 : preref4_Char_j4 [a, b, c, d] true = some ((c.toNat : Int), true) := by
        rw [preref4_Char_j4, if_pos rfl, if_pos h2, g2, wu]
      rw [c110, c116, c48, c92', c39, c34]
      unfold esc
      by_cases k1 : c = 110
      · rw [decide_eq_true k1, if_pos rfl, if_pos k1]
      rw [decide_eq_false k1, if_neg (by decide), if_neg k1]
      by_cases k2 : c = 116
      · rw [decide_eq_true k2, if_pos rfl, if_pos k2]
      rw [decide_eq_false k2, if_neg (by decide), if_neg k2]
      by_cases k3 : c = 48
      · rw [decide_eq_true k3, if_pos rfl, if_pos k3]
      rw [decide_eq_false k3, if_neg (by decide), if_neg k3]
      by_cases k4 : c = 92
      · rw [decide_eq_true k4, if_pos rfl, if_pos k4, j4, k4]; rfl
      rw [decide_eq_false k4, if_neg (by decide), if_neg k4]
      by_cases k5 : c = 39
      · rw [decide_eq_true k5, if_pos rfl, if_pos k5, j4, k5]; rfl
      rw [decide_eq_false k5, if_neg (by decide), if_neg k5]
      by_cases k6 : c = 34
      · rw [decide_eq_true k6, if_pos k6, j4, k6]; rfl
      rw [decide_eq_false k6, if_neg k6]; rfl
    · rw [decide_eq_false q1, if_neg q1, preref4_Char_j3, if_neg (by decide)]; rfl
where
  c39 (c : UInt8) : eqI (c.toNat : Int) 39 = decide (c = 39) := c8 c 39 (by decide)
  c110 (c : UInt8) : eqI (c.toNat : Int) 110 = decide (c = 110) := c8 c 110 (by decide)
  c116 (c : UInt8) : eqI (c.toNat : Int) 116 = decide (c = 116) := c8 c 116 (by decide)
  c34 (c : UInt8) : eqI (c.toNat : Int) 34 = decide (c = 34) := c8 c 34 (by decide)
def dR (c : Nat) : Nat := if 48 ≤ c ∧ c ≤ 57 then c - 48 else if 97 ≤ c ∧ c ≤ 102 then c - 87 else if 65 ≤ c ∧ c ≤ 70 then c - 55 else 99
theorem dR_dig (c B : Nat) (hc : c < 256) (hB : B ≤ 16) : (dR c < B ↔ digB c < B) ∧ (dR c < B → dR c = digB c) := by
  have key : ∀ c : Fin 256, (dR c.val < 16 → dR c.val = digB c.val) ∧ (¬ dR c.val < 16 → ¬ digB c.val < 16) := by decide +kernel
  obtain ⟨k1, k2⟩ := key ⟨c, hc⟩
  have k1 : dR c < 16 → dR c = digB c := k1
  have k2 : ¬ dR c < 16 → ¬ digB c < 16 := k2
  constructor
  · constructor
    · intro h; rw [← k1 (by omega)]; exact h
    · intro h
      by_cases q : dR c < 16
      · rw [k1 q]; exact h
      · exact absurd (k2 q) (by omega)
  · intro h; exact k1 (by omega)
theorem parse_big (B : Nat) (hB : 1 ≤ B) : ∀ (l : List UInt8) (acc n : Nat), 9223372036854775808 ≤ acc → parseB B acc l = .ok n → 9223372036854775808 ≤ n
  | [], acc, n, h, g => by
    simp only [parseB, NE.ok.injEq] at g
    omega
  | c :: r, acc, n, h, g => by
    rw [parseB] at g
    split at g
    · split at g
      · cases g
      · refine parse_big B hB r _ n ?_ g
        have : acc * 1 ≤ acc * B := Nat.mul_le_mul_left acc hB
        omega
    · cases g
def finR (p : Bool) : NE → Int × Bool
  | .ok n => if n < 9223372036854775808 then ((n : Int), p) else (0, false)
  | _ => (0, false)
theorem rnum_j4 (B : Nat) (hB : B = 8 ∨ B = 10 ∨ B = 16) (acc len k d : Nat) (ha : acc < 9223372036854775808) (hd : d ≤ 99) (hk : k < 4611686018427387904) :
    preref4_Num_j4 (B : Int) (acc : Int) (len : Int) (k : Int) (d : Int) = if d < B then (if acc * B + d < 9223372036854775808 then some (.inl (((acc * B + d : Nat) : Int), (len : Int), ((k + 1 : Nat) : Int))) else some (.inr (0, false))) else some (.inr (0, false)) := by
  have jt : ∀ x, preref4_Num_j5 (B : Int) (acc : Int) (len : Int) (k : Int) x true = some (.inr (0, false)) := fun x => rfl
  rw [preref4_Num_j4]
  by_cases h1 : d < B
  · rw [show leI (B : Int) (d : Int) = false from decide_eq_false (by omega), if_neg (by decide), if_pos (show (B : Int) ≠ 0 by omega), if_pos h1]
    have e1 : IntKind.i64.wrap (9223372036854775807 - (d : Int)) = 9223372036854775807 - (d : Int) := wr _ (by omega)
    rw [e1]
    have e2 : Int.tdiv (9223372036854775807 - (d : Int)) (B : Int) = (((9223372036854775807 - d) / B : Nat) : Int) := by
      rw [show (9223372036854775807 : Int) - (d : Int) = ((9223372036854775807 - d : Nat) : Int) by omega]
      exact (Int.ofNat_tdiv _ _).symm
    rw [e2, wr _ (by rcases hB with rfl | rfl | rfl <;> omega)]
    by_cases h2 : acc * B + d < 9223372036854775808
    · rw [li_f (by rcases hB with rfl | rfl | rfl <;> omega), if_pos h2]
      rw [preref4_Num_j5, if_neg (by decide), wr ((B : Int) * (acc : Int)) (by rcases hB with rfl | rfl | rfl <;> omega), wr _ (by rcases hB with rfl | rfl | rfl <;> omega), w1 k hk]
      congr 3
      rw [Int.mul_comm]
      push_cast
      rfl
    · rw [li_t (by rcases hB with rfl | rfl | rfl <;> omega), jt, if_neg h2]
  · rw [show leI (B : Int) (d : Int) = true from decide_eq_true (by omega), if_pos rfl, jt, if_neg h1]
theorem rnum_dig (c : UInt8) (x3 x4 x5 x6 : Int) :
    (if (leI 48 (c.toNat : Int)) = true then preref4_Num_j6 x3 x4 x5 x6 (c, leI (c.toNat : Int) 57) else preref4_Num_j6 x3 x4 x5 x6 (c, false)) = preref4_Num_j4 x3 x4 x5 x6 ((dR c.toNat : Nat) : Int) := by
  have hc := c.toNat_lt
  have lt : ∀ a b : Int, a ≤ b → leI a b = true := fun a b h => decide_eq_true h
  have lf : ∀ a b : Int, ¬ a ≤ b → leI a b = false := fun a b h => decide_eq_false h
  have u8 : ∀ k : Nat, k ≤ c.toNat → IntKind.u8.wrap ((c.toNat : Int) - (k : Int)) = ((c.toNat - k : Nat) : Int) := fun k hk => by
    rw [IntKind.wrap_u8]; omega
  have j99 : preref4_Num_j8 x3 x4 x5 x6 (c, false) = preref4_Num_j4 x3 x4 x5 x6 99 := rfl
  have j6f : preref4_Num_j6 x3 x4 x5 x6 (c, false) = if 97 ≤ c.toNat ∧ c.toNat ≤ 102 then preref4_Num_j4 x3 x4 x5 x6 ((c.toNat - 87 : Nat) : Int) else if 65 ≤ c.toNat ∧ c.toNat ≤ 70 then preref4_Num_j4 x3 x4 x5 x6 ((c.toNat - 55 : Nat) : Int) else preref4_Num_j4 x3 x4 x5 x6 99 := by
    have j7f : preref4_Num_j7 x3 x4 x5 x6 (c, false) = if 65 ≤ c.toNat ∧ c.toNat ≤ 70 then preref4_Num_j4 x3 x4 x5 x6 ((c.toNat - 55 : Nat) : Int) else preref4_Num_j4 x3 x4 x5 x6 99 := by
      rw [preref4_Num_j7, if_neg (by simp)]
      by_cases h1 : 65 ≤ c.toNat
      · rw [lt 65 _ (by omega), if_pos rfl]
        by_cases h2 : c.toNat ≤ 70
        · rw [lt _ 70 (by omega), if_pos ⟨h1, h2⟩, preref4_Num_j8, if_pos rfl, show (65 : Int) = ((65 : Nat) : Int) from rfl, u8 65 h1, wr ((c.toNat - 65 : Nat) : Int) (by omega), wr _ (by omega)]
          congr 1; omega
        · rw [lf _ 70 (by omega), if_neg (fun q => h2 q.2), j99]
      · rw [lf 65 _ (by omega), if_neg (by decide), if_neg (fun q => h1 q.1), j99]
    rw [preref4_Num_j6, if_neg (by simp)]
    by_cases h1 : 97 ≤ c.toNat
    · rw [lt 97 _ (by omega), if_pos rfl]
      by_cases h2 : c.toNat ≤ 102
      · rw [lt _ 102 (by omega), if_pos ⟨h1, h2⟩, preref4_Num_j7, if_pos rfl, show (97 : Int) = ((97 : Nat) : Int) from rfl, u8 97 h1, wr ((c.toNat - 97 : Nat) : Int) (by omega), wr _ (by omega)]
        congr 1; omega
      · rw [lf _ 102 (by omega), if_neg (fun q => h2 q.2), j7f]
    · rw [lf 97 _ (by omega), if_neg (by decide), if_neg (fun q => h1 q.1), j7f]
  have tail : ¬ (48 ≤ c.toNat ∧ c.toNat ≤ 57) → preref4_Num_j6 x3 x4 x5 x6 (c, false) = preref4_Num_j4 x3 x4 x5 x6 ((dR c.toNat : Nat) : Int) := by
    intro h
    rw [j6f]
    have e : dR c.toNat = if 97 ≤ c.toNat ∧ c.toNat ≤ 102 then c.toNat - 87 else if 65 ≤ c.toNat ∧ c.toNat ≤ 70 then c.toNat - 55 else 99 := by
      unfold dR
      rw [if_neg h]
    rw [e]
    by_cases q1 : 97 ≤ c.toNat ∧ c.toNat ≤ 102
    · rw [if_pos q1, if_pos q1]
    rw [if_neg q1, if_neg q1]
    by_cases q2 : 65 ≤ c.toNat ∧ c.toNat ≤ 70
    · rw [if_pos q2, if_pos q2]
    rw [if_neg q2, if_neg q2]; rfl
  by_cases h1 : 48 ≤ c.toNat
  · rw [lt 48 _ (by omega), if_pos rfl]
    by_cases h2 : c.toNat ≤ 57
    · rw [lt _ 57 (by omega), preref4_Num_j6, if_pos rfl, show (48 : Int) = ((48 : Nat) : Int) from rfl, u8 48 h1, wr _ (by omega)]
      unfold dR
      rw [if_pos ⟨h1, h2⟩]
    · rw [lf _ 57 (by omega), tail (fun q => h2 q.2)]
  · rw [lf 48 _ (by omega), if_neg (by decide), tail (fun q => h1 q.1)]
theorem rnum_loop (u : List UInt8) (hu : u.length ≤ 281474976710656) (B : Nat) (hB : B = 8 ∨ B = 10 ∨ B = 16) : ∀ (n k acc : Nat), k ≤ u.length → u.length - k ≤ n → acc < 9223372036854775808 →
    loopO (preref4_Num_b3 u (B : Int)) ((acc : Int), (u.length : Int), (k : Int)) = some (finR (ltI 0 (u.length : Int)) (parseB B acc (u.drop k))) := by
  intro n
  induction n with
  | zero =>
    intro k acc h1 h2 h3
    have : k = u.length := by omega
    subst this
    rw [loopO_eq, preref4_Num_b3, li_f (show ¬ (u.length : Int) < (u.length : Int) by omega), if_neg (by decide), List.drop_length, parseB]
    show _ = some (if acc < 9223372036854775808 then ((acc : Int), ltI 0 (u.length : Int)) else (0, false))
    rw [if_pos h3]; rfl
  | succ n ih =>
    intro k acc h1 h2 h3
    rcases Nat.lt_or_ge k u.length with hlt | hge
    · have hdr : u.drop k = u.getD k 0 :: u.drop (k + 1) := drop_cons u k hlt
      have hg : u.getD k default = u.getD k 0 := rfl
      rw [loopO_eq, preref4_Num_b3, li_t (show (k : Int) < (u.length : Int) by omega), if_pos rfl, Int.toNat_natCast, if_pos (show (0 : Int) ≤ (k : Int) ∧ k < u.length by omega), rnum_dig, hdr, hg, parseB]
      have hd99 : dR (u.getD k 0).toNat ≤ 99 := by
        unfold dR
        repeat' split
        all_goals omega
      rw [rnum_j4 B hB acc u.length k _ h3 hd99 (by omega)]
      obtain ⟨q1, q2⟩ := dR_dig (u.getD k 0).toNat B (u.getD k 0).toNat_lt (by omega)
      by_cases hd : dR (u.getD k 0).toNat < B
      · rw [if_pos hd, if_pos (q1.1 hd), q2 hd]
        by_cases hs : acc * B + digB (u.getD k 0).toNat < 9223372036854775808
        · rw [if_pos hs, if_neg (by omega)]
          exact ih (k + 1) _ (by omega) (by omega) hs
        · rw [if_neg hs]
          show some ((0 : Int), false) = _
          by_cases hr : 18446744073709551616 ≤ acc * B + digB (u.getD k 0).toNat
          · rw [if_pos hr]; rfl
          · rw [if_neg hr]
            cases hp : parseB B (acc * B + digB (u.getD k 0).toNat) (u.drop (k + 1)) with
            | ok m =>
              have := parse_big B (by omega) _ _ m (by omega) hp
              show _ = some (if m < 9223372036854775808 then _ else _)
              rw [if_neg (by omega)]
            | bad => rfl
            | range => rfl
      · rw [if_neg hd, if_neg (fun z => hd (q1.2 z))]
        rfl
    · have : k = u.length := by omega
      subst this
      rw [loopO_eq, preref4_Num_b3, li_f (show ¬ (u.length : Int) < (u.length : Int) by omega), if_neg (by decide), List.drop_length, parseB]
      show _ = some (if acc < 9223372036854775808 then ((acc : Int), ltI 0 (u.length : Int)) else (0, false))
      rw [if_pos h3]; rfl
end Go.Proofs.YtghmojcecefgjaaDoor
