/- lex: the document's tokens are toksV too. Plain. -/
import Derived.Test.YtgkacglpjmndbaaLf
namespace Go.Proofs.Ytgkacglpjmndbaa
open Go.RowKit

theorem rnumber_eq (u : List UInt8) (hu : u.length ≤ 1099511627776) : preref1_Number u = some (u.take (numN 0 u)) := by
  unfold preref1_Number
  have := num_loop (b := preref1_Number_b2 u) u 0 (fun k => u.take k) (fun k _ hk => ?_) _ 0 (Nat.le_refl _) (Nat.zero_le _) (Nat.le_refl _)
  · rw [show (0 : Int) = ((0 : Nat) : Int) from rfl, this]; simp [prevC]
  · have hj1 : preref1_Number_j1 u (k : Int) = some (u.take k) := by
      simp only [preref1_Number_j1, Int.toNat_natCast]
      rw [if_pos (by omega)]
    simp only [preref1_Number_b2, preref1_Number_j3, preref1_Number_j4, ltI, decide_eq_true_eq, Int.toNat_natCast, inrO, rletter_eq, rdigit_eq, Option.bind_some, chr _ 43 43 rfl, chr _ 45 45 rfl, chr _ 46 46 rfl, hj1]
    by_cases h : k < u.length
    · rw [if_pos (by omega), if_pos (by omega), wN1 k (by omega)]
      have hk1 : 0 < k → (0 : Int) ≤ ((k - 1 : Nat) : Int) ∧ k - 1 < u.length := fun _ => by omega
      unfold prevC
      generalize u.getD k 0 = c
      by_cases hik2 : 0 < k
      · simp only [wNm k (by omega), Int.toNat_natCast, chr _ 101 101 rfl, chr _ 69 69 rfl, decide_eq_true_eq]
        rw [if_pos (show (0 : Int) < (k : Int) by omega), if_pos (hk1 hik2), if_pos (hk1 hik2), if_pos hik2]
        unfold inNum isWd
        generalize u.getD (k - 1) 0 = pr
        generalize isLet c = e
        generalize isDig c = g
        generalize hd : decide (c = 46) = d
        by_cases h43 : c = 43
        · have : d = false := by rw [← hd, h43]; rfl
          subst this
          by_cases h101 : pr = 101 <;> by_cases h69 : pr = 69 <;> cases e <;> cases g <;> simp [h, h43, h101, h69]
        · by_cases h45 : c = 45
          · have : d = false := by rw [← hd, h45]; rfl
            subst this
            by_cases h101 : pr = 101 <;> by_cases h69 : pr = 69 <;> cases e <;> cases g <;> simp [h, h43, h45, h101, h69]
          · clear hd
            cases d <;> cases e <;> cases g <;> simp [h, h43, h45]
      · rw [if_neg (show ¬ (0 : Int) < (k : Int) by omega), if_neg hik2]
        unfold inNum isWd
        generalize isLet c = e
        generalize isDig c = g
        generalize hd : decide (c = 46) = d
        by_cases h43 : c = 43
        · have : d = false := by rw [← hd, h43]; rfl
          subst this
          cases e <;> cases g <;> simp [h, h43]
        · by_cases h45 : c = 45
          · have : d = false := by rw [← hd, h45]; rfl
            subst this
            cases e <;> cases g <;> simp [h, h43, h45]
          · clear hd
            cases d <;> cases e <;> cases g <;> simp [h, h43, h45]
    · rw [if_neg (by omega)]; simp [h]

/-- A text's first letters; none: nothing. -/
def takeO (u : List UInt8) : Option Nat → List UInt8
  | none => []
  | some m => u.take m

theorem quo_loop' {R : Type} {b : Int → Option (Int ⊕ R)} (u : List UInt8) (q : UInt8) (f : Option Nat → R)
    (hb : ∀ k : Nat, k ≤ u.length → b (k : Int) = if k < u.length ∧ u.getD k 0 ≠ 10 then (if u.getD k 0 = q then some (.inr (f (some (k + 1)))) else if u.getD k 0 = 92 ∧ k + 1 < u.length ∧ u.getD (k + 1) 0 ≠ 10 then some (.inl ((k + 2 : Nat) : Int)) else some (.inl ((k + 1 : Nat) : Int))) else some (.inr (f none))) (k : Nat) (hk : k ≤ u.length) :
    loopO b (k : Int) = some (f ((quoN q (u.drop k)).map (k + ·))) := by
  have key : ∀ (n k : Nat), k ≤ u.length → u.length - k ≤ n → loopO b (k : Int) = loopO (fun s : UInt8 × Int => (b s.2).map fun o => match o with | .inl s' => Sum.inl (s.1, s') | .inr r => Sum.inr r) (q, (k : Int)) := fun n => by
    induction n with
    | zero =>
      intro k hk hn
      rw [loopO_step, loopO_step (b := fun s : UInt8 × Int => _)]
      have : k = u.length := by omega
      subst this
      simp only [hb _ hk]
      rw [if_neg (by simp)]
      rfl
    | succ n ih =>
      intro k hk hn
      rw [loopO_step, loopO_step (b := fun s : UInt8 × Int => _)]
      simp only [hb _ hk]
      split
      · split
        · rfl
        · split
          · rename_i h1 h2 h3
            simp only [Option.map_some, stepO]
            exact ih (k + 2) (by omega) (by omega)
          · simp only [Option.map_some, stepO]
            exact ih (k + 1) (by omega) (by omega)
      · rfl
  rw [key _ k hk (Nat.le_refl _)]
  refine quo_loop u q f (fun k hk => ?_) _ k hk (Nat.le_refl _)
  simp only [hb k hk]
  split
  · split
    · rfl
    · split <;> rfl
  · rfl

theorem rquoted_eq (c : UInt8) (r : List UInt8) (hu : r.length ≤ 1099511627775) : preref1_Quoted (c :: r) = some (takeO (c :: r) ((quoN c r).map (· + 1))) := by
  unfold preref1_Quoted
  have hl : (c :: r).length = r.length + 1 := rfl
  have := quo_loop' (b := preref1_Quoted_b1 (c :: r)) (c :: r) c (takeO (c :: r)) (fun k hk => ?_) 1 (by omega)
  · rw [show (1 : Int) = ((1 : Nat) : Int) from rfl, this]
    simp only [List.drop_succ_cons, List.drop_zero]
    cases quoN c r with
    | none => rfl
    | some a => simp only [Option.map_some]; rw [Nat.add_comm]
  · have h0 : (c :: r).getD 0 0 = c := rfl
    generalize c :: r = u at *
    simp only [preref1_Quoted_b1, preref1_Quoted_j2, preref1_Quoted_j3, ltI, decide_eq_true_eq, Int.toNat_natCast, inrO, chr _ 10 10 rfl, chr _ 92 92 rfl, h0, chr2]
    by_cases h : k < u.length
    · rw [if_pos (show (k : Int) < u.length by omega), if_pos (show (0 : Int) ≤ k ∧ k < u.length by omega), if_pos (show (0 : Int) ≤ k ∧ k < u.length by omega), if_pos (show 0 < u.length by omega), if_pos (show (0 : Int) ≤ k ∧ k < u.length by omega)]
      simp only [wN1 k (by omega), Int.toNat_natCast]
      rw [if_pos (show (0 : Int) ≤ 0 ∧ (0 : Int) ≤ ((k + 1 : Nat) : Int) ∧ ((k + 1 : Nat) : Int) ≤ u.length by omega)]
      generalize u.getD k 0 = d
      by_cases h10 : d = 10
      · simp [h10, takeO]
      · rw [if_neg h10, if_pos (show k < u.length ∧ d ≠ 10 from ⟨h, h10⟩)]
        by_cases hq : d = c
        · rw [if_pos hq, if_pos hq]; rfl
        · rw [if_neg hq, if_neg hq]
          by_cases h92 : d = 92
          · rw [if_pos h92]
            by_cases h3 : k + 1 < u.length
            · rw [if_pos (show ((k + 1 : Nat) : Int) < u.length by omega), if_pos (show (0 : Int) ≤ ((k + 1 : Nat) : Int) ∧ k + 1 < u.length by omega)]
              generalize u.getD (k + 1) 0 = e
              by_cases he : e = 10
              · simp [h92, he]
              · rw [if_pos (show (!decide (e = 10)) = true by simp [he]), if_pos (show d = 92 ∧ k + 1 < u.length ∧ e ≠ 10 from ⟨h92, h3, he⟩), wN1 (k + 1) (by omega)]
            · rw [if_neg (show ¬ ((k + 1 : Nat) : Int) < u.length by omega), if_neg (show ¬ (d = 92 ∧ k + 1 < u.length ∧ u.getD (k + 1) 0 ≠ 10) by omega)]
              simp
          · simp [h92]
    · rw [if_neg (show ¬ (k : Int) < u.length by omega)]
      simp [h, takeO]

/-- The longest of the signs that are so many letters at most. -/
def sgn (u : List UInt8) : Nat → List UInt8
  | 0 => []
  | n + 1 => if n + 1 ≤ u.length ∧ signsL.contains (u.take (n + 1)) = true then u.take (n + 1) else sgn u n
theorem last_loop {b : (List UInt8 × Int × Int) → Option ((List UInt8 × Int × Int) ⊕ ((List UInt8 × Int) ⊕ List UInt8))} (S : List (List UInt8)) (t : List UInt8) (f : List UInt8 → ((List UInt8 × Int) ⊕ List UInt8))
    (hb : ∀ (x : List UInt8) (j : Nat), j ≤ S.length → b (x, (S.length : Int), (j : Int)) = if j < S.length then (if S.getD j default = t then some (.inl (S.getD j default, (S.length : Int), ((j + 1 : Nat) : Int))) else some (.inl (x, (S.length : Int), ((j + 1 : Nat) : Int)))) else some (.inr (f x))) :
    ∀ (n j : Nat) (x : List UInt8), j ≤ S.length → S.length - j ≤ n → loopO b (x, (S.length : Int), (j : Int)) = some (f (if (S.drop j).contains t = true then t else x))
  | n, j, x, hj, hn => by
    rw [loopO_step, hb x j hj]
    by_cases h : j < S.length
    · have e : S.drop j = S.getD j default :: S.drop (j + 1) := by rw [List.drop_eq_getElem_cons h]; simp [List.getD_eq_getElem?_getD, List.getElem?_eq_getElem h]
      rw [if_pos h, e]
      cases n with
      | zero => omega
      | succ n =>
        by_cases ht : S.getD j default = t
        · rw [if_pos ht]
          simp only [stepO]
          rw [last_loop S t f hb n (j + 1) _ (by omega) (by omega), ht]
          simp
        · rw [if_neg ht]
          simp only [stepO]
          rw [last_loop S t f hb n (j + 1) _ (by omega) (by omega)]
          have ht' : ¬ t = S.getD j default := fun e => ht e.symm
          have : (S.getD j default :: S.drop (j + 1)).contains t = (S.drop (j + 1)).contains t := by
            rw [List.contains_cons]
            have : (t == S.getD j default) = false := by simpa using ht'
            rw [this]; simp
          rw [this]
    · rw [if_neg h, List.drop_of_length_le (by omega)]
      rfl

theorem sgn_signN (u : List UInt8) : sgn u 3 = u.take (signN u) := by
  have hS : ∀ (n : Nat), n + 1 ≤ u.length → signsL.contains (u.take (n + 1)) = (if n + 1 = 3 then signs3.contains (u.take 3) else if n + 1 = 2 then signs2.contains (u.take 2) else if n + 1 = 1 then signs1.contains (u.take 1) else false) := fun n hn => by
    have hl : (u.take (n + 1)).length = n + 1 := by simp; omega
    have no : ∀ (S : List (List UInt8)) (k : Nat), (∀ s ∈ S, s.length = k) → n + 1 ≠ k → S.contains (u.take (n + 1)) = false := fun S k hS hne => by
      rw [List.contains_eq_mem, decide_eq_false_iff_not]
      intro hm
      exact hne (by rw [← hl]; exact hS _ hm)
    unfold signsL
    rw [List.contains_append, List.contains_append]
    by_cases h3 : n + 1 = 3
    · rw [no signs2 2 (by decide) (by omega), no signs1 1 (by decide) (by omega), if_pos h3, h3]; simp
    · rw [no signs3 3 (by decide) h3, if_neg h3]
      by_cases h2 : n + 1 = 2
      · rw [no signs1 1 (by decide) (by omega), if_pos h2, h2]; simp
      · rw [no signs2 2 (by decide) h2, if_neg h2]
        by_cases h1 : n + 1 = 1
        · rw [if_pos h1, h1]; simp
        · rw [no signs1 1 (by decide) h1, if_neg h1]; simp
  have len : ∀ (S : List (List UInt8)) (k : Nat), (∀ s ∈ S, s.length = k) → S.contains (u.take k) = true → k ≤ u.length := fun S k hS hc => by
    have hm : u.take k ∈ S := by simpa using hc
    have := hS _ hm
    simp at this; omega
  have key : ∀ (S : List (List UInt8)) (k : Nat), (∀ s ∈ S, s.length = k + 1) → (k + 1 ≤ u.length → signsL.contains (u.take (k + 1)) = S.contains (u.take (k + 1))) → ((k + 1 ≤ u.length ∧ signsL.contains (u.take (k + 1)) = true) ↔ S.contains (u.take (k + 1)) = true) := fun S k h1 h2 =>
    ⟨fun ⟨a, b⟩ => by rw [← h2 a]; exact b, fun h => ⟨len S _ h1 h, by rw [h2 (len S _ h1 h)]; exact h⟩⟩
  have k3 := key signs3 2 (by decide) (fun h => by rw [hS 2 h]; rfl)
  have k2 := key signs2 1 (by decide) (fun h => by rw [hS 1 h]; rfl)
  have k1 := key signs1 0 (by decide) (fun h => by rw [hS 0 h]; rfl)
  simp only [sgn]
  unfold signN
  by_cases c3 : signs3.contains (u.take 3) = true
  · rw [if_pos (k3.2 c3), if_pos c3]
  · rw [if_neg (fun h => c3 (k3.1 h)), if_neg c3]
    by_cases c2 : signs2.contains (u.take 2) = true
    · rw [if_pos (k2.2 c2), if_pos c2]
    · rw [if_neg (fun h => c2 (k2.1 h)), if_neg c2]
      by_cases c1 : signs1.contains (u.take 1) = true
      · rw [if_pos (k1.2 c1), if_pos c1]
      · rw [if_neg (fun h => c1 (k1.1 h)), if_neg c1]; rfl

theorem rsign_eq (u : List UInt8) (hu : u.length ≤ 1099511627776) : preref1_Sign u = some (u.take (signN u)) := by
  rw [← sgn_signN]
  have inner : ∀ (n : Nat) (x : List UInt8), n ≤ u.length → n ≤ 3 → loopO (preref1_Sign_b3 u (n : Int) signsL) (x, (signsL.length : Int), 0) = some (.inl (if signsL.contains (u.take n) = true then u.take n else x, ((n + 1 : Nat) : Int))) := fun n x hn h3 => by
    have := last_loop (b := preref1_Sign_b3 u (n : Int) signsL) signsL (u.take n) (fun x => .inl (x, ((n + 1 : Nat) : Int))) (fun x j hj => ?_) _ 0 x (Nat.zero_le _) (Nat.le_refl _)
    · rw [show (0 : Int) = ((0 : Nat) : Int) from rfl, this]; rfl
    · have hs48 : signsL.length = 47 + 1 := rfl
      simp only [preref1_Sign_b3, preref1_Sign_j4, ltI, eqS, decide_eq_true_eq, Int.toNat_natCast, inrO]
      by_cases h : j < signsL.length
      · rw [if_pos (by omega), if_pos (by omega), if_pos (by omega), if_pos h, wN1 j (by omega)]
      · rw [if_neg (by omega), if_neg h, wN1 n (by omega)]; rfl
  have outer : ∀ (m n : Nat), n + m = 4 → 1 ≤ n → (∀ k, n ≤ k → k ≤ 3 → True) → loopO (preref1_Sign_b1 u) (sgn u (n - 1), (n : Int)) = some (sgn u 3) := fun m => by
    induction m with
    | zero =>
      intro n hn h1 _
      have : n = 4 := by omega
      subst this
      rw [loopO_step]
      simp only [preref1_Sign_b1, preref1_Sign_j2, leI, decide_eq_true_eq]
      rw [if_neg (by omega), if_neg (by decide)]
      rfl
    | succ m ih =>
      intro n hn h1 _
      rw [loopO_step]
      simp only [preref1_Sign_b1, preref1_Sign_j2, leI, decide_eq_true_eq]
      rw [if_pos (by omega)]
      by_cases hl : n ≤ u.length
      · rw [if_pos (by omega), rsigns]
        simp only [Option.bind_some]
        rw [inner n _ hl (by omega)]
        simp only [stepO]
        have := ih (n + 1) (by omega) (by omega) (fun _ _ _ => trivial)
        obtain ⟨k, rfl⟩ : ∃ k, n = k + 1 := ⟨n - 1, by omega⟩
        rw [show k + 1 + 1 - 1 = k + 1 by omega] at this
        rw [← this]
        congr 2
        simp only [sgn, Nat.add_sub_cancel]
        by_cases hc : signsL.contains (u.take (k + 1)) = true
        · rw [if_pos hc, if_pos ⟨hl, hc⟩]
        · rw [if_neg hc, if_neg (fun h => hc h.2)]
      · rw [if_neg (by omega)]
        simp only [inrO, Option.map_some, stepO]
        have hs : ∀ k, n ≤ k + 1 → sgn u (k + 1) = sgn u k := fun k hk => by simp only [sgn]; rw [if_neg (by omega)]
        have : n = 1 ∨ n = 2 ∨ n = 3 := by omega
        rcases this with rfl | rfl | rfl
        · rw [hs 2 (by omega), hs 1 (by omega), hs 0 (by omega)]
        · rw [hs 2 (by omega), hs 1 (by omega)]
        · rw [hs 2 (by omega)]
  unfold preref1_Sign
  exact outer 3 1 rfl (Nat.le_refl _) (fun _ _ _ => trivial)
end Go.Proofs.Ytgkacglpjmndbaa
