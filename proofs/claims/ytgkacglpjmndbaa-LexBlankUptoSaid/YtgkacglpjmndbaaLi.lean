/- lex: Name, SameTokens, Sticks, Join. Plain. -/
import Derived.Test.YtgkacglpjmndbaaLh
import Derived.Test.YtgkacglpjmndbaaQn
namespace Go.Proofs.Ytgkacglpjmndbaa
open Go.RowKit

/-- A loop that asks each place. -/
theorem idx_loop {R : Type} {b : Int × Int → Option ((Int × Int) ⊕ R)} (N : Nat) (p : Nat → Bool) (x y : R)
    (hb : ∀ j : Nat, j ≤ N → b ((N : Int), (j : Int)) = if j < N then (if p j = true then some (.inl ((N : Int), ((j + 1 : Nat) : Int))) else some (.inr x)) else some (.inr y)) :
    loopO b ((N : Int), 0) = some (if ∀ j, j < N → p j = true then y else x) := by
  have key : ∀ n j, j ≤ N → N - j ≤ n → loopO b ((N : Int), (j : Int)) = some (if ∀ i, i < N → j ≤ i → p i = true then y else x) := fun n => by
    induction n with
    | zero =>
      intro j hj hn
      rw [loopO_step, hb j hj, if_neg (by omega), if_pos (fun i h1 h2 => by omega)]
      rfl
    | succ n ih =>
      intro j hj hn
      rw [loopO_step, hb j hj]
      by_cases h : j < N
      · rw [if_pos h]
        by_cases hp : p j = true
        · rw [if_pos hp]
          simp only [stepO]
          rw [ih (j + 1) (by omega) (by omega)]
          congr 2
          apply propext
          exact ⟨fun h i h1 h2 => by
            by_cases e : i = j
            · rw [e]; exact hp
            · exact h i h1 (by omega), fun h i h1 h2 => h i h1 (by omega)⟩
        · rw [if_neg hp, if_neg (fun h' => hp (h' j h (Nat.le_refl _)))]
          rfl
      · rw [if_neg h, if_pos (fun i h1 h2 => by omega)]
        rfl
  have := key N 0 (Nat.zero_le _) (by omega)
  rw [show (0 : Int) = ((0 : Nat) : Int) from rfl, this]
  congr 2
  apply propext
  exact ⟨fun h i h1 => h i h1 (Nat.zero_le _), fun h i h1 _ => h i h1⟩

theorem all_iff {A : Type} (l : List A) (d : A) (p : A → Bool) : (∀ j, j < l.length → p (l.getD j d) = true) ↔ l.all p = true := by
  rw [List.all_eq_true]
  constructor
  · intro h a ha
    obtain ⟨j, hj, rfl⟩ := List.getElem_of_mem ha
    have := h j hj
    rwa [List.getD_eq_getElem?_getD, List.getElem?_eq_getElem hj] at this
  · intro h j hj
    rw [List.getD_eq_getElem?_getD, List.getElem?_eq_getElem hj]
    exact h _ (List.getElem_mem hj)

def nameV : List UInt8 → Bool
  | [] => false
  | c :: r => isLet c && r.all isWd

theorem lname_eq (a : List UInt8) (h : a.length ≤ 1099511627776) : lex_Name a = some (nameV a) := by
  unfold lex_Name
  cases a with
  | nil => rfl
  | cons c r =>
    have he : eqS (c :: r) [] = false := rfl
    have h0 : (c :: r).getD 0 0 = c := rfl
    simp only [he, Bool.false_eq_true, if_false, h0, letter_eq, Option.bind_some, lex_Name_j1]
    rw [if_pos (by simp)]
    have := idx_loop (b := lex_Name_b2 (c :: r)) (c :: r).length (fun j => isWd ((c :: r).getD j 0)) false true (fun j hj => ?_)
    · rw [this]
      have e := all_iff (c :: r) 0 isWd
      simp only [e, nameV]
      cases hc : isLet c
      · simp
      · rw [List.all_cons, show isWd c = true by simp [isWd, hc]]
        cases r.all isWd <;> rfl
    · generalize c :: r = a at *
      simp only [lex_Name_b2, lex_Name_j3, ltI, decide_eq_true_eq, Int.toNat_natCast, letter_eq, digit_eq, Option.bind_some, inrO]
      by_cases h : j < a.length
      · rw [if_pos (by omega), if_pos (show (0 : Int) ≤ j ∧ j < a.length by omega), if_pos h, wN1 j (by omega), show isWd (a.getD j 0) = (isLet (a.getD j 0) || isDig (a.getD j 0)) from rfl]
        generalize isLet (a.getD j 0) = e
        generalize isDig (a.getD j 0) = g
        have h1 : (0 : Int) ≤ j ∧ j < a.length := by omega
        cases e <;> cases g <;> simp [h1]
      · rw [if_neg (by omega), if_neg h]; rfl

theorem rname_eq (a : List UInt8) (h : a.length ≤ 1099511627776) : preref1_Name a = some (nameV a) := by
  unfold preref1_Name
  have := idx_loop (b := preref1_Name_b1 a) a.length (fun j => isLet (a.getD j 0) || (decide (j ≠ 0) && isDig (a.getD j 0))) false (decide (0 < a.length)) (fun j hj => ?_)
  · rw [this]
    cases a with
    | nil => rfl
    | cons c r =>
      have e : (∀ j, j < (c :: r).length → (isLet ((c :: r).getD j 0) || (decide (j ≠ 0) && isDig ((c :: r).getD j 0))) = true) ↔ nameV (c :: r) = true := by
        unfold nameV
        rw [Bool.and_eq_true, ← all_iff r 0 isWd]
        constructor
        · intro h
          refine ⟨by simpa using h 0 (by simp), fun j hj => ?_⟩
          have := h (j + 1) (by simp; omega)
          simpa [isWd] using this
        · rintro ⟨h1, h2⟩ j hj
          cases j with
          | zero => simp [h1]
          | succ j =>
            have := h2 j (by simp at hj; omega)
            simpa [isWd] using this
      simp only [e]
      cases nameV (c :: r) <;> simp
  · simp only [preref1_Name_b1, preref1_Name_j2, ltI, eqI, decide_eq_true_eq, Int.toNat_natCast, rletter_eq, rdigit_eq, Option.bind_some, inrO]
    by_cases h : j < a.length
    · have h1 : (0 : Int) ≤ j ∧ j < a.length := by omega
      rw [if_pos (by omega), if_pos h1, if_pos h, wN1 j (by omega)]
      generalize a.getD j 0 = d
      by_cases h0 : j = 0
      · subst h0
        cases isLet d <;> simp
      · have h0' : ¬ (j : Int) = 0 := by omega
        cases isLet d <;> cases isDig d <;> simp [h0, h1]
    · rw [if_neg (by omega), if_neg h]
      simp

def smallT (t : Token) : Prop := t.Hide.length ≤ 1099511627776 ∧ t.Calls.length ≤ 1099511627776
theorem sameToken_refl (t : Token) (h : smallT t) : preref1_SameToken t t = some true := by
  have e3 : loopO (preref1_SameToken_b3 t t) ((t.Calls.length : Int), 0) = some true := by
    have := idx_loop (b := preref1_SameToken_b3 t t) t.Calls.length (fun _ => true) false true (fun j hj => ?_)
    · rw [this]; simp
    · simp only [preref1_SameToken_b3, ltI, decide_eq_true_eq, Int.toNat_natCast, inrO]
      by_cases hj : j < t.Calls.length
      · have h1 : (0 : Int) ≤ j ∧ j < t.Calls.length := by omega
        have hh := h.2
        rw [if_pos (by omega), if_pos h1, if_pos h1, if_pos hj, wN1 j (by omega)]
        simp [eqI, eqS]
      · rw [if_neg (by omega), if_neg hj]; rfl
  have e2 : loopO (preref1_SameToken_b2 t t) ((t.Hide.length : Int), 0) = some true := by
    have := idx_loop (b := preref1_SameToken_b2 t t) t.Hide.length (fun _ => true) false true (fun j hj => ?_)
    · rw [this]; simp
    · simp only [preref1_SameToken_b2, ltI, decide_eq_true_eq, Int.toNat_natCast, inrO, e3]
      by_cases hj : j < t.Hide.length
      · have h1 : (0 : Int) ≤ j ∧ j < t.Hide.length := by omega
        have hh := h.1
        rw [if_pos (by omega), if_pos h1, if_pos h1, if_pos hj, wN1 j (by omega)]
        simp [eqI, eqS]
      · rw [if_neg (by omega), if_neg hj]; rfl
  unfold preref1_SameToken
  have : preref1_SameToken_j1 t t false = some true := by simp only [preref1_SameToken_j1, e2]; rfl
  simp [eqI, eqS, eqB, this]

theorem sameTokens_refl (l : List Token) (hl : l.length ≤ 1099511627776) (h : ∀ t ∈ l, smallT t) : preref1_SameTokens l l = some true := by
  unfold preref1_SameTokens
  have := idx_loop (b := preref1_SameTokens_b1 l l) l.length (fun _ => true) false true (fun j hj => ?_)
  · rw [this]; simp [eqI]
  · simp only [preref1_SameTokens_b1, ltI, decide_eq_true_eq, Int.toNat_natCast, inrO]
    by_cases hj : j < l.length
    · have h1 : (0 : Int) ≤ j ∧ j < l.length := by omega
      rw [if_pos (by omega), if_pos h1, if_pos h1, if_pos hj, wN1 j (by omega)]
      rw [sameToken_refl _ (h _ (by rw [List.getD_eq_getElem?_getD, List.getElem?_eq_getElem hj]; exact List.getElem_mem hj))]
      simp
    · rw [if_neg (by omega), if_neg hj]; rfl

/-- Two texts that may not stand side by side. -/
def sticksV (a b : List UInt8) : Bool :=
  !(decide ((toksV 0 (a ++ b)).2.Err = 0) && (decide ((toksV 0 (a ++ b)).1.length = 2) && (decide (((toksV 0 (a ++ b)).1.getD 0 default).Text = a) && decide (((toksV 0 (a ++ b)).1.getD 1 default).Text = b))))
theorem lsticks_eq (a b : List UInt8) (h : a.length + b.length ≤ 1099511627776) : lex_Sticks a b = some (sticksV a b) := by
  unfold lex_Sticks sticksV
  rw [if_pos (by omega), ltokens_eq _ _ (by simp; omega)]
  generalize toksV 0 (a ++ b) = r
  simp only [Option.bind_some, lex_Sticks_j1, eqI, eqS]
  by_cases h1 : r.2.Err = 0
  · by_cases h2 : r.1.length = 2
    · have h2' : (r.1.length : Int) = 2 := by omega
      by_cases h3 : (r.1.getD 0 default).Text = a
      · simp only [h1, h2, h3]; rfl
      · simp only [h1, h2, h3]; rfl
    · have h2' : ¬ (r.1.length : Int) = 2 := by omega
      simp [h1, h2, h2']
  · simp [h1]
theorem rsticks_eq (a b : List UInt8) (h : a.length + b.length ≤ 1099511627776) : preref1_Sticks a b = some (sticksV a b) := by
  unfold preref1_Sticks sticksV
  rw [if_pos (by omega), rtokens_eq _ _ (by simp; omega)]
  generalize toksV 0 (a ++ b) = r
  simp only [Option.bind_some, preref1_Sticks_j1, eqI, eqS]
  by_cases h1 : r.2.Err = 0
  · by_cases h2 : r.1.length = 2
    · have h2' : (r.1.length : Int) = 2 := by omega
      by_cases h3 : (r.1.getD 0 default).Text = a
      · simp only [h1, h2, h3]; rfl
      · simp only [h1, h2, h3]; rfl
    · have h2' : ¬ (r.1.length : Int) = 2 := by omega
      simp [h1, h2, h2']
  · simp [h1]

def gapV (p : Option Token) (t : Token) : List UInt8 := if (p.map fun p => t.Space || sticksV p.Text t.Text).getD false = true then [32] else []
def joinG : Option Token → List Token → List UInt8
  | _, [] => []
  | p, t :: r => gapV p t ++ t.Text ++ joinG (some t) r
def joinV (l : List Token) : List UInt8 := joinG none l
def before (l : List Token) (k : Nat) : Option Token := if k = 0 then none else some (l.getD (k - 1) default)

theorem tok_drop (l : List Token) (k : Nat) (h : k < l.length) : l.drop k = l.getD k default :: l.drop (k + 1) := by
  rw [List.drop_eq_getElem_cons h]; simp [List.getD_eq_getElem?_getD, List.getElem?_eq_getElem h]

theorem join_loop {b : (List UInt8 × Int × Int) → Option ((List UInt8 × Int × Int) ⊕ List UInt8)} (l : List Token) (hl : ∀ t ∈ l, t.Text.length ≤ 1048576)
    (hb : ∀ (x : List UInt8) (k : Nat), k ≤ l.length → x.length ≤ 4611686018427387904 → b (x, (l.length : Int), (k : Int)) = if k < l.length then some (.inl (x ++ (gapV (before l k) (l.getD k default) ++ (l.getD k default).Text), (l.length : Int), ((k + 1 : Nat) : Int))) else some (.inr x)) :
    ∀ (n k : Nat) (x : List UInt8), k ≤ l.length → l.length - k ≤ n → x.length + (l.length - k) * 1048577 ≤ 4611686018427387904 → loopO b (x, (l.length : Int), (k : Int)) = some (x ++ joinG (before l k) (l.drop k))
  | n, k, x, hk, hn, hx => by
    rw [loopO_step, hb x k hk (by omega)]
    by_cases h : k < l.length
    · rw [if_pos h, tok_drop l k h]
      cases n with
      | zero => omega
      | succ n =>
        simp only [stepO]
        have ht := hl (l.getD k default) (by rw [List.getD_eq_getElem?_getD, List.getElem?_eq_getElem h]; exact List.getElem_mem h)
        have hg : (gapV (before l k) (l.getD k default)).length ≤ 1 := by unfold gapV; split <;> simp
        have hm : (l.length - k) * 1048577 = (l.length - (k + 1)) * 1048577 + 1048577 := by
          rw [show l.length - k = l.length - (k + 1) + 1 by omega, Nat.add_mul]
        rw [join_loop l hl hb n (k + 1) _ (by omega) (by omega) (by rw [List.length_append, List.length_append]; omega)]
        have : before l (k + 1) = some (l.getD k default) := by unfold before; rw [if_neg (by omega)]; rfl
        rw [this]
        simp only [joinG, List.append_assoc]
    · rw [if_neg h, List.drop_of_length_le (by omega)]
      simp [stepO, joinG]

theorem ljoin_eq (l : List Token) (hn : l.length ≤ 1099511627776) (hl : ∀ t ∈ l, t.Text.length ≤ 1048576) : lex_Join l = some (joinV l) := by
  unfold lex_Join
  have := join_loop (b := lex_Join_b1 l) l hl (fun x k hk hx => ?_) _ 0 [] (Nat.zero_le _) (Nat.le_refl _) (by rw [List.length_nil]; omega)
  · rw [show (0 : Int) = ((0 : Nat) : Int) from rfl, this]; rfl
  · by_cases h : k < l.length
    · have ht := hl (l.getD k default) (by rw [List.getD_eq_getElem?_getD, List.getElem?_eq_getElem h]; exact List.getElem_mem h)
      have hj3 : ∀ b, gapV (before l k) (l.getD k default) = (if b = true then [32] else []) → lex_Join_j3 x (l.length : Int) (k : Int) (b, (l.getD k default).Kind, (l.getD k default).Text, (l.getD k default).Space, (l.getD k default).First, (l.getD k default).File, (l.getD k default).At, (l.getD k default).End, (l.getD k default).Line, (l.getD k default).Hide, (l.getD k default).Calls, (l.getD k default).Made) = some (.inl (x ++ (gapV (before l k) (l.getD k default) ++ (l.getD k default).Text), (l.length : Int), ((k + 1 : Nat) : Int))) := fun b hb => by
        simp only [lex_Join_j3, lex_Join_j2]
        rw [hb, wN1 k (by omega)]
        cases b
        · rw [if_neg (by decide), if_pos (by omega)]; simp
        · rw [if_pos rfl, if_pos (by omega), if_pos (by rw [List.length_append, List.length_singleton]; omega)]; simp
      have h1 : (0 : Int) ≤ k ∧ k < l.length := by omega
      simp only [lex_Join_b1, ltI, decide_eq_true_eq, Int.toNat_natCast]
      rw [if_pos (show (k : Int) < l.length by omega), if_pos h1, if_pos h]
      by_cases h0 : k = 0
      · subst h0
        rw [if_neg (by omega)]
        exact hj3 false rfl
      · rw [if_pos (show (0 : Int) < (k : Int) by omega)]
        have hbf : before l k = some (l.getD (k - 1) default) := by unfold before; rw [if_neg h0]
        by_cases hs : (l.getD k default).Space = true
        · rw [if_pos hs]
          exact hj3 true (by rw [hbf]; simp only [gapV, Option.map_some, hs]; rfl)
        · rw [if_neg hs, wNm k (by omega)]
          simp only [Int.toNat_natCast]
          have hp := hl (l.getD (k - 1) default) (by rw [List.getD_eq_getElem?_getD, List.getElem?_eq_getElem (by omega)]; exact List.getElem_mem _)
          rw [if_pos (by omega), lsticks_eq _ _ (by omega)]
          simp only [Option.bind_some]
          have hs : (l.getD k default).Space = false := by simpa using hs
          exact hj3 _ (by rw [hbf]; simp only [gapV, Option.map_some, Option.getD_some, hs, Bool.false_or])
    · simp only [lex_Join_b1, ltI, decide_eq_true_eq, inrO]
      rw [if_neg (by omega), if_neg h]
      rfl

theorem rjoin_eq (l : List Token) (hn : l.length ≤ 1099511627776) (hl : ∀ t ∈ l, t.Text.length ≤ 1048576) : preref1_Join l = some (joinV l) := by
  unfold preref1_Join
  have := join_loop (b := preref1_Join_b1 l) l hl (fun x k hk hx => ?_) _ 0 [] (Nat.zero_le _) (Nat.le_refl _) (by rw [List.length_nil]; omega)
  · rw [show (0 : Int) = ((0 : Nat) : Int) from rfl, this]; rfl
  · by_cases h : k < l.length
    · have ht := hl (l.getD k default) (by rw [List.getD_eq_getElem?_getD, List.getElem?_eq_getElem h]; exact List.getElem_mem h)
      have hj3 : ∀ b, gapV (before l k) (l.getD k default) = (if b = true then [32] else []) → preref1_Join_j3 x (l.length : Int) (k : Int) (b, (l.getD k default).Kind, (l.getD k default).Text, (l.getD k default).Space, (l.getD k default).First, (l.getD k default).File, (l.getD k default).At, (l.getD k default).End, (l.getD k default).Line, (l.getD k default).Hide, (l.getD k default).Calls, (l.getD k default).Made) = some (.inl (x ++ (gapV (before l k) (l.getD k default) ++ (l.getD k default).Text), (l.length : Int), ((k + 1 : Nat) : Int))) := fun b hb => by
        simp only [preref1_Join_j3, preref1_Join_j2]
        rw [hb, wN1 k (by omega)]
        cases b
        · rw [if_neg (by decide), if_pos (by omega)]; simp
        · rw [if_pos rfl, if_pos (by omega), if_pos (by rw [List.length_append, List.length_singleton]; omega)]; simp
      have h1 : (0 : Int) ≤ k ∧ k < l.length := by omega
      simp only [preref1_Join_b1, ltI, decide_eq_true_eq, Int.toNat_natCast]
      rw [if_pos (show (k : Int) < l.length by omega), if_pos h1, if_pos h]
      by_cases h0 : k = 0
      · subst h0
        rw [if_neg (by omega)]
        exact hj3 false rfl
      · rw [if_pos (show (0 : Int) < (k : Int) by omega)]
        have hbf : before l k = some (l.getD (k - 1) default) := by unfold before; rw [if_neg h0]
        by_cases hs : (l.getD k default).Space = true
        · rw [if_pos hs]
          exact hj3 true (by rw [hbf]; simp only [gapV, Option.map_some, hs]; rfl)
        · rw [if_neg hs, wNm k (by omega)]
          simp only [Int.toNat_natCast]
          have hp := hl (l.getD (k - 1) default) (by rw [List.getD_eq_getElem?_getD, List.getElem?_eq_getElem (by omega)]; exact List.getElem_mem _)
          rw [if_pos (by omega), rsticks_eq _ _ (by omega)]
          simp only [Option.bind_some]
          have hs : (l.getD k default).Space = false := by simpa using hs
          exact hj3 _ (by rw [hbf]; simp only [gapV, Option.map_some, Option.getD_some, hs, Bool.false_or])
    · simp only [preref1_Join_b1, ltI, decide_eq_true_eq, inrO]
      rw [if_neg (by omega), if_neg h]
      rfl
end Go.Proofs.Ytgkacglpjmndbaa
