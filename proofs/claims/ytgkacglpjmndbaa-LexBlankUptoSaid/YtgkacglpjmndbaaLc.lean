/- lex: the program's functions answer what La says, the rest. Plain. -/
import Derived.Test.YtgkacglpjmndbaaLb
namespace Go.Proofs.Ytgkacglpjmndbaa
open Go.RowKit

theorem drop_head {u : List UInt8} {k : Nat} (h : k < u.length) : (u.drop k).head? = some (u.getD k 0) := by rw [drop_cons u k h]; rfl
theorem drop_nil {u : List UInt8} {k : Nat} (h : ¬ k < u.length) : u.drop k = [] := List.drop_of_length_le (by omega)

theorem quoN_cons (q c : UInt8) (r : List UInt8) : quoN q (c :: r) = if c = 10 then none else if c = q then some 1 else if c = 92 then (match r with | [] => none | d :: r' => if d = 10 then none else (quoN q r').map (· + 2)) else (quoN q r).map (· + 1) := by
  conv => lhs; unfold quoN
  rfl
theorem quo_loop {R : Type} {b : (UInt8 × Int) → Option ((UInt8 × Int) ⊕ R)} (u : List UInt8) (q : UInt8) (f : Option Nat → R)
    (hb : ∀ k : Nat, k ≤ u.length → b (q, (k : Int)) = if k < u.length ∧ u.getD k 0 ≠ 10 then (if u.getD k 0 = q then some (.inr (f (some (k + 1)))) else if u.getD k 0 = 92 ∧ k + 1 < u.length ∧ u.getD (k + 1) 0 ≠ 10 then some (.inl (q, ((k + 2 : Nat) : Int))) else some (.inl (q, ((k + 1 : Nat) : Int)))) else some (.inr (f none))) :
    ∀ (n k : Nat), k ≤ u.length → u.length - k ≤ n → loopO b (q, (k : Int)) = some (f ((quoN q (u.drop k)).map (k + ·)))
  | n, k, hk, hn => by
    rw [loopO_eq, hb k hk]
    by_cases h : k < u.length
    · rw [drop_cons u k h, quoN_cons]
      by_cases h10 : u.getD k 0 = 10
      · rw [if_neg (fun hh => hh.2 h10), if_pos h10]
        rfl
      · rw [if_pos ⟨h, h10⟩, if_neg h10]
        by_cases hq : u.getD k 0 = q
        · rw [if_pos hq, if_pos hq]
          rfl
        · rw [if_neg hq, if_neg hq]
          cases n with
          | zero => omega
          | succ n =>
            by_cases h92 : u.getD k 0 = 92
            · rw [if_pos h92]
              by_cases h2 : k + 1 < u.length ∧ u.getD (k + 1) 0 ≠ 10
              · rw [if_pos ⟨h92, h2⟩]
                simp only
                rw [quo_loop u q f hb n (k + 2) (by omega) (by omega)]
                rw [drop_cons u (k + 1) h2.1]
                simp only
                rw [if_neg h2.2]
                cases quoN q (u.drop (k + 1 + 1)) with
                | none => rfl
                | some a => simp only [Option.map_some]; rw [show k + 2 + a = k + (a + 2) by omega]
              · rw [if_neg (fun hh => h2 hh.2)]
                simp only
                rw [quo_loop u q f hb n (k + 1) (by omega) (by omega)]
                by_cases h3 : k + 1 < u.length
                · have h4 : u.getD (k + 1) 0 = 10 := by
                    by_cases h5 : u.getD (k + 1) 0 = 10
                    · exact h5
                    · exact absurd ⟨h3, h5⟩ h2
                  rw [drop_cons u (k + 1) h3, quoN_cons, if_pos h4]
                  simp only
                  rw [if_pos h4]
                  rfl
                · rw [drop_nil h3]; rfl
            · rw [if_neg (fun hh => h92 hh.1), if_neg h92]
              simp only
              rw [quo_loop u q f hb n (k + 1) (by omega) (by omega)]
              cases quoN q (u.drop (k + 1)) with
              | none => rfl
              | some a => simp only [Option.map_some]; rw [show k + 1 + a = k + (a + 1) by omega]
    · rw [if_neg (fun hh => h hh.1), drop_nil h]
      rfl

section
variable (x : Spliced) (txt : List UInt8) (file : Int) (out : List Token)

theorem optI_map (i j : Nat) (o : Option Nat) : optI i (o.map (j + ·)) = optI (i + j) o := by
  cases o <;> simp [optI]; omega
theorem quoted_eq (hx : x.Text.length ≤ 1099511627776) (i : Nat) (hi : i < x.Text.length) (q : UInt8) : lex_lexer_quoted (lx x txt file out i) q = some (optI i ((quoN q (x.Text.drop (i + 1))).map (· + 1))) := by
  unfold lex_lexer_quoted
  rw [wN1 i (by omega)]
  have := quo_loop (b := lex_lexer_quoted_b1 (lx x txt file out i)) x.Text q (optI 0) (fun k hk => ?_) _ (i + 1) (by omega) (Nat.le_refl _)
  · rw [this, optI_map]
    cases quoN q (x.Text.drop (i + 1)) <;> simp [optI]
    omega
  · simp only [lex_lexer_quoted_b1, lex_lexer_quoted_j2, lex_lexer_quoted_j3, lex_lexer_quoted_j4, ltI, decide_eq_true_eq, Int.toNat_natCast, inrO, chr _ 10 10 rfl, chr _ 92 92 rfl, chr2]
    by_cases h : k < x.Text.length
    · rw [if_pos (show (k : Int) < x.Text.length by omega), if_pos (show (0 : Int) ≤ k ∧ k < x.Text.length by omega)]
      simp only [wN1 k (by omega), Int.toNat_natCast]
      generalize x.Text.getD k 0 = c
      by_cases h10 : c = 10
      · simp [h10, optI]
      · rw [if_pos (show (!decide (c = 10)) = true by simp [h10]), if_pos (show (0 : Int) ≤ k ∧ k < x.Text.length by omega), if_pos (show k < x.Text.length ∧ c ≠ 10 from ⟨h, h10⟩)]
        by_cases hq : c = q
        · simp [hq, optI]
        · rw [if_neg hq, if_neg hq]
          by_cases h92 : c = 92
          · by_cases h3 : k + 1 < x.Text.length
            · rw [if_pos h92, if_pos (show ((k + 1 : Nat) : Int) < x.Text.length by omega), if_pos (show (0 : Int) ≤ ((k + 1 : Nat) : Int) ∧ k + 1 < x.Text.length by omega)]
              generalize x.Text.getD (k + 1) 0 = d
              by_cases hd : d = 10
              · simp [h92, hd]
              · rw [if_pos (show (!decide (d = 10)) = true by simp [hd]), if_pos (show c = 92 ∧ k + 1 < x.Text.length ∧ d ≠ 10 from ⟨h92, h3, hd⟩), wN1 (k + 1) (by omega)]
            · rw [if_pos h92, if_neg (show ¬ ((k + 1 : Nat) : Int) < x.Text.length by omega), if_neg (show ¬ (c = 92 ∧ k + 1 < x.Text.length ∧ x.Text.getD (k + 1) 0 ≠ 10) by omega)]
              simp
          · simp [h92]
    · rw [if_neg (show ¬ (k : Int) < x.Text.length by omega)]
      simp [h, optI]

/-- Do the last two tokens say that a path may follow? -/
def pathOk (out : List Token) : Bool :=
  match out.reverse with
  | b :: a :: _ => decide (b.Text = incT) && (!b.First && (a.First && decide (a.Text = [35])))
  | _ => false

theorem last_two (out : List Token) (h : 2 ≤ out.length) : ∃ l a b, out = l ++ [a, b] ∧ out.getD (out.length - 1) default = b ∧ out.getD (out.length - 2) default = a ∧ pathOk out = (decide (b.Text = incT) && (!b.First && (a.First && decide (a.Text = [35])))) := by
  rcases List.eq_nil_or_concat out with rfl | ⟨l1, b, rfl⟩
  · simp at h
  · rcases List.eq_nil_or_concat l1 with rfl | ⟨l, a, rfl⟩
    · simp at h
    · refine ⟨l, a, b, by simp, ?_, ?_, ?_⟩
      · simp [List.getD_eq_getElem?_getD]
      · simp [List.getD_eq_getElem?_getD]
      · simp [pathOk]

theorem path_eq (hx : x.Text.length ≤ 1099511627776) (ho : out.length ≤ 1099511627776) (i : Nat) (hi : i < x.Text.length) : lex_lexer_path (lx x txt file out i) = some (if pathOk out = true then optI i ((pathN (x.Text.drop (i + 1))).map (· + 1)) else -1) := by
  have key : lex_lexer_path_j1 (lx x txt file out i) false = some (optI i ((pathN (x.Text.drop (i + 1))).map (· + 1))) := by
    simp only [lex_lexer_path_j1, Bool.false_eq_true, if_false]
    rw [wN1 i (by omega), while109_eq x txt file out _ hx (i + 1) (by omega)]
    simp only [Option.bind_some, pathN]
    have hr := runN_le (fun c => decide (c ≠ 62) && decide (c ≠ 10)) (x.Text.drop (i + 1))
    generalize runN (fun c => decide (c ≠ 62) && decide (c ≠ 10)) (x.Text.drop (i + 1)) = r at hr
    rw [List.length_drop] at hr
    rw [List.drop_drop]
    simp only [ltI, decide_eq_true_eq, Int.toNat_natCast, lex_lexer_path_j2, chr _ 62 62 rfl]
    by_cases h : i + 1 + r < x.Text.length
    · rw [if_pos (by omega), if_pos (by omega), drop_head h, wN1 (i + 1 + r) (by omega)]
      simp only [Option.some.injEq]
      by_cases h62 : x.Text.getD (i + 1 + r) 0 = 62
      · rw [if_pos h62, if_pos h62]
        simp [optI]; omega
      · rw [if_neg h62, if_neg h62]; rfl
    · rw [if_neg (by omega), drop_nil h]
      simp [optI]
  unfold lex_lexer_path
  simp only [ltI, decide_eq_true_eq]
  by_cases h2 : out.length < 2
  · rw [if_pos (by omega)]
    have : pathOk out = false := by
      match out, h2 with
      | [], _ => rfl
      | [_], _ => rfl
      | _ :: _ :: _, h => simp at h; omega
    simp [lex_lexer_path_j1, this]
  · obtain ⟨l, a, b, ho2, hb, ha, hp⟩ := last_two out (by omega)
    have e1 : IntKind.i64.wrap ((out.length : Int) - 1) = ((out.length - 1 : Nat) : Int) := wNm _ (by omega)
    have e2 : IntKind.i64.wrap ((out.length : Int) - 2) = ((out.length - 2 : Nat) : Int) := by rw [wr _ (by omega)]; omega
    rw [if_neg (by omega)]
    simp only [e1, e2, Int.toNat_natCast, hb, ha]
    have g1 : (0 : Int) ≤ ((out.length - 1 : Nat) : Int) ∧ out.length - 1 < out.length := by omega
    have g2 : (0 : Int) ≤ ((out.length - 2 : Nat) : Int) ∧ out.length - 2 < out.length := by omega
    rw [if_pos g1, if_pos g1, if_pos g2, if_pos g2, hp]
    simp only [eqS, incT]
    have kt : lex_lexer_path_j1 (lx x txt file out i) true = some (-1) := by simp [lex_lexer_path_j1]
    by_cases q1 : b.Text = [105, 110, 99, 108, 117, 100, 101]
    · cases hb1 : b.First
      · cases ha1 : a.First
        · simp [q1, kt]
        · by_cases q2 : a.Text = [35]
          · simp [q1, q2, key]
          · simp [q1, q2, kt]
      · simp [q1, kt]
    · simp [q1, kt]

theorem find_len (S : List (List UInt8)) (k : Nat) (hS : ∀ s ∈ S, s.length = k) (l : List UInt8) : S.find? (fun s => decide (l.take s.length = s)) = if S.contains (l.take k) = true then some (l.take k) else none := by
  induction S with
  | nil => simp
  | cons s S ih =>
    have h1 := hS s (by simp)
    rw [List.find?_cons, ih (fun s hs => hS s (by simp [hs])), h1]
    by_cases h : l.take k = s
    · simp [h]
    · have h' : ¬ s = l.take k := fun e => h e.symm
      simp [h, h']
theorem find_signs (l : List UInt8) : signsL.find? (fun s => decide (l.take s.length = s)) = if 0 < signN l then some (l.take (signN l)) else none := by
  unfold signsL
  rw [List.find?_append, List.find?_append, find_len signs3 3 (by decide), find_len signs2 2 (by decide), find_len signs1 1 (by decide)]
  unfold signN
  split
  · simp
  · split
    · simp
    · split <;> simp

theorem lsigns : lex_Signs = some signsL := rfl
theorem sign_eq (hx : x.Text.length ≤ 1099511627776) (i : Nat) (hi : i < x.Text.length) : lex_lexer_sign (lx x txt file out i) = some (if 0 < signN (x.Text.drop i) then ((i + signN (x.Text.drop i) : Nat) : Int) else -1) := by
  unfold lex_lexer_sign
  rw [lsigns]
  simp only [Option.bind_some]
  have hlen : ∀ s ∈ signsL, s.length ≤ 3 := by decide
  have := find_loop (b := lex_lexer_sign_b1 (lx x txt file out i) signsL) signsL (fun s => decide ((x.Text.drop i).take s.length = s)) (fun s => ((i + s.length : Nat) : Int)) (-1) (fun j hj => ?_) _ 0 (Nat.zero_le _) (Nat.le_refl _)
  · rw [show ((0 : Nat) : Int) = 0 from rfl] at this
    rw [this, List.drop_zero, find_signs]
    have hl := signN_pos_le (x.Text.drop i)
    by_cases h : 0 < signN (x.Text.drop i)
    · rw [if_pos h, if_pos h]
      simp only [Option.elim_some, List.length_take]
      rw [Nat.min_eq_left hl]
    · rw [if_neg h, if_neg h]
      rfl
  · have hs48 : signsL.length = 47 + 1 := rfl
    simp only [lex_lexer_sign_b1, lex_lexer_sign_j2, ltI, leI, eqS, decide_eq_true_eq, Int.toNat_natCast, inrO]
    by_cases h : j < signsL.length
    · rw [if_pos (by omega), if_pos (by omega), if_pos h, wN1 j (by omega)]
      have h3 : (signsL.getD j default).length ≤ 3 := hlen _ (by simp [List.getD_eq_getElem?_getD, List.getElem?_eq_getElem h])
      generalize signsL.getD j default = s at h3
      rw [show IntKind.i64.wrap ((x.Text.length : Int) - (i : Int)) = ((x.Text.length - i : Nat) : Int) by rw [wr _ (by omega)]; omega,
        show IntKind.i64.wrap ((i : Int) + (s.length : Int)) = ((i + s.length : Nat) : Int) by rw [wr _ (by omega)]; omega]
      by_cases hl : s.length ≤ x.Text.length - i
      · rw [if_pos (by omega), if_pos (by omega)]
        simp only [Int.toNat_natCast, show i + s.length - i = s.length by omega]
        by_cases ht : (x.Text.drop i).take s.length = s
        · simp [ht]
        · simp [ht]
      · rw [if_neg (by omega)]
        have ht : ¬ (x.Text.drop i).take s.length = s := fun e => by
          have := congrArg List.length e
          simp at this; omega
        simp [ht]
    · rw [if_neg (by omega), if_neg h]; simp

theorem piece_cons (c : UInt8) (r : List UInt8) (path : Bool) : piece (c :: r) path = (if isLet c = true then (1, some (runN isWd (c :: r)))
    else if (isDig c || (decide (c = 46) && (r.head?.map isDig).getD false)) = true then (2, some (numN 0 (c :: r)))
    else if c = 34 then (4, (quoN 34 r).map (· + 1))
    else if c = 39 then (3, (quoN 39 r).map (· + 1))
    else if c = 60 ∧ path = true ∧ (pathN r).isSome = true then (7, (pathN r).map (· + 1))
    else if 0 < signN (c :: r) then (5, some (signN (c :: r)))
    else (6, some 1)) := rfl
theorem one_eq (hx : x.Text.length ≤ 1099511627776) (ho : out.length ≤ 1099511627776) (i : Nat) (hi : i < x.Text.length) (first : Bool) :
    lex_lexer_one (lx x txt file out i) first = some ((piece (x.Text.drop i) (!first && pathOk out)).1, optI i (piece (x.Text.drop i) (!first && pathOk out)).2) := by
  have hd := drop_cons x.Text i hi
  have e1 := while81_eq x txt file out (i : Int) hx i (by omega)
  have e2 := number_eq x txt file out hx i (by omega)
  have e3 := quoted_eq x txt file out hx i hi
  have e4 := path_eq x txt file out hx ho i hi
  have e5 := sign_eq x txt file out hx i hi
  have e6 : (x.Text.drop (i + 1)).head? = if i + 1 < x.Text.length then some (x.Text.getD (i + 1) 0) else none := by
    by_cases h : i + 1 < x.Text.length
    · rw [if_pos h, drop_head h]
    · rw [if_neg h, drop_nil h]; rfl
  unfold lex_lexer_one
  simp only [Int.toNat_natCast, letter_eq, digit_eq, Option.bind_some]
  rw [if_pos (show (0 : Int) ≤ (i : Int) ∧ i < x.Text.length by omega), e1, wN1 i (by omega)]
  simp only [Option.bind_some, Int.toNat_natCast, ltI, decide_eq_true_eq, chr _ 46 46 rfl]
  rw [hd] at e1 e2 e5 ⊢
  generalize x.Text.getD i 0 = c at *
  generalize x.Text.drop (i + 1) = r at *
  -- behind what is no letter
  have j2 : ∀ p : Bool, p = (decide (c = 60) && (!first && pathOk out) && (pathN r).isSome) → isLet c = false → (isDig c || (decide (c = 46) && ((r.head?.map isDig).getD false))) = false → c ≠ 34 → c ≠ 39 →
      lex_lexer_one_j2 (lx x txt file out i) p = some ((piece (c :: r) (!first && pathOk out)).1, optI i (piece (c :: r) (!first && pathOk out)).2) := fun p hp h1 h2 h3 h4 => by
    simp only [lex_lexer_one_j2, e4, e5, Option.bind_some]
    have hpc : piece (c :: r) (!first && pathOk out) = (if c = 60 ∧ (!first && pathOk out) = true ∧ (pathN r).isSome = true then (7, (pathN r).map (· + 1)) else if 0 < signN (c :: r) then (5, some (signN (c :: r))) else (6, some 1)) := by
      rw [piece_cons, h1, h2, if_neg (by decide), if_neg (by decide), if_neg h3, if_neg h4]
    rw [hpc]
    cases hpp : p
    · rw [hpp] at hp
      have hn : ¬ (c = 60 ∧ (!first && pathOk out) = true ∧ (pathN r).isSome = true) := fun ⟨a, b, d⟩ => by rw [a, b, d] at hp; exact absurd hp (by decide)
      rw [if_neg hn, if_neg (by decide)]
      simp only [ltI, decide_eq_true_eq]
      by_cases hs : 0 < signN (c :: r)
      · rw [if_pos hs, if_pos hs, if_pos (by omega)]; rfl
      · rw [if_neg hs, if_neg hs, if_neg (by omega)]; rw [wN1 i (by omega)]; rfl
    · rw [hpp] at hp
      have hp := hp.symm
      simp only [Bool.and_eq_true, decide_eq_true_eq] at hp
      rw [if_pos rfl, if_pos (show c = 60 ∧ (!first && pathOk out) = true ∧ (pathN r).isSome = true from ⟨hp.1.1, by simp [hp.1.2], hp.2⟩), if_pos hp.1.2.2]
  have j1 : ∀ p : Bool, p = (isDig c || (decide (c = 46) && ((r.head?.map isDig).getD false))) → isLet c = false →
      lex_lexer_one_j1 (lx x txt file out i) first (c, p) = some ((piece (c :: r) (!first && pathOk out)).1, optI i (piece (c :: r) (!first && pathOk out)).2) := fun p hp h1 => by
    simp only [lex_lexer_one_j1, e2, e3, chr _ 34 34 rfl, chr _ 39 39 rfl, chr _ 60 60 rfl, decide_eq_true_eq, Option.bind_some]
    cases hpp : p
    · rw [hpp] at hp
      have hp := hp.symm
      rw [if_neg (by decide)]
      by_cases h34 : c = 34
      · rw [if_pos h34, piece_cons, h1, hp, if_neg (by decide), if_neg (by decide), if_pos h34, h34]
      · rw [if_neg h34]
        by_cases h39 : c = 39
        · rw [if_pos h39, piece_cons, h1, hp, if_neg (by decide), if_neg (by decide), if_neg h34, if_pos h39, h39]
        · rw [if_neg h39]
          by_cases h60 : c = 60
          · rw [if_pos h60]
            cases hf : first
            · rw [if_pos (by decide)]
              simp only [e4, Option.bind_some]
              have := j2 (ltI 0 (if pathOk out = true then optI i ((pathN r).map (· + 1)) else -1)) (by
                rw [hf]
                cases hpo : pathOk out
                · simp [ltI]
                · cases hpn : pathN r <;> simp [ltI, optI, h60]
                  omega) h1 hp h34 h39
              rw [hf] at this
              exact this
            · have := j2 false (by rw [hf]; simp) h1 hp h34 h39
              rw [hf] at this
              rw [if_neg (by decide)]
              exact this
          · rw [if_neg h60]
            exact j2 false (by simp [h60]) h1 hp h34 h39
    · rw [hpp] at hp
      have hp := hp.symm
      rw [if_pos rfl, piece_cons, h1, hp, if_neg (by decide), if_pos rfl]
      rfl
  by_cases h1 : isLet c = true
  · rw [if_pos h1, piece_cons, if_pos h1]
    rfl
  · have h1 : isLet c = false := by simpa using h1
    rw [h1, if_neg (by decide)]
    by_cases h2 : isDig c = true
    · rw [if_pos h2]
      exact j1 true (by simp [h2]) h1
    · have h2 : isDig c = false := by simpa using h2
      rw [h2, if_neg (by decide)]
      by_cases h46 : c = 46
      · rw [if_pos h46]
        by_cases h3 : i + 1 < x.Text.length
        · rw [if_pos (by omega), if_pos (by omega)]
          exact j1 _ (by rw [h2, h46, e6, if_pos h3]; simp) h1
        · rw [if_neg (by omega)]
          exact j1 _ (by rw [h2, e6, if_neg h3]; simp) h1
      · rw [if_neg h46]
        exact j1 _ (by rw [h2]; simp [h46]) h1
end
end Go.Proofs.Ytgkacglpjmndbaa
