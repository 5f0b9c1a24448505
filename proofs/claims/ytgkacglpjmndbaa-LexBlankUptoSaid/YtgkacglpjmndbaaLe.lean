/- lex: the program's Tokens answers toksV. Plain. -/
import Derived.Test.YtgkacglpjmndbaaLd
namespace Go.Proofs.Ytgkacglpjmndbaa
open Go.RowKit

def isHash (t : Token) : Bool := t.First && decide (t.Text = [35])
def stOf (out : List Token) : Nat :=
  match out.reverse with
  | [] => 0
  | b :: rest => if isHash b = true then 1 else if ((rest.head?.map isHash).getD false && (!b.First && decide (b.Text = incT))) = true then 2 else 0
theorem pathOk_st (out : List Token) : pathOk out = decide (stOf out = 2) := by
  rw [Bool.eq_iff_iff, decide_eq_true_iff]
  unfold pathOk stOf
  cases out.reverse with
  | nil => simp
  | cons b rest =>
    cases rest with
    | nil =>
      show (false : Bool) = true ↔ (if isHash b = true then 1 else if (false && (!b.First && decide (b.Text = incT))) = true then 2 else 0) = 2
      by_cases hb : isHash b = true <;> simp [hb]
    | cons a rest =>
      show _ ↔ (if isHash b = true then 1 else if (isHash a && (!b.First && decide (b.Text = incT))) = true then 2 else 0) = 2
      by_cases h1 : b.Text = incT
      · have hb : isHash b = false := by unfold isHash; rw [h1]; simp [incT]
        rw [hb]
        unfold isHash
        cases hbf : b.First <;> cases haf : a.First <;> simp [h1, hbf, haf]
      · by_cases hb : isHash b = true <;> simp [h1, hb]
theorem stOf_snoc (out : List Token) (t : Token) : stOf (out ++ [t]) = nextP (stOf out) t.Text t.First := by
  have e : stOf (out ++ [t]) = if isHash t = true then 1 else if ((out.reverse.head?.map isHash).getD false && (!t.First && decide (t.Text = incT))) = true then 2 else 0 := by
    unfold stOf
    rw [List.reverse_append]
    rfl
  have e1 : (out.reverse.head?.map isHash).getD false = true ↔ stOf out = 1 := by
    unfold stOf
    cases out.reverse with
    | nil => simp
    | cons a rest =>
      show isHash a = true ↔ (if isHash a = true then 1 else if ((rest.head?.map isHash).getD false && (!a.First && decide (a.Text = incT))) = true then 2 else 0) = 1
      by_cases ha : isHash a = true
      · simp [ha]
      · simp only [ha, if_false, Bool.false_eq_true, false_iff]
        split <;> simp
  rw [e]
  unfold nextP
  by_cases ht : t.First = true ∧ t.Text = [35]
  · have : isHash t = true := by unfold isHash; simp [ht]
    rw [if_pos this, if_pos ht]
  · have : ¬ isHash t = true := by
      unfold isHash
      intro h
      simp only [Bool.and_eq_true, decide_eq_true_eq] at h
      exact ht h
    rw [if_neg this, if_neg ht]
    by_cases h : stOf out = 1 ∧ t.First = false ∧ t.Text = incT
    · rw [if_pos h, if_pos (by rw [e1.2 h.1]; simp [h.2])]
    · rw [if_neg h, if_neg]
      intro hh
      simp only [Bool.and_eq_true, Bool.not_eq_true', decide_eq_true_eq] at hh
      exact h ⟨e1.1 hh.1, hh.2⟩

def finV (file : Int) (text : List UInt8) (out : List Token) : List Raw × Option Nat → List Token × Fault
  | (ts, none) => (out ++ ts.map (tokOf file text), ⟨0, -1, 0⟩)
  | (_, some p) => ([], ⟨9, file, (((spPos text).getD p 0 : Nat) : Int)⟩)
theorem finV_cons (file : Int) (text : List UInt8) (out : List Token) (t : Raw) (x : List Raw × Option Nat) : finV file text (out ++ [tokOf file text t]) x = finV file text out (t :: x.1, x.2) := by
  obtain ⟨ts, _ | p⟩ := x <;> simp [finV]

theorem whereN_in (A : List Nat) (p : Nat) (h : p < A.length) : whereN A (p : Int) = ((A.getD p 0 : Nat) : Int) := by
  unfold whereN
  rw [if_neg (by omega)]; simp
theorem posAt_le (text : List UInt8) (p : Nat) (h : p < (spPos text).length) : (spPos text).getD p 0 ≤ text.length := by
  have : (spPos text).getD p 0 ∈ spPos text := by simp [List.getD_eq_getElem?_getD, List.getElem?_eq_getElem h]
  exact spPos_le text _ this
theorem spText_len (text : List UInt8) : (spText text).length ≤ text.length := by
  have h := (sp_facts text 0 0).2.2
  unfold spText spAt
  simpa using h

theorem tok_loop (file : Int) (text : List UInt8) (ht : text.length ≤ 3000) : ∀ (n i : Nat) (out : List Token), i ≤ (spText text).length → (spText text).length - i < n → out.length + ((spText text).length - i) ≤ 100000 →
    loopO (lex_Tokens_b1 file text (spS text)) ((i : Int), out) = some (finV file text out (lxF n ((spText text).drop i) i (stOf out) (out.isEmpty)))
  | 0, i, out, _, h, _ => by omega
  | n + 1, i, out, hi, hn, ho => by
    have hu := spText_len text
    have hA := spPos_length text
    have e1 := blank_eq (spS text) text file out (by show (spText text).length ≤ _; omega) i i hi _ i false false hi (Nat.le_refl _)
    have hsk := skip_le _ ((spText text).drop i) (Nat.le_refl _)
    rw [List.length_drop] at hsk
    have hxT : (spS text).Text = spText text := rfl
    have hxA : (spS text).At = ints (spPos text) := rfl
    have hres : skRes (spText text) i false = (i + (skip ((spText text).drop i)).1, (skip ((spText text).drop i)).2.1, (skip ((spText text).drop i)).2.2) := by unfold skRes; simp
    rw [hxT, hres] at e1
    simp only [Bool.false_or] at e1
    have e2 : lex_lexer_blank ⟨spS text, text, file, (i : Int), out⟩ = _ := e1
    rw [loopO_step]
    simp only [lex_Tokens_b1, e2, Option.bind_some, lxF]
    have hdk : decide (i < i + (skip ((spText text).drop i)).1) = decide (0 < (skip ((spText text).drop i)).1) := by congr 1; simp
    rw [hdk]
    generalize hk : (skip ((spText text).drop i)).1 = k at hsk
    generalize hf : (skip ((spText text).drop i)).2.1 = feed
    generalize hok : (skip ((spText text).drop i)).2.2 = ok
    have hwh : ∀ p : Nat, p < (spPos text).length → splice_Where (spS text) (p : Int) = some (((spPos text).getD p 0 : Nat) : Int) := fun p hp => by
      have := where_eq (spText text) (spPos text) (p : Int)
      rw [whereN_in _ _ hp] at this
      exact this
    cases ok
    · simp only [Bool.not_false, if_true, inrO]
      rw [hwh _ (by omega)]
      rfl
    · simp only [Bool.not_true, Bool.false_eq_true, if_false, eqI, decide_eq_true_eq, Bool.true_eq_false]
      rw [hxT, List.drop_drop]
      by_cases hend : i + k = (spText text).length
      · rw [if_pos (by omega), if_pos (List.drop_of_length_le (by omega))]
        simp [inrO, stepO, finV]
      · have hlt : i + k < (spText text).length := by omega
        rw [if_neg (show ¬ ((i + k : Nat) : Int) = ((spText text).length : Int) by omega), if_neg (show ¬ (spText text).drop (i + k) = [] from fun h => by have := congrArg List.length h; simp at this; omega)]
        have hone := one_eq (spS text) text file out (by rw [hxT]; omega) (by omega) (i + k) (by rw [hxT]; exact hlt)
        rw [hxT] at hone
        have j2 : ∀ first : Bool, first = (out.isEmpty || feed) → stepO (lex_Tokens_b1 file text (spS text)) (lex_Tokens_j2 file text (spS text) out ((decide (0 < k), feed, true), lx (spS text) text file out (i + k)) first) =
            some (finV file text out (match piece ((spText text).drop (i + k)) (!(out.isEmpty || feed) && decide (stOf out = 2)) with
              | (_, none) => ([], some (i + k))
              | (kind, some m) =>
                let t := ((spText text).drop (i + k)).take m
                let x := lxF n (((spText text).drop (i + k)).drop m) (i + k + m) (nextP (stOf out) t (out.isEmpty || feed)) false
                (⟨kind, i + k, m, decide (0 < k), out.isEmpty || feed, t⟩ :: x.1, x.2))) := fun first hfirst => by
          simp only [lex_Tokens_j2]
          rw [hwh _ (by omega)]
          simp only [Option.bind_some]
          rw [show (⟨spS text, text, file, ((i + k : Nat) : Int), out⟩ : lex_lexer) = lx (spS text) text file out (i + k) from rfl, hone first]
          simp only [Option.bind_some]
          rw [hfirst, pathOk_st]
          generalize hp : piece ((spText text).drop (i + k)) (!(out.isEmpty || feed) && decide (stOf out = 2)) = pc
          obtain ⟨kind, m⟩ := pc
          cases m with
          | none => simp [optI, ltI, inrO, stepO, finV]
          | some m =>
            obtain ⟨m1, m2⟩ := piece_le hp
            rw [List.length_drop] at m2
            have hlt0 : ltI (optI (i + k) (some m)) 0 = false := decide_eq_false (show ¬ (((i + k + m : Nat) : Int) < 0) by omega)
            have hoI : optI (i + k) (some m) = ((i + k + m : Nat) : Int) := rfl
            simp only [hlt0, Bool.false_eq_true, if_false]
            rw [hoI]
            rw [hxT]
            rw [if_pos (show (0 : Int) ≤ ((i + k : Nat) : Int) ∧ ((i + k : Nat) : Int) ≤ ((i + k + m : Nat) : Int) ∧ ((i + k + m : Nat) : Int) ≤ (spText text).length by omega)]
            rw [wNm (i + k + m) (by omega), hwh _ (by omega)]
            simp only [Option.bind_some]
            have hA1 := posAt_le text (i + k) (by omega)
            have hA2 := posAt_le text (i + k + m - 1) (by omega)
            rw [lines_eq text _ (by omega)]
            simp only [Option.bind_some]
            have hkAt : kAt text (((spPos text).getD (i + k) 0 : Nat) : Int) = (spPos text).getD (i + k) 0 := by unfold kAt; rw [Int.toNat_natCast]; omega
            rw [hkAt, if_pos (by simp; omega)]
            rw [wN1 _ (by omega)]
            simp only [Int.toNat_natCast, show i + k + m - (i + k) = m by omega, stepO]
            have htok : (⟨kind, List.take m (List.drop (i + k) (spText text)), decide (0 < k), out.isEmpty || feed, file, (((spPos text).getD (i + k) 0 : Nat) : Int), (((spPos text).getD (i + k + m - 1) 0 + 1 : Nat) : Int), ((lineN text ((spPos text).getD (i + k) 0) : Nat) : Int), [], [], 0⟩ : Token) = tokOf file text ⟨kind, i + k, m, decide (0 < k), out.isEmpty || feed, List.take m (List.drop (i + k) (spText text))⟩ := rfl
            rw [htok, tok_loop file text ht n (i + k + m) _ (by omega) (by omega) (by simp; omega), finV_cons, stOf_snoc, List.drop_drop]
            have hne : (out ++ [tokOf file text ⟨kind, i + k, m, decide (0 < k), out.isEmpty || feed, List.take m (List.drop (i + k) (spText text))⟩]).isEmpty = false := by simp
            rw [hne]
            rfl
        by_cases ho0 : out = []
        · subst ho0
          rw [if_pos (show ((([] : List Token).length : Nat) : Int) = 0 from rfl)]
          exact j2 true (by simp)
        · have hol : ¬ ((out.length : Nat) : Int) = 0 := fun h => ho0 (List.length_eq_zero_iff.1 (by omega))
          rw [if_neg hol]
          exact j2 feed (by cases out with | nil => exact absurd rfl ho0 | cons _ _ => rfl)

theorem ltokens_eq (file : Int) (text : List UInt8) (h : text.length ≤ 1099511627776) : lex_Tokens file text = some (toksV file text) := by
  unfold lex_Tokens toksV
  simp only [ltI, decide_eq_true_eq]
  by_cases ht : 3000 < text.length
  · rw [if_pos (by omega), if_pos ht]
  · rw [if_neg (by omega), if_neg ht, text_eq text h]
    have := tok_loop file text (by omega) ((spText text).length + 1) 0 [] (Nat.zero_le _) (by omega) (by have := spText_len text; simp; omega)
    simp only [Option.bind_some]
    rw [show ((0 : Int), ([] : List Token)) = (((0 : Nat) : Int), []) from rfl, this]
    unfold raws
    simp only [List.drop_zero]
    rw [show stOf [] = 0 from rfl, show ([] : List Token).isEmpty = true from rfl]
    generalize lxF ((spText text).length + 1) (spText text) 0 0 true = z
    obtain ⟨ts, _ | p⟩ := z <;> simp [finV]
end Go.Proofs.Ytgkacglpjmndbaa
