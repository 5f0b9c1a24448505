/- lex: Lines; LexTells answers true. Plain. -/
import Derived.Test.YtgkacglpjmndbaaLi
import Derived.Test.YtgkacglpjmndbaaQo
namespace Go.Proofs.Ytgkacglpjmndbaa
open Go.RowKit

/-- Lines: the first one is open. -/
def linesG : List Token → List Token → List (List Token)
  | m, [] => [m]
  | m, t :: r => if t.First = true then m :: linesG [t] r else linesG (m ++ [t]) r
def linesV : List Token → List (List Token)
  | [] => []
  | t :: r => linesG [t] r

theorem lines_j2 (l : List Token) (n : Int) (k : Nat) (x : List (List Token)) (m : List Token) (hx : x.length ≤ 1048577) (hm : m.length ≤ 1048577) (hk : k ≤ 1048576) :
    lex_Lines_j2 l n (k : Int) (some (x, m)) = some (.inl (some (x, m ++ [l.getD k default]), n, ((k + 1 : Nat) : Int))) := by
  unfold lex_Lines_j2
  show (if _ then (if _ then _ else _) else _) = _
  rw [if_pos (show x.length < 4611686018427387904 from Nat.lt_of_le_of_lt hx (by decide)), Int.toNat_natCast, List.length_singleton, if_pos (show (m.length + 1) * 120 ≤ 140737488355328 by omega), wN1 k (by omega)]
theorem lines_j3t (l : List Token) (n : Int) (k : Nat) (s : LinesS) (hs : linesLen s ≤ 1048577) : lex_Lines_j3 l n (k : Int) s true = lex_Lines_j2 l n (k : Int) (some (linesOut s, [])) := by
  unfold lex_Lines_j3
  show (if _ then _ else _) = _
  rw [if_pos rfl, if_pos (show (linesLen s + 1) * 24 ≤ 140737488355328 by omega)]
theorem lines_j3f (l : List Token) (n : Int) (k : Nat) (s : LinesS) : lex_Lines_j3 l n (k : Int) s false = lex_Lines_j2 l n (k : Int) s := by
  unfold lex_Lines_j3
  show (if _ then _ else _) = _
  rw [if_neg (by decide)]
theorem lines_b1 (l : List Token) (k : Nat) (s : LinesS) : lex_Lines_b1 l (s, (l.length : Int), (k : Int)) = if k < l.length then lex_Lines_j3 l (l.length : Int) (k : Int) s ((l.getD k default).First || decide (k = 0)) else some (.inr (linesOut s)) := by
  unfold lex_Lines_b1
  show (if _ then _ else _) = _
  rw [ltI_iff, Int.toNat_natCast]
  by_cases h : k < l.length
  · rw [if_pos (decide_eq_true (show (k : Int) < l.length by omega)), if_pos (show (0 : Int) ≤ k ∧ k < l.length by omega), if_pos h]
    cases hf : (l.getD k default).First
    · rw [if_neg (by decide), eqI_iff]
      congr 1
      rw [Bool.false_or]
      congr 1
      apply propext; omega
    · rw [if_pos rfl]; rfl
  · rw [if_neg (by simp; omega), if_neg h]; rfl

theorem lines_loop (l : List Token) (hl : l.length ≤ 1048576) : ∀ (n k : Nat) (x : List (List Token)) (m : List Token), 0 < k → k ≤ l.length → l.length - k ≤ n → x.length ≤ k → m.length ≤ k → loopO (lex_Lines_b1 l) (some (x, m), (l.length : Int), (k : Int)) = some (x ++ linesG m (l.drop k))
  | n, k, x, m, h0, hk, hn, hx, hm => by
    rw [loopO_step, lines_b1]
    by_cases h : k < l.length
    · rw [if_pos h, tok_drop l k h, decide_eq_false (show ¬ k = 0 by omega), Bool.or_false]
      cases n with
      | zero => omega
      | succ n =>
        cases hf : (l.getD k default).First
        · rw [lines_j3f, lines_j2 l _ k x m (by omega) (by omega) (by omega)]
          show loopO _ _ = _
          rw [lines_loop l hl n (k + 1) _ _ (by omega) (by omega) (by omega) (by omega) (by rw [List.length_append, List.length_singleton]; omega)]
          simp only [linesG, hf, if_false, Bool.false_eq_true]
        · rw [lines_j3t l _ k _ (by show x.length + 1 ≤ _; omega)]
          show stepO _ (lex_Lines_j2 l _ _ (some (x ++ [m], []))) = _
          rw [lines_j2 l _ k _ _ (by rw [List.length_append, List.length_singleton]; omega) (by simp) (by omega)]
          show loopO _ _ = _
          rw [List.nil_append, lines_loop l hl n (k + 1) _ _ (by omega) (by omega) (by omega) (by rw [List.length_append, List.length_singleton]; omega) (by rw [List.length_singleton]; omega)]
          simp only [linesG, hf, if_true, List.append_assoc, List.singleton_append]
    · rw [if_neg h, List.drop_of_length_le (by omega)]
      rfl

theorem lines_eqV (l : List Token) (hl : l.length ≤ 1048576) : lex_Lines l = some (linesV l) := by
  unfold lex_Lines
  rw [loopO_step]
  have := lines_b1 l 0 none
  rw [show ((0 : Nat) : Int) = 0 from rfl] at this
  rw [this]
  cases l with
  | nil => rfl
  | cons t r =>
    have e0 : (t :: r).getD 0 default = t := rfl
    have j3 := lines_j3t (t :: r) ((t :: r).length : Int) 0 none (by decide)
    rw [show ((0 : Nat) : Int) = 0 from rfl] at j3
    have j2 := lines_j2 (t :: r) ((t :: r).length : Int) 0 [] [] (by simp) (by simp) (by omega)
    rw [show ((0 : Nat) : Int) = 0 from rfl] at j2
    rw [if_pos (by simp), decide_eq_true rfl, Bool.or_true, j3]
    show stepO _ (lex_Lines_j2 _ _ _ (some ([], []))) = _
    rw [j2]
    show loopO _ _ = _
    have := lines_loop (t :: r) hl _ 1 [] [t] (by omega) (by simp) (Nat.le_refl _) (by simp) (by simp)
    rw [e0, List.nil_append, this]
    rfl

def lineOk (m : List Token) : Prop := ∃ t r, m = t :: r ∧ t.First = true ∧ ∀ x ∈ r, x.First = false
theorem linesG_ok : ∀ (r m : List Token), lineOk m → (linesG m r).flatten = m ++ r ∧ ∀ x ∈ linesG m r, lineOk x
  | [], m, h => by simp [linesG, h]
  | t :: r, m, h => by
    simp only [linesG]
    by_cases hf : t.First = true
    · rw [if_pos hf]
      obtain ⟨h1, h2⟩ := linesG_ok r [t] ⟨t, [], rfl, hf, by simp⟩
      refine ⟨by simp [h1], fun x hx => ?_⟩
      rcases List.mem_cons.1 hx with rfl | hx
      · exact h
      · exact h2 x hx
    · rw [if_neg hf]
      have hm : lineOk (m ++ [t]) := by
        obtain ⟨a, s, rfl, h1, h2⟩ := h
        refine ⟨a, s ++ [t], rfl, h1, fun x hx => ?_⟩
        rcases List.mem_append.1 hx with hx | hx
        · exact h2 x hx
        · rw [List.mem_singleton.1 hx]; simpa using hf
      obtain ⟨h1, h2⟩ := linesG_ok r (m ++ [t]) hm
      exact ⟨by simp [h1], h2⟩
theorem linesV_ok (l : List Token) (h : ∀ t r, l = t :: r → t.First = true) : (linesV l).flatten = l ∧ ∀ x ∈ linesV l, lineOk x := by
  cases l with
  | nil => simp [linesV]
  | cons t r => exact linesG_ok r [t] ⟨t, [], rfl, h t r rfl, by simp⟩

/-- What stands in the tokens of a text. -/
theorem lxF_small : ∀ (n : Nat) (l : List UInt8) (i st : Nat) (f : Bool), (lxF n l i st f).1.length ≤ l.length ∧ ∀ t ∈ (lxF n l i st f).1, t.txt.length ≤ l.length
  | 0, l, i, st, f => by simp [lxF]
  | n + 1, l, i, st, f => by
    unfold lxF
    split
    · simp
    split
    · simp
    split
    · simp
    · rename_i kind m hp
      have hm := piece_le hp
      have hd : (l.drop (skip l).1).length ≤ l.length := by simp
      obtain ⟨h1, h2⟩ := lxF_small n ((l.drop (skip l).1).drop m) (i + (skip l).1 + m) (nextP st ((l.drop (skip l).1).take m) (f || (skip l).2.1)) false
      rw [List.length_drop] at h1 h2
      refine ⟨?_, fun t ht => ?_⟩
      · simp only [List.length_cons]; omega
      · rcases List.mem_cons.1 ht with rfl | ht
        · simp only [List.length_take]; omega
        · have := h2 t ht; omega
theorem lxF_first (n : Nat) (l : List UInt8) (i st : Nat) (t : Raw) (r : List Raw) (h : (lxF n l i st true).1 = t :: r) : t.fst = true := by
  cases n with
  | zero => simp [lxF] at h
  | succ n =>
    unfold lxF at h
    split at h
    · simp at h
    split at h
    · simp at h
    split at h
    · simp at h
    · simp only [List.cons.injEq] at h
      rw [← h.1]; rfl
theorem toksV_small (file : Int) (text : List UInt8) : (toksV file text).1.length ≤ 3000 ∧ (∀ t ∈ (toksV file text).1, t.Text.length ≤ 3000 ∧ t.Hide = [] ∧ t.Calls = []) ∧ ∀ t r, (toksV file text).1 = t :: r → t.First = true := by
  unfold toksV
  split
  · simp
  · rename_i h
    have hl := spText_length text
    obtain ⟨h1, h2⟩ := lxF_small ((spText text).length + 1) (spText text) 0 0 true
    have h3 := lxF_first ((spText text).length + 1) (spText text) 0 0
    unfold raws
    generalize lxF ((spText text).length + 1) (spText text) 0 0 true = z at *
    obtain ⟨ts, o⟩ := z
    cases o with
    | none =>
      refine ⟨by simp only [List.length_map]; simp only at h1; omega, fun t ht => ?_, fun t r e => ?_⟩
      · obtain ⟨a, ha, rfl⟩ := List.mem_map.1 ht
        exact ⟨by have := h2 a ha; show a.txt.length ≤ 3000; omega, rfl, rfl⟩
      · cases ts with
        | nil => simp at e
        | cons a s =>
          simp only [List.map_cons, List.cons.injEq] at e
          rw [← e.1]
          exact h3 a s rfl
    | some p => simp

/-- A loop that goes through places, with what it has. -/
theorem fold_loop {S R : Type} {b : S × Int × Int → Option ((S × Int × Int) ⊕ R)} (N : Nat) (f : Nat → S) (r : R)
    (hb : ∀ j : Nat, j < N → b (f j, (N : Int), (j : Int)) = some (.inl (f (j + 1), (N : Int), ((j + 1 : Nat) : Int)))) (he : b (f N, (N : Int), (N : Int)) = some (.inr r)) : loopO b (f 0, (N : Int), 0) = some r := by
  have key : ∀ n j, j ≤ N → N - j ≤ n → loopO b (f j, (N : Int), (j : Int)) = some r := fun n => by
    induction n with
    | zero =>
      intro j hj hn
      have : j = N := by omega
      subst this
      rw [loopO_step, he]; rfl
    | succ n ih =>
      intro j hj hn
      by_cases h : j < N
      · rw [loopO_step, hb j h]
        exact ih (j + 1) (by omega) (by omega)
      · have : j = N := by omega
        subst this
        rw [loopO_step, he]; rfl
  exact key N 0 (Nat.zero_le _) (by omega)

theorem flat_takeL {A : Type} [Inhabited A] (L : List (List A)) (j : Nat) (h : j < L.length) : (L.take (j + 1)).flatten = (L.take j).flatten ++ L.getD j default := by
  rw [List.take_add_one, List.flatten_append, List.getElem?_eq_getElem h, List.getD_eq_getElem?_getD, List.getElem?_eq_getElem h]
  simp
theorem flat_cut {A : Type} [Inhabited A] (L : List (List A)) (j : Nat) (h : j < L.length) : (L.flatten.drop (L.take j).flatten.length).take (L.getD j default).length = L.getD j default ∧ (L.take j).flatten.length + (L.getD j default).length ≤ L.flatten.length := by
  have e : L.flatten = (L.take j).flatten ++ (L.getD j default ++ (L.drop (j + 1)).flatten) := by
    conv => lhs; rw [← List.take_append_drop j L]
    rw [List.flatten_append, List.drop_eq_getElem_cons h, List.flatten_cons, List.getD_eq_getElem?_getD, List.getElem?_eq_getElem h]
    rfl
  refine ⟨?_, ?_⟩
  · rw [e, List.drop_left, List.take_left]
  · rw [e]; simp only [List.length_append]; omega

theorem lexTells_eq (s : List UInt8) (file : Int) (a b : List UInt8) (hs : s.length ≤ 1099511627776) (ha : a.length ≤ 1099511627776) (hb : b.length ≤ 1099511627776) : prelaw3_LexTells s file a b = some true := by
  obtain ⟨s1, s2, s3⟩ := toksV_small file s
  unfold prelaw3_LexTells
  rw [ltokens_eq _ _ hs, rtokens_eq _ _ hs]
  simp only [Option.bind_some]
  generalize hr : toksV file s = r at s1 s2 s3
  have hsm : ∀ t ∈ r.1, smallT t := fun t ht => by
    obtain ⟨_, h2, h3⟩ := s2 t ht
    unfold smallT; rw [h2, h3]; simp
  have htx : ∀ t ∈ r.1, t.Text.length ≤ 1048576 := fun t ht => by have := (s2 t ht).1; omega
  rw [sameTokens_refl r.1 (by omega) hsm]
  have e1 : (!(eqI r.2.Err r.2.Err && (eqI r.2.File r.2.File && eqI r.2.At r.2.At))) = false := by simp [eqI]
  rw [e1, lname_eq a ha, rname_eq a ha, ljoin_eq r.1 (by omega) htx, rjoin_eq r.1 (by omega) htx]
  have ee : ∀ x : Bool, (!eqB x x) = false := fun x => by cases x <;> rfl
  have es : ∀ x : List UInt8, (!eqS x x) = false := fun x => by simp [eqS]
  simp only [Option.bind_some, ee, es, Bool.not_true, Bool.false_eq_true, if_false]
  have last : loopO (prelaw3_LexTells_b6 a r (r.1.length : Int)) ((a.length : Int), 0) = some true := by
    have := idx_loop (b := prelaw3_LexTells_b6 a r (r.1.length : Int)) a.length (fun _ => true) false true (fun j hj => ?_)
    · rw [this]; simp
    · simp only [prelaw3_LexTells_b6, prelaw3_LexTells_j7, ltI, decide_eq_true_eq, Int.toNat_natCast, inrO, letter_eq, digit_eq, rletter_eq, rdigit_eq, Option.bind_some, ee]
      by_cases h : j < a.length
      · have h1 : (0 : Int) ≤ j ∧ j < a.length := by omega
        rw [if_pos (by omega), if_pos h1, if_pos h1, if_pos h, wN1 j (by omega)]
        simp [h1]
      · rw [if_neg (by omega), if_neg h]
        simp [eqI]
  have signs : loopO (prelaw3_LexTells_b5 a r (r.1.length : Int) signsL) ((signsL.length : Int), 0) = some true := by
    have hlen : signsL.length = 48 := rfl
    have := idx_loop (b := prelaw3_LexTells_b5 a r (r.1.length : Int) signsL) signsL.length (fun _ => true) false true (fun j hj => ?_)
    · rw [this]; simp
    · simp only [prelaw3_LexTells_b5, ltI, decide_eq_true_eq, Int.toNat_natCast, inrO, rsigns, Option.bind_some, last]
      by_cases h : j < signsL.length
      · have h1 : (0 : Int) ≤ j ∧ j < signsL.length := by omega
        rw [if_pos (by omega), if_pos h1, if_pos h1, if_pos h, wN1 j (by omega)]
        simp only [es, Bool.false_eq_true, if_false, if_true]
      · rw [if_neg (by omega), if_neg h]; rfl
  obtain ⟨f1, f2⟩ := linesV_ok r.1 s3
  have fin : prelaw3_LexTells_j1 a r false = some true := by
    unfold prelaw3_LexTells_j1
    show (if _ then _ else _) = _
    rw [if_neg (by decide), lines_eqV _ (by omega)]
    simp only [Option.bind_some]
    generalize linesV r.1 = L at f1 f2
    have hL : L.length ≤ 3000 := by
      have : L.length ≤ L.flatten.length := by
        clear f1
        induction L with
        | nil => simp
        | cons m L ih =>
          obtain ⟨t, rr, rfl, _⟩ := f2 m (by simp)
          have := ih (fun x hx => f2 x (by simp [hx]))
          simp only [List.flatten_cons, List.length_append, List.length_cons]; omega
      rw [f1] at this; omega
    have := fold_loop (b := prelaw3_LexTells_b2 a r L) L.length (fun j => (((L.take j).flatten.length : Nat) : Int)) true (fun j hj => ?_) ?_
    · simp only [List.take_zero, List.flatten_nil, List.length_nil] at this
      exact this
    · obtain ⟨c1, c2⟩ := flat_cut L j hj
      rw [f1] at c1 c2
      have hm : L.getD j default ∈ L := by rw [List.getD_eq_getElem?_getD, List.getElem?_eq_getElem hj]; exact List.getElem_mem hj
      obtain ⟨t, rr, ht, hf, hrr⟩ := f2 _ hm
      have hlen : (L.getD j default).length = rr.length + 1 := by rw [ht]; rfl
      have hsub : ∀ x ∈ L.getD j default, x ∈ r.1 := fun x hx => by rw [← f1]; exact List.mem_flatten.2 ⟨_, hm, hx⟩
      rw [flat_takeL L j hj, List.length_append]
      generalize hn : (L.take j).flatten.length = n at *
      simp only [prelaw3_LexTells_b2, ltI, leI, eqI, decide_eq_true_eq, Int.toNat_natCast]
      rw [if_pos (by omega), if_pos (show (0 : Int) ≤ (j : Int) ∧ j < L.length by omega), if_neg (by omega), if_neg (by omega)]
      rw [show IntKind.i64.wrap ((n : Int) + ((L.getD j default).length : Int)) = ((n + (L.getD j default).length : Nat) : Int) by rw [wr _ (by omega)]; omega]
      rw [if_neg (show ¬ (r.1.length : Int) < ((n + (L.getD j default).length : Nat) : Int) by omega)]
      rw [if_pos (by omega), Int.toNat_natCast, show n + (L.getD j default).length - n = (L.getD j default).length by omega, c1]
      rw [sameTokens_refl _ (by omega) (fun x hx => hsm x (hsub x hx))]
      simp only [Option.bind_some, Bool.not_true, Bool.false_eq_true, if_false]
      rw [if_pos (by omega), ht]
      have h0 : (t :: rr).getD 0 default = t := rfl
      rw [h0, hf]
      simp only [prelaw3_LexTells_j3, Bool.not_true, Bool.false_eq_true, if_false, List.drop_succ_cons, List.drop_zero]
      rw [if_pos (by simp; omega)]
      have inner := fold_loop (b := prelaw3_LexTells_b4 (n : Int) (L.length : Int) (j : Int) (t :: rr)) rr.length (fun _ => rr) (.inl (((n + (t :: rr).length : Nat) : Int), (L.length : Int), ((j + 1 : Nat) : Int))) (fun i hi => ?_) ?_
      · rw [inner]
      · have hmem : rr.getD i default ∈ rr := by rw [List.getD_eq_getElem?_getD, List.getElem?_eq_getElem hi]; exact List.getElem_mem hi
        simp only [prelaw3_LexTells_b4, ltI, decide_eq_true_eq, Int.toNat_natCast, hrr _ hmem]
        rw [if_pos (by omega), if_pos (by omega), if_neg (by decide), wN1 i (by omega)]
      · simp only [prelaw3_LexTells_b4, ltI, decide_eq_true_eq, inrO]
        rw [if_neg (by omega), wN1 j (by omega), ← ht]
        rw [show IntKind.i64.wrap ((n : Int) + ((L.getD j default).length : Int)) = ((n + (L.getD j default).length : Nat) : Int) by rw [wr _ (by omega)]; omega]
        rfl
    · rw [List.take_length, f1]
      simp only [prelaw3_LexTells_b2, ltI, decide_eq_true_eq, inrO, lsigns, rsigns, Option.bind_some, eqI]
      rw [if_neg (by omega), signs]
      simp
  by_cases hab : a.length + b.length < 100
  · rw [if_pos (by rw [ltI_iff, wr _ (by omega)]; simp; omega), lsticks_eq a b (by omega), rsticks_eq a b (by omega)]
    simp only [Option.bind_some, ee, Bool.false_eq_true, if_false]
    exact fin
  · rw [if_neg (by rw [ltI_iff, wr _ (by omega)]; simp; omega)]
    exact fin
end Go.Proofs.Ytgkacglpjmndbaa
