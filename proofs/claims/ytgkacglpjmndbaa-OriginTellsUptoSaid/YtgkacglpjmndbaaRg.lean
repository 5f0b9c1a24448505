/- OriginTells: the statement answers true. Plain. -/
import Derived.Test.YtgkacglpjmndbaaRf
namespace Go.Proofs.Ytgkacglpjmndbaa
open Go.RowKit

def idx (p : Token → Bool) (ts : List Token) (i : Nat) : List Int := ((List.range i).filter (fun k => p (ts.getD k default))).map (fun k => ((k : Nat) : Int))
theorem idx_len (p : Token → Bool) (ts : List Token) (i : Nat) : (idx p ts i).length ≤ i := by
  unfold idx
  rw [List.length_map]
  exact Nat.le_trans (List.length_filter_le _ _) (by rw [List.length_range]; exact Nat.le_refl _)
theorem idx_yes (p : Token → Bool) (ts : List Token) (i : Nat) (h : p (ts.getD i default) = true) : idx p ts (i + 1) = idx p ts i ++ [(i : Int)] := by
  unfold idx
  rw [List.range_succ, List.filter_append, List.map_append, List.filter_cons, if_pos h]
  rfl
theorem idx_no (p : Token → Bool) (ts : List Token) (i : Nat) (h : p (ts.getD i default) = false) : idx p ts (i + 1) = idx p ts i := by
  unfold idx
  rw [List.range_succ, List.filter_append, List.filter_cons, if_neg (by rw [h]; decide), List.filter_nil, List.append_nil]

def atP (f a : Int) (t : Token) : Bool := decide (t.Made = 0 ∧ t.File = f ∧ t.At ≤ a ∧ a < t.End)
def hereP (t : Token) : Bool := decide (t.Calls.length = 0)
def invA (p : Token → Bool) (ts : List Token) (s : List Int × Int × Int) : Prop := ∃ i : Nat, s = (idx p ts i, (ts.length : Int), (i : Int)) ∧ i ≤ ts.length

theorem at_eq (ts : List Token) (f a : Int) (hl : ts.length ≤ 1099511627776) : origin_At ts f a = some (idx (atP f a) ts ts.length) := by
  unfold origin_At
  obtain ⟨r, h1, h2⟩ := loopO_go (b := origin_At_b1 ts f a) (invA (atP f a) ts) (fun s => ts.length - s.2.2.toNat) (fun r => r = idx (atP f a) ts ts.length) (by
    rintro _ ⟨i, rfl, hi⟩
    simp only [origin_At_b1, origin_At_j2, origin_At_j3, ltI, eqI, leI, decide_eq_true_eq, Int.toNat_natCast]
    by_cases hil : i < ts.length
    · rw [if_pos (by omega), if_pos (by omega), wr ((i : Int) + 1) (by omega)]
      have hlen := idx_len (atP f a) ts i
      have yes : atP f a (ts.getD i default) = true → ∃ o, (some (.inl (idx (atP f a) ts i ++ [(i : Int)], (ts.length : Int), (i : Int) + 1)) : Option ((List Int × Int × Int) ⊕ List Int)) = some o ∧ Nxt (invA (atP f a) ts) (fun s => ts.length - s.2.2.toNat) (fun r => r = idx (atP f a) ts ts.length) (ts.length - i) o := fun h =>
        ⟨_, rfl, ⟨i + 1, by rw [idx_yes _ _ _ h]; rfl, by omega⟩, by simp; omega⟩
      have no : atP f a (ts.getD i default) = false → ∃ o, (some (.inl (idx (atP f a) ts i, (ts.length : Int), (i : Int) + 1)) : Option ((List Int × Int × Int) ⊕ List Int)) = some o ∧ Nxt (invA (atP f a) ts) (fun s => ts.length - s.2.2.toNat) (fun r => r = idx (atP f a) ts ts.length) (ts.length - i) o := fun h =>
        ⟨_, rfl, ⟨i + 1, by rw [idx_no _ _ _ h]; rfl, by omega⟩, by simp; omega⟩
      have hsz : (List.length (idx (atP f a) ts i) + [(i : Int)].length) * 8 ≤ 140737488355328 := by simp only [List.length_cons, List.length_nil]; omega
      simp only [hsz, if_true]
      by_cases g1 : (ts.getD i default).Made = 0
      · by_cases g2 : (ts.getD i default).File = f
        · by_cases g3 : (ts.getD i default).At ≤ a
          · by_cases g4 : a < (ts.getD i default).End
            · rw [if_pos g1, if_pos g2, if_pos g3, if_pos g4]; exact yes (decide_eq_true ⟨g1, g2, g3, g4⟩)
            · rw [if_pos g1, if_pos g2, if_pos g3, if_neg g4]; exact no (decide_eq_false (fun h => g4 h.2.2.2))
          · rw [if_pos g1, if_pos g2, if_neg g3]; exact no (decide_eq_false (fun h => g3 h.2.2.1))
        · rw [if_pos g1, if_neg g2]; exact no (decide_eq_false (fun h => g2 h.2.1))
      · rw [if_neg g1]; exact no (decide_eq_false (fun h => g1 h.1))
    · have : i = ts.length := by omega
      subst this
      rw [if_neg (by omega)]
      exact ⟨_, rfl, rfl⟩) (([] : List Int), (ts.length : Int), 0) ⟨0, rfl, by omega⟩
  rw [h1, h2]

theorem here_eq (ts : List Token) (hl : ts.length ≤ 1099511627776) : origin_Here ts = some (idx hereP ts ts.length) := by
  unfold origin_Here
  obtain ⟨r, h1, h2⟩ := loopO_go (b := origin_Here_b1 ts) (invA hereP ts) (fun s => ts.length - s.2.2.toNat) (fun r => r = idx hereP ts ts.length) (by
    rintro _ ⟨i, rfl, hi⟩
    simp only [origin_Here_b1, origin_Here_j2, ltI, eqI, decide_eq_true_eq, Int.toNat_natCast]
    by_cases hil : i < ts.length
    · rw [if_pos (by omega), if_pos (by omega), wr ((i : Int) + 1) (by omega)]
      have hlen := idx_len hereP ts i
      have hsz : (List.length (idx hereP ts i) + [(i : Int)].length) * 8 ≤ 140737488355328 := by simp only [List.length_cons, List.length_nil]; omega
      simp only [hsz, if_true]
      by_cases g1 : (ts.getD i default).Calls.length = 0
      · rw [if_pos (by omega)]
        exact ⟨_, rfl, ⟨i + 1, by rw [idx_yes _ _ _ (decide_eq_true g1)]; rfl, by omega⟩, by simp; omega⟩
      · rw [if_neg (by omega)]
        exact ⟨_, rfl, ⟨i + 1, by rw [idx_no _ _ _ (decide_eq_false g1)]; rfl, by omega⟩, by simp; omega⟩
    · have : i = ts.length := by omega
      subst this
      rw [if_neg (by omega)]
      exact ⟨_, rfl, rfl⟩) (([] : List Int), (ts.length : Int), 0) ⟨0, rfl, by omega⟩
  rw [h1, h2]

theorem same8_eq (A : List Int) (hl : A.length ≤ 1099511627776) : prelaw8_same A A = some true := by
  unfold prelaw8_same
  rw [if_neg (by simp [eqI])]
  obtain ⟨r, h1, h2⟩ := loopO_go (b := prelaw8_same_b1 A A) (fun s => ∃ i : Nat, s = ((A.length : Int), (i : Int)) ∧ i ≤ A.length) (fun s => A.length - s.2.toNat) (fun r => r = true) (by
    rintro _ ⟨i, rfl, hi⟩
    simp only [prelaw8_same_b1, ltI, decide_eq_true_eq, Int.toNat_natCast]
    by_cases hil : i < A.length
    · rw [if_pos (by omega), if_pos (by omega), if_pos (by omega), if_neg (by simp [eqI]), wr _ (by omega)]
      exact ⟨_, rfl, ⟨i + 1, by simp, by omega⟩, by simp <;> omega⟩
    · rw [if_neg (by omega)]
      exact ⟨_, rfl, rfl⟩) ((A.length : Int), 0) ⟨0, by simp, by omega⟩
  rw [h1, h2]

theorem outer_eq (t : Token) : origin_Outer t = some (if 0 < t.Calls.length then ((t.Calls.getD 0 default).File, (t.Calls.getD 0 default).At) else (t.File, t.At)) := by
  unfold origin_Outer
  simp only [ltI, decide_eq_true_eq]
  by_cases h : 0 < t.Calls.length
  · simp only [h, if_true]; rw [if_pos (by omega)]
  · simp only [h, if_false]; rw [if_neg (by omega)]

def invT (f a : Int) (ts : List Token) (s : List Int × List Int × Int × Int) : Prop := ∃ i : Nat, s = (idx (atP f a) ts i, idx hereP ts i, (ts.length : Int), (i : Int)) ∧ i ≤ ts.length

theorem origin_tells (l : List Source) (ts : List Token) (f a : Int) (hl : ∀ f, (txt l f).length ≤ 1099511627776) (ht : ts.length ≤ 1099511627776)
    (hc : ∀ t ∈ ts, t.Calls.length ≤ 1099511627776 ∧ ∀ c ∈ t.Calls, c.Name.length ≤ 1099511627776) : prelaw8_OriginTells l ts f a = some true := by
  unfold prelaw8_OriginTells
  obtain ⟨r, h1, h2⟩ := loopO_go (b := prelaw8_OriginTells_b1 l ts f a) (invT f a ts) (fun s => ts.length - s.2.2.2.toNat) (fun r => r = true) (by
    rintro _ ⟨i, rfl, hi⟩
    simp only [prelaw8_OriginTells_b1, ltI, decide_eq_true_eq, Int.toNat_natCast]
    by_cases hil : i < ts.length
    · rw [if_pos (by omega), if_pos (by omega)]
      have hm : ts.getD i default ∈ ts := by rw [List.getD_eq_getElem?_getD, List.getElem?_eq_getElem hil]; simp
      have hcm := hc _ hm
      have n1 := idx_len (atP f a) ts i
      have n2 := idx_len hereP ts i
      have sz1 : (List.length (idx (atP f a) ts i) + [(i : Int)].length) * 8 ≤ 140737488355328 := by simp only [List.length_cons, List.length_nil]; omega
      have sz2 : (List.length (idx hereP ts i) + [(i : Int)].length) * 8 ≤ 140737488355328 := by simp only [List.length_cons, List.length_nil]; omega
      have w : IntKind.i64.wrap ((i : Int) + 1) = (i : Int) + 1 := wr _ (by omega)
      have go : ∃ o, (some (.inl (idx (atP f a) ts (i + 1), idx hereP ts (i + 1), (ts.length : Int), (i : Int) + 1)) : Option ((List Int × List Int × Int × Int) ⊕ Bool)) = some o ∧ Nxt (invT f a ts) (fun s => ts.length - s.2.2.2.toNat) (fun r => r = true) (ts.length - i) o :=
        ⟨_, rfl, ⟨i + 1, rfl, by omega⟩, by simp; omega⟩
      have ya := idx_yes (atP f a) ts i
      have na := idx_no (atP f a) ts i
      have yh := idx_yes hereP ts i
      have nh := idx_no hereP ts i
      generalize idx (atP f a) ts i = A at *
      generalize idx hereP ts i = B at *
      generalize idx (atP f a) ts (i + 1) = A' at *
      generalize idx hereP ts (i + 1) = B' at *
      obtain ⟨t, htd⟩ : ∃ t, ts.getD i default = t := ⟨_, rfl⟩
      simp only [htd] at hcm ya na yh nh ⊢
      rw [ospan_eq l t hl, Option.bind_some, rspan_eq l t hl, Option.bind_some, oright_eq l t hl hcm.1 hcm.2, Option.bind_some, rright_eq l t hl hcm.1, Option.bind_some, if_neg (by simp [eqS]), if_neg (by simp [eqB])]
      simp only [prelaw8_OriginTells_j3, eqB, decide_true, Bool.not_true, Bool.false_eq_true, if_false]
      rw [outer_eq, Option.bind_some]
      have j6 : ∃ o, (if atP f a t = true then prelaw8_OriginTells_j6 A (ts.length : Int) (i : Int) B' true else prelaw8_OriginTells_j6 A (ts.length : Int) (i : Int) B' false) = some o ∧ Nxt (invT f a ts) (fun s => ts.length - s.2.2.2.toNat) (fun r => r = true) (ts.length - i) o := by
        simp only [prelaw8_OriginTells_j6, prelaw8_OriginTells_j2, if_true, Bool.false_eq_true, if_false, sz1, w]
        by_cases h : atP f a t = true
        · rw [if_pos h, ← ya h]; exact go
        · rw [if_neg h, ← na (by simpa using h)]; exact go
      have j5 : ∃ o, prelaw8_OriginTells_j5 f a A (ts.length : Int) (i : Int) t.File t.At t.End t.Made B' false = some o ∧ Nxt (invT f a ts) (fun s => ts.length - s.2.2.2.toNat) (fun r => r = true) (ts.length - i) o := by
        clear go ya na yh nh
        simp only [prelaw8_OriginTells_j5, eqI, leI, ltI, decide_eq_true_eq, Bool.false_eq_true, if_false]
        by_cases g1 : t.Made = 0
        · by_cases g2 : t.File = f
          · by_cases g3 : t.At ≤ a
            · by_cases g4 : a < t.End
              · rw [if_pos (show atP f a t = true from decide_eq_true ⟨g1, g2, g3, g4⟩)] at j6; rw [if_pos g1, if_pos g2, if_pos g3, decide_eq_true g4]; exact j6
              · rw [if_neg (show ¬ atP f a t = true by unfold atP; simp [g4])] at j6; rw [if_pos g1, if_pos g2, if_pos g3, decide_eq_false g4]; exact j6
            · rw [if_neg (show ¬ atP f a t = true by unfold atP; simp [g3])] at j6; rw [if_pos g1, if_pos g2, if_neg g3]; exact j6
          · rw [if_neg (show ¬ atP f a t = true by unfold atP; simp [g2])] at j6; rw [if_pos g1, if_neg g2]; exact j6
        · rw [if_neg (show ¬ atP f a t = true by unfold atP; simp [g1])] at j6; rw [if_neg g1]; exact j6
      simp only [ltI, decide_eq_true_eq]
      by_cases h : 0 < t.Calls.length
      · rw [if_pos (by omega)]
        simp only [h, if_true, prelaw8_OriginTells_j4, eqI, decide_true, Bool.not_true, Bool.false_eq_true, if_false]
        rw [← nh (decide_eq_false (by omega))]
        exact j5
      · rw [if_neg (by omega)]
        simp only [h, if_false, prelaw8_OriginTells_j4, eqI, decide_true, Bool.not_true, Bool.false_eq_true, sz2, if_true]
        rw [← yh (decide_eq_true (by omega))]
        exact j5
    · have : i = ts.length := by omega
      subst this
      have m1 := idx_len (atP f a) ts ts.length
      have m2 := idx_len hereP ts ts.length
      rw [if_neg (by omega), at_eq ts f a ht, Option.bind_some, same8_eq _ (by omega), Option.bind_some, if_pos rfl, here_eq ts ht, Option.bind_some, same8_eq _ (by omega), Option.bind_some]
      exact ⟨_, rfl, rfl⟩) (([] : List Int), ([] : List Int), (ts.length : Int), 0) ⟨0, rfl, by omega⟩
  rw [h1, h2]

end Go.Proofs.Ytgkacglpjmndbaa
