/- OriginTells: what its functions of data answer. Plain. Written by mkre.py. -/
import Derived.Test.YtgkacglpjmndbaaRb
import Derived.Test.YtgkacglpjmndbaaQh
namespace Go.Proofs.Ytgkacglpjmndbaa
open Go.RowKit

def txt (l : List Source) (f : Int) : List UInt8 := (l.getD f.toNat default).Text
def okS (l : List Source) (t : Token) : Prop := t.Made = 0 ∧ 0 ≤ t.File ∧ t.File < (l.length : Int) ∧ 0 ≤ t.At ∧ t.At ≤ t.End ∧ t.End ≤ ((txt l t.File).length : Int)
instance (l : List Source) (t : Token) : Decidable (okS l t) := by unfold okS; infer_instance
def cutS (l : List Source) (t : Token) : List UInt8 := ((txt l t.File).drop t.At.toNat).take (t.End.toNat - t.At.toNat)
def spanV (l : List Source) (t : Token) : List UInt8 × Bool := if okS l t then (spText (cutS l t), true) else ([], false)

theorem ospan_eq (l : List Source) (t : Token) (hl : ∀ f, (txt l f).length ≤ 1099511627776) : origin_Span l t = some (spanV l t) := by
  have fin : ¬ okS l t → origin_Span_j1 l t true = some (spanV l t) := fun h => by simp [origin_Span_j1, spanV, h]
  have hf := hl t.File
  unfold origin_Span
  simp only [eqI, ltI, leI, decide_eq_true_eq, Bool.not_eq_true', decide_eq_false_iff_not]
  split
  · rename_i h1; exact fin (fun h => h1 h.1)
  rename_i h1
  split
  · exact fin (fun h => by have := h.2.1; omega)
  split
  · exact fin (fun h => by have := h.2.2.1; omega)
  split
  · exact fin (fun h => by have := h.2.2.2.1; omega)
  split
  · exact fin (fun h => by have := h.2.2.2.2.1; omega)
  rw [if_pos (by omega)]
  by_cases h6 : ((l.getD t.File.toNat default).Text.length : Int) < t.End
  · rw [decide_eq_true h6]
    exact fin (fun h => by have := h.2.2.2.2.2; unfold txt at this; omega)
  · rw [decide_eq_false h6]
    have ok : okS l t := ⟨by simpa using h1, by omega, by omega, by omega, by omega, by unfold txt; omega⟩
    simp only [origin_Span_j1, Bool.false_eq_true, if_false]
    unfold txt at hf
    rw [if_pos (by omega), if_pos (by omega), text_eq _ (by simp; omega)]
    simp only [Option.bind_some, spanV, ok, if_true, cutS, txt, spS]

theorem rspan_eq (l : List Source) (t : Token) (hl : ∀ f, (txt l f).length ≤ 1099511627776) : preref7_Span l t = some (spanV l t) := by
  have fin : ¬ okS l t → preref7_Span_j1 l t true = some (spanV l t) := fun h => by simp [preref7_Span_j1, spanV, h]
  have hf := hl t.File
  unfold preref7_Span
  simp only [eqI, ltI, leI, decide_eq_true_eq, Bool.not_eq_true', decide_eq_false_iff_not]
  split
  · rename_i h1; exact fin (fun h => h1 h.1)
  rename_i h1
  split
  · exact fin (fun h => by have := h.2.1; omega)
  split
  · exact fin (fun h => by have := h.2.2.1; omega)
  split
  · exact fin (fun h => by have := h.2.2.2.1; omega)
  split
  · exact fin (fun h => by have := h.2.2.2.2.1; omega)
  rw [if_pos (by omega)]
  by_cases h6 : ((l.getD t.File.toNat default).Text.length : Int) < t.End
  · rw [decide_eq_true h6]
    exact fin (fun h => by have := h.2.2.2.2.2; unfold txt at this; omega)
  · rw [decide_eq_false h6]
    have ok : okS l t := ⟨by simpa using h1, by omega, by omega, by omega, by omega, by unfold txt; omega⟩
    simp only [preref7_Span_j1, Bool.false_eq_true, if_false]
    unfold txt at hf
    rw [if_pos (by omega), if_pos (by omega), rsplice_eq _ (by simp; omega)]
    simp only [Option.bind_some, spanV, ok, if_true, cutS, txt, spS]

/-! A name that begins a joined text. -/
theorem sp_cut : ∀ (l : List UInt8) (k i m : Nat), (m = 0 ∨ ∃ p ∈ sp k i l, p.2 + 1 = i + m) → sp k i (l.take m) = (sp k i l).filter (fun p => decide (p.2 < i + m))
  | [], k, i, m, _ => by cases k <;> cases m <;> simp [sp]
  | c :: r, k, i, 0, _ => by
    have hf := sp_facts (c :: r) k i
    rw [List.take_zero, List.filter_eq_nil_iff.2 (fun p hp => by have := (hf.1 p hp).1; simp; omega)]
    cases k <;> rfl
  | c :: r, k, i, m + 1, h => by
    obtain ⟨p, hp, hpm⟩ := h.resolve_left (by omega)
    have tail : ∀ k, p ∈ sp k (i + 1) r → sp k (i + 1) (r.take m) = (sp k (i + 1) r).filter (fun q => decide (q.2 < i + (m + 1))) := fun k hk => by
      have h1 := (sp_facts r k (i + 1)).1 p hk
      rw [sp_cut r k (i + 1) m (.inr ⟨p, hk, by omega⟩)]
      congr 1
      funext q
      congr 1
      rw [show i + 1 + m = i + (m + 1) by omega]
    cases k with
    | succ k =>
      simp only [sp, List.take_succ_cons] at hp ⊢
      exact tail k hp
    | zero =>
      have hjt : ∀ j, 0 < j → joinsN (c :: r) = j → p ∈ sp (j - 1) (i + 1) r → joinsN (c :: r.take m) = j := fun j hj0 hj hpj => by
        -- the last one that is kept stands behind what joins
        have hle := joinsN_le (c :: r)
        rw [hj] at hle
        have hsk := sp_skip (j - 1) (i + 1) r (by simp at hle; omega)
        rw [hsk] at hpj
        have := (sp_facts _ _ _).1 p hpj
        have hm : j ≤ m := by omega
        have e2 : (c :: r.take m).take 2 = (c :: r).take 2 ∨ m < 1 := by
          by_cases hm1 : m < 1
          · exact .inr hm1
          · left; simp only [List.take_succ_cons, List.take_take]; rw [Nat.min_eq_left (by omega)]
        unfold joinsN at hj ⊢
        have e2 := e2.resolve_right (by omega)
        rw [e2]
        split at hj
        · rename_i h2; rw [if_pos h2]; exact hj
        · rename_i h2
          rw [if_neg h2]
          split at hj
          · rename_i h3
            have e3 : (c :: r.take m).take 3 = (c :: r).take 3 := by
              simp only [List.take_succ_cons, List.take_take]; rw [Nat.min_eq_left (by omega)]
            rw [e3, if_pos h3]; exact hj
          · omega
      have hj0 : joinsN (c :: r) = 0 → joinsN (c :: r.take m) = 0 := fun hj => by
        unfold joinsN at hj ⊢
        split at hj
        · omega
        · rename_i h2
          split at hj
          · omega
          · rename_i h3
            rw [if_neg, if_neg]
            · intro h
              apply h3
              have hl := take_len h
              simp at hl
              simp only [List.take_succ_cons, List.take_take] at h ⊢
              rwa [Nat.min_eq_left (by omega)] at h
            · intro h
              apply h2
              have hl := take_len h
              simp at hl
              simp only [List.take_succ_cons, List.take_take] at h ⊢
              rwa [Nat.min_eq_left (by omega)] at h
      simp only [sp, List.take_succ_cons] at hp ⊢
      by_cases hj : joinsN (c :: r) > 0
      · rw [if_pos hj] at hp
        have hj' := hjt _ hj rfl hp
        rw [if_pos hj, hj', if_pos hj]
        exact tail _ hp
      · rw [if_neg hj] at hp
        have hj' := hj0 (by omega)
        rw [if_neg hj, hj', if_neg (by omega)]
        by_cases hc : c = 13 ∧ r.head? = some 10
        · rw [if_pos hc] at hp
          have hm : 0 < m := by
            have := (sp_facts r 0 (i + 1)).1 p hp
            omega
          have hc' : c = 13 ∧ (r.take m).head? = some 10 := ⟨hc.1, by rw [List.head?_take, if_neg (by omega)]; exact hc.2⟩
          rw [if_pos hc, if_pos hc']
          exact tail _ hp
        · rw [if_neg hc] at hp
          have hc' : ¬ (c = 13 ∧ (r.take m).head? = some 10) := fun h => hc ⟨h.1, by
            have := h.2
            rw [List.head?_take] at this
            split at this
            · cases this
            · exact this⟩
          rw [if_neg hc, if_neg hc', List.filter_cons, if_pos (by simp)]
          congr 1
          rcases List.mem_cons.1 hp with rfl | hp
          · have : m = 0 := by omega
            subst this
            rw [List.take_zero]
            have hf := sp_facts r 0 (i + 1)
            rw [List.filter_eq_nil_iff.2 (fun q hq => by have := (hf.1 q hq).1; simp; omega)]
            rfl
          · exact tail _ hp

theorem rises_filter {A : List Nat} (hr : rises A) (j : Nat) (hj : j < A.length) : A.filter (fun a => decide (a < A.getD j 0 + 1)) = A.take (j + 1) := by
  have h1 : A.take (j + 1) ++ A.drop (j + 1) = A := List.take_append_drop _ _
  have e : (A.take (j + 1) ++ A.drop (j + 1)).filter (fun a => decide (a < A.getD j 0 + 1)) = A.take (j + 1) := by
    rw [List.filter_append, List.filter_eq_self.2, List.filter_eq_nil_iff.2, List.append_nil]
    · intro a ha
      obtain ⟨k, hk, rfl⟩ := List.mem_iff_getElem.1 ha
      simp only [List.length_drop] at hk
      rw [List.getElem_drop]
      have := rises_lt hr (i := j) (j := j + 1 + k) (by omega) (by omega)
      simp only [decide_eq_true_eq]
      rw [List.getD_eq_getElem?_getD, List.getD_eq_getElem?_getD, List.getElem?_eq_getElem (by omega : j + 1 + k < A.length)] at this
      simp at this ⊢
      omega
    · intro a ha
      obtain ⟨k, hk, rfl⟩ := List.mem_iff_getElem.1 ha
      simp only [List.length_take] at hk
      rw [List.getElem_take]
      simp only [decide_eq_true_eq]
      have hkl : k < A.length := by omega
      have hg : A.getD k 0 = A[k] := by simp [List.getD_eq_getElem?_getD, List.getElem?_eq_getElem hkl]
      rw [← hg]
      by_cases hkj : k = j
      · subst hkj; omega
      · have := rises_lt hr (i := k) (j := j) (by omega) (by omega)
        omega
  rwa [h1] at e


theorem spText_cut (l : List UInt8) (n : Nat) (h0 : 0 < n) (h : n ≤ (spText l).length) : spText (l.take ((spPos l).getD (n - 1) 0 + 1)) = (spText l).take n := by
  have hlen : n - 1 < (spAt l 0).length := by simp [spText] at h; omega
  have hpos : (spPos l).getD (n - 1) 0 = (spAt l 0)[n - 1].2 := by
    unfold spPos
    rw [List.getD_eq_getElem?_getD, List.getElem?_append_left (by simpa using hlen)]
    simp [hlen]
  have hm : (spAt l 0)[n - 1] ∈ sp 0 0 l := by
    exact List.getElem_mem hlen
  generalize hp : (spPos l).getD (n - 1) 0 = p at hpos
  have hc := sp_cut l 0 0 (p + 1) (.inr ⟨_, hm, by omega⟩)
  have hr : ((spAt l 0).map (·.2)).Pairwise (· < ·) := (sp_facts l 0 0).2.1
  have hf := rises_filter (A := (spAt l 0).map (·.2)) (show rises ((spAt l 0).map (fun p => p.2)) from hr) (n - 1) (by simpa using hlen)
  have hg : ((spAt l 0).map (·.2)).getD (n - 1) 0 = p := by
    rw [List.getD_eq_getElem?_getD, List.getElem?_map, List.getElem?_eq_getElem hlen]; simp [hpos]
  rw [hg] at hf
  have key : (spAt l 0).filter (fun q => decide (q.2 < p + 1)) = (spAt l 0).take n := by
    have e1 : ((spAt l 0).filter (fun q => decide (q.2 < p + 1))).map (·.2) = ((spAt l 0).take n).map (·.2) := by
      rw [List.map_take, show n = n - 1 + 1 by omega, ← hf, List.filter_map]
      rfl
    have hnd : ((spAt l 0).filter (fun q => decide (q.2 < p + 1))).Sublist (spAt l 0) := List.filter_sublist
    have hl : ((spAt l 0).filter (fun q => decide (q.2 < p + 1))).length = n := by
      have := congrArg List.length e1
      simp at this
      omega
    -- a part of a list that ends where it does
    have hpre : ∀ (L : List (UInt8 × Nat)) (k : Nat), (L.map (·.2)).Pairwise (· < ·) → k < L.length → L.filter (fun q => decide (q.2 < (L.getD k (0, 0)).2 + 1)) = L.take (k + 1) := fun L k hL hk => by
      induction L generalizing k with
      | nil => simp at hk
      | cons a L ih =>
        rw [List.map_cons, List.pairwise_cons] at hL
        cases k with
        | zero =>
          rw [List.getD_cons_zero, List.filter_cons, if_pos (by simp), List.filter_eq_nil_iff.2]
          · rfl
          · intro q hq
            have := hL.1 q.2 (List.mem_map.2 ⟨q, hq, rfl⟩)
            simp; omega
        | succ k =>
          have hk' : k < L.length := by simpa using hk
          have ha := hL.1 (L.getD k (0, 0)).2 (List.mem_map.2 ⟨_, by rw [List.getD_eq_getElem?_getD, List.getElem?_eq_getElem hk']; simp, rfl⟩)
          rw [List.getD_cons_succ, List.filter_cons, if_pos (by rw [decide_eq_true_eq]; omega), ih k hL.2 hk', List.take_succ_cons]
    have := hpre (spAt l 0) (n - 1) hr hlen
    rw [show n - 1 + 1 = n by omega] at this
    rw [← this]
    congr 1
    funext q
    rw [List.getD_eq_getElem?_getD, List.getElem?_eq_getElem hlen]
    simp [hpos]
  have e : sp 0 0 (l.take (p + 1)) = (spAt l 0).take n := by
    rw [hc, ← key]
    simp [spAt]
  unfold spText
  rw [← List.map_take, ← e]
  simp [spAt]

end Go.Proofs.Ytgkacglpjmndbaa
