/- SpliceJoined: what its function of data answers. Plain. -/
import Derived.Test.YtgkacglpjmndbaaRc
namespace Go.Proofs.Ytgkacglpjmndbaa
open Go.RowKit

/-- Bytes that no joining takes away. -/
def other (c : UInt8) : Bool := decide (c ≠ 92) && (decide (c ≠ 13) && decide (c ≠ 10))
def cntN (l : List UInt8) (k : Nat) : Nat := ((l.take k).filter other).length
theorem cntN_succ (l : List UInt8) (k : Nat) (h : k < l.length) : cntN l (k + 1) = cntN l k + if other (l.getD k 0) = true then 1 else 0 := by
  unfold cntN
  rw [List.take_succ_eq_append_getElem h, List.filter_append]
  have : l.getD k 0 = l[k] := by simp [List.getD_eq_getElem?_getD, List.getElem?_eq_getElem h]
  rw [this]
  by_cases h10 : other l[k] = true
  · simp [h10]
  · simp [h10]
theorem cntN_le (l : List UInt8) (k : Nat) : cntN l k ≤ k := by
  unfold cntN
  have h1 := List.length_filter_le other (l.take k)
  have h2 := List.length_take_le k l
  omega

theorem joins_other (c : UInt8) (r : List UInt8) : ∀ d ∈ (c :: r).take (joinsN (c :: r)), other d = false := by
  unfold joinsN
  split
  · rename_i h; rw [h]; decide
  · split
    · rename_i h; rw [h]; decide
    · intro d hd; simp at hd

theorem sp_other : ∀ (l : List UInt8) (k i : Nat), (∀ d ∈ l.take k, other d = false) → ((sp k i l).map (·.1)).filter other = l.filter other
  | [], k, i, _ => by cases k <;> simp [sp]
  | c :: r, k, i, h => by
    cases k with
    | succ k =>
      have hc : other c = false := h c (by simp)
      simp only [sp]
      rw [sp_other r k (i + 1) (fun d hd => h d (by simp [hd])), List.filter_cons, hc]
      simp
    | zero =>
      simp only [sp]
      split
      · rename_i hj
        have hall := joins_other c r
        obtain ⟨m, hm⟩ : ∃ m, joinsN (c :: r) = m + 1 := ⟨joinsN (c :: r) - 1, by omega⟩
        rw [hm, List.take_succ_cons] at hall
        have hc : other c = false := hall c (by simp)
        rw [hm, Nat.add_sub_cancel, sp_other r m (i + 1) (fun d hd => hall d (by simp [hd])), List.filter_cons, hc]
        simp
      · split
        · rename_i hcr
          have hc : other c = false := by rw [hcr.1]; decide
          rw [sp_other r 0 (i + 1) (by simp), List.filter_cons, hc]
          simp
        · rw [List.map_cons, List.filter_cons, List.filter_cons, sp_other r 0 (i + 1) (by simp)]

theorem spText_other (l : List UInt8) : (spText l).filter other = l.filter other := by
  have := sp_other l 0 0 (by simp)
  simpa [spText, spAt] using this
theorem cnt_all (l : List UInt8) : cntN l l.length = (l.filter other).length := by unfold cntN; rw [List.take_length]

/-- No line ends with what joins it and the next one, or with a carriage return. -/
def good (a b : UInt8) : Prop := ¬ (a = 92 ∧ (b = 10 ∨ b = 13)) ∧ ¬ (a = 13 ∧ b = 10)
theorem sp_plain : ∀ (l : List UInt8) (i : Nat), (∀ k, k + 1 < l.length → good (l.getD k 0) (l.getD (k + 1) 0)) → (sp 0 i l).map (·.1) = l
  | [], _, _ => by simp [sp]
  | c :: r, i, h => by
    have ih := sp_plain r (i + 1) (fun k hk => by
      have := h (k + 1) (by simp; omega)
      simpa using this)
    have h0 : ∀ d s, r = d :: s → good c d := fun d s hr => by
      have := h 0 (by rw [hr]; simp)
      rw [hr] at this
      simpa using this
    have hj : joinsN (c :: r) = 0 := by
      unfold joinsN
      split
      · rename_i hx
        match r, hx with
        | d :: s, hx =>
          simp only [List.take_succ_cons, List.take_zero, List.cons.injEq, and_true] at hx
          exact ((h0 d s rfl).1 ⟨hx.1, .inl hx.2⟩).elim
      · split
        · rename_i hx
          match r, hx with
          | d :: s, hx =>
            simp only [List.take_succ_cons, List.cons.injEq] at hx
            exact ((h0 d s rfl).1 ⟨hx.1, .inr hx.2.1⟩).elim
        · rfl
    have hc : ¬ (c = 13 ∧ r.head? = some 10) := by
      rintro ⟨h1, h2⟩
      match r, h2 with
      | d :: s, h2 =>
        simp at h2
        exact (h0 d s rfl).2 ⟨h1, h2⟩
    simp only [sp, hj, gt_iff_lt, Nat.lt_irrefl, if_false, hc, List.map_cons, ih]

theorem joined_b7 (S : Spliced) (n : Nat) (hl : S.Text.length ≤ 1099511627776) (hn : cntN S.Text S.Text.length = n) : loopO (prelaw2_SpliceJoined_b7 S (n : Int)) (0, (S.Text.length : Int), 0) = some true := by
  obtain ⟨r, h1, h2⟩ := loopO_go (b := prelaw2_SpliceJoined_b7 S (n : Int)) (fun s => ∃ i : Nat, s = ((cntN S.Text i : Int), (S.Text.length : Int), (i : Int)) ∧ i ≤ S.Text.length) (fun s => S.Text.length - s.2.2.toNat) (fun r => r = true) (by
    rintro _ ⟨i, rfl, hi⟩
    have hc := cntN_le S.Text i
    simp only [prelaw2_SpliceJoined_b7, ltI, decide_eq_true_eq, Int.toNat_natCast]
    by_cases hil : i < S.Text.length
    · have b0 : (0 : Int) ≤ (i : Int) ∧ i < S.Text.length := by omega
      rw [if_pos (by omega)]
      have c92 : ((S.Text.getD i 0).toNat : Int) = 92 ↔ S.Text.getD i 0 = 92 := u8i _ 92 (by decide)
      have c13 : ((S.Text.getD i 0).toNat : Int) = 13 ↔ S.Text.getD i 0 = 13 := u8i _ 13 (by decide)
      have c10 : ((S.Text.getD i 0).toNat : Int) = 10 ↔ S.Text.getD i 0 = 10 := u8i _ 10 (by decide)
      have hs := cntN_succ S.Text i (by omega)
      have w : IntKind.i64.wrap ((i : Int) + 1) = ((i + 1 : Nat) : Int) := by rw [wr _ (by omega)]; simp
      have w2 : IntKind.i64.wrap ((cntN S.Text i : Int) + 1) = ((cntN S.Text i + 1 : Nat) : Int) := by rw [wr _ (by omega)]; simp
      refine ⟨.inl ((cntN S.Text (i + 1) : Int), (S.Text.length : Int), ((i + 1 : Nat) : Int)), ?_, ⟨i + 1, rfl, by omega⟩, by simp; clear w w2; omega⟩
      rw [hs]
      generalize S.Text.getD i 0 = c at *
      simp only [eqI, c92, c13, c10, if_pos b0, prelaw2_SpliceJoined_j9, prelaw2_SpliceJoined_j8, other, w, w2]
      clear w w2 c92 c13 c10 hs
      by_cases h92 : c = 92
      · subst h92; simp
      · by_cases h13 : c = 13
        · subst h13; simp
        · by_cases h10 : c = 10
          · subst h10; simp
          · simp [h92, h13, h10]
    · have : i = S.Text.length := by omega
      subst this
      rw [if_neg (by omega)]
      rw [hn]
      exact ⟨_, rfl, by simp [eqI, Nxt]⟩) (0, (S.Text.length : Int), 0) ⟨0, by simp [cntN], by omega⟩
  rw [h1, h2]

theorem joined_b4 (l : List UInt8) (S : Spliced) (hl : l.length ≤ 1099511627776) (hS : S.Text.length ≤ 1099511627776) (hn : cntN S.Text S.Text.length = cntN l l.length) : loopO (prelaw2_SpliceJoined_b4 l S) (0, (l.length : Int), 0) = some true := by
  obtain ⟨r, h1, h2⟩ := loopO_go (b := prelaw2_SpliceJoined_b4 l S) (fun s => ∃ i : Nat, s = ((cntN l i : Int), (l.length : Int), (i : Int)) ∧ i ≤ l.length) (fun s => l.length - s.2.2.toNat) (fun r => r = true) (by
    rintro _ ⟨i, rfl, hi⟩
    have hc := cntN_le l i
    simp only [prelaw2_SpliceJoined_b4, ltI, decide_eq_true_eq, Int.toNat_natCast]
    by_cases hil : i < l.length
    · have b0 : (0 : Int) ≤ (i : Int) ∧ i < l.length := by omega
      rw [if_pos (by omega)]
      have c92 : ((l.getD i 0).toNat : Int) = 92 ↔ l.getD i 0 = 92 := u8i _ 92 (by decide)
      have c13 : ((l.getD i 0).toNat : Int) = 13 ↔ l.getD i 0 = 13 := u8i _ 13 (by decide)
      have c10 : ((l.getD i 0).toNat : Int) = 10 ↔ l.getD i 0 = 10 := u8i _ 10 (by decide)
      have hs := cntN_succ l i (by omega)
      have w : IntKind.i64.wrap ((i : Int) + 1) = ((i + 1 : Nat) : Int) := by rw [wr _ (by omega)]; simp
      have w2 : IntKind.i64.wrap ((cntN l i : Int) + 1) = ((cntN l i + 1 : Nat) : Int) := by rw [wr _ (by omega)]; simp
      refine ⟨.inl ((cntN l (i + 1) : Int), (l.length : Int), ((i + 1 : Nat) : Int)), ?_, ⟨i + 1, rfl, by omega⟩, by simp; clear w w2; omega⟩
      rw [hs]
      generalize l.getD i 0 = c at *
      simp only [eqI, c92, c13, c10, if_pos b0, prelaw2_SpliceJoined_j6, prelaw2_SpliceJoined_j5, other, w, w2]
      clear w w2 c92 c13 c10 hs
      by_cases h92 : c = 92
      · subst h92; simp
      · by_cases h13 : c = 13
        · subst h13; simp
        · by_cases h10 : c = 10
          · subst h10; simp
          · simp [h92, h13, h10]
    · have : i = l.length := by omega
      subst this
      rw [if_neg (by omega)]
      rw [joined_b7 S _ hS hn]
      exact ⟨_, rfl, rfl⟩) (0, (l.length : Int), 0) ⟨0, by simp [cntN], by omega⟩
  rw [h1, h2]

theorem joined_b1 (l : List UInt8) (hl : l.length ≤ 1099511627776) (K : Nat) (hK : K = l.length - 1) : loopO (prelaw2_SpliceJoined_b1 l (spS l)) (true, (K : Int), 0) = some true := by
  have j3 : prelaw2_SpliceJoined_j3 l (spS l) false = some true := by
    simp only [prelaw2_SpliceJoined_j3, Bool.false_eq_true, if_false]
    have h := spText_length l
    exact joined_b4 l (spS l) hl (by show (spText l).length ≤ _; omega) (by
      show cntN (spText l) (spText l).length = _
      rw [cnt_all, cnt_all, spText_other])
  obtain ⟨r, h1, h2⟩ := loopO_go (b := prelaw2_SpliceJoined_b1 l (spS l)) (fun s => ∃ (b : Bool) (i : Nat), s = (b, (K : Int), (i : Int)) ∧ i ≤ K ∧ (b = true → ∀ k, k < i → good (l.getD k 0) (l.getD (k + 1) 0))) (fun s => K - s.2.2.toNat) (fun r => r = true) (by
    rintro _ ⟨b, i, rfl, hi, hb⟩
    simp only [prelaw2_SpliceJoined_b1, ltI, decide_eq_true_eq, Int.toNat_natCast]
    by_cases hil : i < K
    · have w : IntKind.i64.wrap ((i : Int) + 1) = ((i + 1 : Nat) : Int) := by rw [wr _ (by omega)]; simp
      have c92 : ((l.getD i 0).toNat : Int) = 92 ↔ l.getD i 0 = 92 := u8i _ 92 (by decide)
      have c13 : ((l.getD i 0).toNat : Int) = 13 ↔ l.getD i 0 = 13 := u8i _ 13 (by decide)
      have d13 : ((l.getD (i + 1) 0).toNat : Int) = 13 ↔ l.getD (i + 1) 0 = 13 := u8i _ 13 (by decide)
      have d10 : ((l.getD (i + 1) 0).toNat : Int) = 10 ↔ l.getD (i + 1) 0 = 10 := u8i _ 10 (by decide)
      have b0 : (0 : Int) ≤ (i : Int) ∧ i < l.length := by omega
      have b1 : (0 : Int) ≤ ((i + 1 : Nat) : Int) ∧ i + 1 < l.length := by omega
      have no : Nxt (fun s : Bool × Int × Int => ∃ (b : Bool) (i : Nat), s = (b, (K : Int), (i : Int)) ∧ i ≤ K ∧ (b = true → ∀ k, k < i → good (l.getD k 0) (l.getD (k + 1) 0))) (fun s => K - s.2.2.toNat) (fun r : Bool => r = true) (K - i) (.inl (false, (K : Int), ((i + 1 : Nat) : Int))) :=
        ⟨⟨false, i + 1, rfl, by omega, fun h => by cases h⟩, by simp; clear w; omega⟩
      rw [if_pos (by omega)]
      simp only [eqI, c92, c13, d13, d10, w, Int.toNat_natCast, if_pos b0, if_pos b1, prelaw2_SpliceJoined_j2]
      by_cases hbt : b = true
      · have yes : good (l.getD i 0) (l.getD (i + 1) 0) → Nxt (fun s : Bool × Int × Int => ∃ (b : Bool) (i : Nat), s = (b, (K : Int), (i : Int)) ∧ i ≤ K ∧ (b = true → ∀ k, k < i → good (l.getD k 0) (l.getD (k + 1) 0))) (fun s => K - s.2.2.toNat) (fun r : Bool => r = true) (K - i) (.inl (true, (K : Int), ((i + 1 : Nat) : Int))) := fun hg =>
          ⟨⟨true, i + 1, rfl, by omega, fun _ k hk => by
            by_cases hki : k = i
            · subst hki; exact hg
            · exact hb hbt k (by omega)⟩, by simp; clear w; omega⟩
        unfold good at yes
        generalize l.getD i 0 = c at *
        generalize l.getD (i + 1) 0 = d at *
        subst hbt
        by_cases h92 : c = 92 <;> by_cases h13 : c = 13 <;> by_cases e10 : d = 10 <;> by_cases e13 : d = 13 <;> simp only [h92, h13, e10, e13, decide_true, decide_false, Bool.not_true, Bool.not_false, if_true, Bool.false_eq_true, if_false] <;>
          first
          | exact ⟨_, rfl, no⟩
          | exact ⟨_, rfl, yes (by simp_all)⟩
          | (exfalso; rw [h92] at h13; revert h13; decide)
          | (exfalso; rw [e10] at e13; revert e13; decide)
      · rw [if_neg hbt]
        exact ⟨_, rfl, no⟩
    · have : i = K := by omega
      subst this
      rw [if_neg (by omega)]
      have hT : b = true → spText l = l := fun h => by
        have := sp_plain l 0 (fun k hk => hb h k (by omega))
        simpa [spText, spAt] using this
      by_cases hbt : b = true
      · rw [if_pos hbt]
        have : (!eqS (spS l).Text l) = false := by
          show (!eqS (spText l) l) = false
          rw [hT hbt]; simp [eqS]
        rw [this, j3]
        exact ⟨_, rfl, rfl⟩
      · rw [if_neg hbt, j3]
        exact ⟨_, rfl, rfl⟩) (true, (K : Int), 0) ⟨true, 0, rfl, by omega, fun _ k hk => by omega⟩
  rw [h1, h2]

theorem joined_all (l : List UInt8) (hl : l.length ≤ 1099511627776) : prelaw2_SpliceJoined l = some true := by
  unfold prelaw2_SpliceJoined
  rw [alive2_eq, text_eq l hl]
  simp only [Option.bind_some, Bool.not_true, Bool.false_eq_true, if_false]
  have w : IntKind.i64.wrap ((l.length : Int) - 1) = (l.length : Int) - 1 := wr _ (by omega)
  have e : (if 0 > (l.length : Int) - 1 then 0 else (l.length : Int) - 1) = ((l.length - 1 : Nat) : Int) := by
    split <;> omega
  rw [w, e]
  exact joined_b1 l hl _ rfl
end Go.Proofs.Ytgkacglpjmndbaa
