/- The statements on splicing: what their functions of data answer. Plain. -/
import Derived.Test.YtgkacglpjmndbaaRb
namespace Go.Proofs.Ytgkacglpjmndbaa
open Go.RowKit

theorem alive2_eq : prelaw2_alive = some true := by
  unfold prelaw2_alive
  have h : spS [97, 92, 10, 98, 13, 10, 99] = ⟨[97, 98, 10, 99], ints [0, 3, 5, 6, 7]⟩ := by decide
  rw [text_eq _ (by decide), h]
  have e1 : eqS ([97, 98, 10, 99] : List UInt8) [97, 98, 10, 99] = true := by decide
  have e2 : whereN [0, 3, 5, 6, 7] 1 = 3 := by decide
  have e3 : backN [0, 3, 5, 6, 7] 2 = 1 := by decide
  have e4 : lineN [97, 10, 98] (kAt [97, 10, 98] 2) = 2 := by decide
  simp only [Option.bind_some, where_eq, e1, if_true, e2]
  rw [back_eq _ _ _ (by decide) (by unfold rises; decide), lines_eq _ _ (by decide), e3]
  simp only [Option.bind_some, e4, prelaw2_alive_j1]
  decide

/-- What the loop from behind has found, down to place j. -/
def downN (A : List Nat) (n : Int) (j : Nat) : Int := if n < 0 then -1 else if max (lowN A n) j < A.length then ((max (lowN A n) j : Nat) : Int) else -1
theorem downN_zero (A : List Nat) (n : Int) : downN A n 0 = backN A n := by
  have := lowN_le A n
  unfold downN backN
  by_cases h0 : n < 0
  · rw [if_pos h0, if_pos (by omega)]
  · by_cases h1 : lowN A n < A.length
    · rw [if_neg h0, if_pos (by omega), if_neg (by omega)]; congr 1; omega
    · rw [if_neg h0, if_neg (by omega), if_pos (by omega)]
theorem downN_end (A : List Nat) (n : Int) : downN A n A.length = -1 := by
  unfold downN
  split
  · rfl
  · rw [if_neg (by omega)]
theorem downN_yes (A : List Nat) (n : Int) (i : Nat) (hi : i < A.length) (h0 : ¬ n < 0) (h : n ≤ ((A.getD i 0 : Nat) : Int)) : downN A n i = i := by
  have h1 : lowN A n ≤ i := by
    by_cases h2 : i < lowN A n
    · have := low_lt A n i h2; omega
    · omega
  unfold downN
  rw [if_neg h0, if_pos (by omega)]; congr 1; omega
theorem downN_no (A : List Nat) (n : Int) (i : Nat) (hr : rises A) (hi : i < A.length) (h : ¬ n ≤ ((A.getD i 0 : Nat) : Int)) : downN A n i = downN A n (i + 1) := by
  have h1 : i + 1 ≤ lowN A n := by
    by_cases h2 : i < lowN A n
    · omega
    · have := low_ge A n i hr (by omega) hi; omega
  unfold downN
  rw [Nat.max_eq_left (by omega : i ≤ lowN A n), Nat.max_eq_left h1]

theorem tells_b6 (T : List UInt8) (A : List Nat) (n : Int) (hl : A.length ≤ 1099511627777) (hr : rises A) :
    loopO (prelaw2_SpliceTells_b6 n ⟨T, ints A⟩ ⟨T, ints A⟩ (whereN A n) (backN A n)) ((A.length : Int), 0) = some true := by
  obtain ⟨r, h1, h2⟩ := loopO_go (b := prelaw2_SpliceTells_b6 n ⟨T, ints A⟩ ⟨T, ints A⟩ (whereN A n) (backN A n)) (fun s => ∃ i : Nat, s = ((A.length : Int), (i : Int)) ∧ i ≤ A.length) (fun s => A.length - s.2.toNat) (fun r => r = true) (by
    rintro _ ⟨i, rfl, hi⟩
    simp only [prelaw2_SpliceTells_b6, ltI, decide_eq_true_eq, Int.toNat_natCast, ints_length]
    by_cases hil : i < A.length
    · rw [if_pos (by omega), if_pos (by omega), if_pos (by omega), if_neg (by simp [eqI]), wr _ (by omega)]
      exact ⟨_, rfl, ⟨i + 1, by simp, by omega⟩, by simp <;> omega⟩
    · rw [if_neg (by omega), where_eq, Option.bind_some, if_pos (by simp [eqI]), back_eq _ _ _ hl hr, Option.bind_some]
      exact ⟨_, rfl, by simp [eqI]; rfl⟩) ((A.length : Int), 0) ⟨0, by simp, by omega⟩
  rw [h1, h2]

theorem tells_b3 (T : List UInt8) (A : List Nat) (n : Int) (hl : A.length ≤ 1099511627777) (hr : rises A) :
    loopO (prelaw2_SpliceTells_b3 n ⟨T, ints A⟩ ⟨T, ints A⟩ (whereN A n)) (-1, (A.length : Int) - 1) = some true := by
  obtain ⟨r, h1, h2⟩ := loopO_go (b := prelaw2_SpliceTells_b3 n ⟨T, ints A⟩ ⟨T, ints A⟩ (whereN A n)) (fun s => ∃ j : Nat, s = (downN A n j, (j : Int) - 1) ∧ j ≤ A.length) (fun s => (s.2 + 1).toNat) (fun r => r = true) (by
    rintro _ ⟨j, rfl, hj⟩
    simp only [prelaw2_SpliceTells_b3, prelaw2_SpliceTells_j4, prelaw2_SpliceTells_j5, leI, decide_eq_true_eq, ints_length]
    by_cases hj0 : j = 0
    · subst hj0
      rw [if_neg (by omega)]
      simp only [Bool.false_eq_true, if_false, downN_zero]
      rw [tells_b6 T A n hl hr]
      exact ⟨_, rfl, rfl⟩
    · rw [if_pos (by omega)]
      obtain ⟨i, rfl⟩ : ∃ i, j = i + 1 := ⟨j - 1, by omega⟩
      have e3 : ((i + 1 : Nat) : Int) - 1 = (i : Int) := by omega
      rw [e3]
      by_cases h0 : 0 ≤ n
      · rw [if_pos h0, if_pos (by omega), Int.toNat_natCast, ints_getD A i (by omega), wr _ (by omega)]
        by_cases hy : n ≤ ((A.getD i 0 : Nat) : Int)
        · rw [if_pos hy]
          exact ⟨_, rfl, ⟨i, by rw [downN_yes A n i (by omega) (by omega) hy], by omega⟩, by simp <;> omega⟩
        · rw [if_neg hy]
          exact ⟨_, rfl, ⟨i, by rw [downN_no A n i hr (by omega) hy], by omega⟩, by simp <;> omega⟩
      · rw [if_neg h0]
        have e4 : downN A n (i + 1) = backN A n := by
          unfold downN backN
          rw [if_pos (by omega), if_pos (by omega)]
        rw [e4, tells_b6 T A n hl hr]
        exact ⟨_, rfl, rfl⟩) (-1, (A.length : Int) - 1) ⟨A.length, by rw [downN_end], by omega⟩
  rw [h1, h2]

theorem tells_eq (l : List UInt8) (n : Int) (hl : l.length ≤ 1099511627776) : prelaw2_SpliceTells l n = some true := by
  unfold prelaw2_SpliceTells
  rw [text_eq l hl, rsplice_eq l hl, lines_eq l n hl, line_eq l n hl]
  have p1 := spPos_rises l
  have p3 := spPos_length l
  have p4 := spText_length l
  simp only [Option.bind_some, spS]
  generalize spPos l = A at p1 p3
  generalize spText l = T at p3 p4
  simp only [eqS, eqI, decide_true, Bool.not_true, Bool.false_eq_true, if_false, prelaw2_SpliceTells_j1, leI, ltI, decide_eq_true_eq, prelaw2_SpliceTells_j8, prelaw2_SpliceTells_j2, ints_length]
  have w : IntKind.i64.wrap ((A.length : Int) - 1) = (A.length : Int) - 1 := wr _ (by omega)
  have key := tells_b3 T A n (by omega) p1
  rw [w]
  have hw : ∀ h : 0 ≤ n ∧ n < (A.length : Int), whereN A n = ((A.getD n.toNat 0 : Nat) : Int) := fun h => by unfold whereN; rw [if_neg (by omega)]
  by_cases h0 : 0 ≤ n
  · rw [if_pos h0]
    by_cases h1 : n < (A.length : Int)
    · rw [if_pos h1, if_pos (by omega), ints_getD A _ (by omega), ← hw ⟨h0, h1⟩]; exact key
    · rw [if_neg h1]
      have : whereN A n = -1 := by unfold whereN; rw [if_pos (by omega)]
      rw [this] at key; exact key
  · rw [if_neg h0]
    have : whereN A n = -1 := by unfold whereN; rw [if_pos (by omega)]
    rw [this] at key
    exact key

/-! Where each byte stood. -/
theorem sp_where : ∀ (l : List UInt8) (k i : Nat), ∀ p ∈ sp k i l, l.getD (p.2 - i) 0 = p.1
  | [], k, i, p, hp => by cases k <;> simp [sp] at hp
  | c :: r, k, i, p, hp => by
    have up : ∀ k, p ∈ sp k (i + 1) r → (c :: r).getD (p.2 - i) 0 = p.1 := fun k h => by
      have h1 := (sp_facts r k (i + 1)).1 p h
      have h2 := sp_where r k (i + 1) p h
      rw [show p.2 - i = (p.2 - (i + 1)) + 1 by omega, List.getD_cons_succ]; exact h2
    cases k with
    | succ k => simp only [sp] at hp; exact up k hp
    | zero =>
      simp only [sp] at hp
      split at hp
      · exact up _ hp
      · split at hp
        · exact up _ hp
        · rcases List.mem_cons.1 hp with rfl | hp
          · simp
          · exact up _ hp

theorem spPos_at (l : List UInt8) (i : Nat) (h : i < (spText l).length) : (spPos l).getD i 0 < l.length ∧ l.getD ((spPos l).getD i 0) 0 = (spText l).getD i 0 := by
  have hlen : i < (spAt l 0).length := by simpa [spText] using h
  have e1 : (spPos l).getD i 0 = (spAt l 0)[i].2 := by
    unfold spPos
    rw [List.getD_eq_getElem?_getD, List.getElem?_append_left (by simpa using hlen)]
    simp [hlen]
  have e2 : (spText l).getD i 0 = (spAt l 0)[i].1 := by
    unfold spText
    rw [List.getD_eq_getElem?_getD]
    simp [hlen]
  have hm : (spAt l 0)[i] ∈ sp 0 0 l := by
    exact List.getElem_mem hlen
  rw [e1, e2]
  exact ⟨by have := (sp_facts l 0 0).1 _ hm; omega, by have := sp_where l 0 0 _ hm; simpa using this⟩

theorem rises_lt {A : List Nat} (hr : rises A) {i j : Nat} (hij : i < j) (hj : j < A.length) : A.getD i 0 < A.getD j 0 := by
  have := List.pairwise_iff_getElem.1 hr i j (by omega) hj hij
  simpa [List.getD_eq_getElem?_getD, List.getElem?_eq_getElem (show i < A.length by omega), List.getElem?_eq_getElem hj] using this
theorem lowN_at {A : List Nat} (hr : rises A) (i : Nat) (hi : i < A.length) : lowN A ((A.getD i 0 : Nat) : Int) = i := by
  have h1 : ¬ lowN A ((A.getD i 0 : Nat) : Int) < i := fun h => by
    have := low_ge A ((A.getD i 0 : Nat) : Int) (lowN A ((A.getD i 0 : Nat) : Int)) hr (Nat.le_refl _) (by omega)
    have := rises_lt hr h hi
    omega
  have h2 : ¬ i < lowN A ((A.getD i 0 : Nat) : Int) := fun h => by
    have := low_lt A ((A.getD i 0 : Nat) : Int) i h
    omega
  omega
theorem spPos_last (l : List UInt8) : (spPos l).getD (spText l).length 0 = l.length := by
  have h : (spText l).length = ((spAt l 0).map (·.2)).length := by simp [spText]
  unfold spPos
  rw [List.getD_eq_getElem?_getD, h, List.getElem?_append_right (Nat.le_refl _)]
  simp

theorem where_all (l : List UInt8) (hl : l.length ≤ 1099511627776) : prelaw2_SpliceWhere l = some true := by
  unfold prelaw2_SpliceWhere
  have p1 := spPos_rises l
  have p3 := spPos_length l
  have p4 := spText_length l
  have p5 := spPos_at l
  have p6 := spPos_last l
  rw [alive2_eq, text_eq l hl]
  simp only [Option.bind_some, spS, Bool.not_true, Bool.false_eq_true, if_false]
  generalize spPos l = A at p1 p3 p5 p6
  generalize spText l = T at p3 p4 p5 p6
  have w : IntKind.i64.wrap ((T.length : Int) + 1) = (T.length : Int) + 1 := wr _ (by omega)
  simp only [ints_length, w, p3, eqI]
  rw [if_neg (by simp), if_pos (by omega), ints_getD A _ (by omega), p6]
  simp only [decide_true, Bool.not_true, prelaw2_SpliceWhere_j1, Bool.false_eq_true, if_false]
  obtain ⟨r, h1, h2⟩ := loopO_go (b := prelaw2_SpliceWhere_b2 l ⟨T, ints A⟩) (fun s => ∃ i : Nat, s = ((T.length : Int), (i : Int)) ∧ i ≤ T.length) (fun s => T.length - s.2.toNat) (fun r => r = true) (by
    rintro _ ⟨i, rfl, hi⟩
    simp only [prelaw2_SpliceWhere_b2, ltI, decide_eq_true_eq]
    by_cases hil : i < T.length
    · have hw : whereN A (i : Int) = ((A.getD i 0 : Nat) : Int) := by unfold whereN; rw [if_neg (by omega), Int.toNat_natCast]
      have hp := p5 i hil
      have hn := rises_lt p1 (show i < i + 1 by omega) (by omega)
      have w2 : IntKind.i64.wrap ((i : Int) + 1) = ((i + 1 : Nat) : Int) := by rw [wr _ (by omega)]; simp
      have hb : backN A ((A.getD i 0 : Nat) : Int) = (i : Int) := by
        unfold backN
        rw [lowN_at p1 i (by omega), if_neg (by omega)]
      rw [if_pos (by omega), where_eq, hw, Option.bind_some, back_eq _ _ _ (by omega) p1, hb, Option.bind_some]
      simp only [w2, Int.toNat_natCast, ints_length, leI, decide_eq_true_eq, eqI, hp.2]
      rw [ints_getD A (i + 1) (by omega)]
      clear w2 hw hb
      rw [if_neg (by omega), if_neg (by omega), if_pos (by omega), if_pos (by omega), if_neg (by simp), if_pos (by omega), if_neg (by omega)]
      simp only [prelaw2_SpliceWhere_j3, decide_true, Bool.not_true, Bool.false_eq_true, if_false]
      rw [wr _ (by omega)]
      exact ⟨_, rfl, ⟨i + 1, by simp, by omega⟩, by simp <;> omega⟩
    · rw [if_neg (by omega)]
      exact ⟨_, rfl, rfl⟩) ((T.length : Int), 0) ⟨0, by simp, by omega⟩
  rw [h1, h2]
end Go.Proofs.Ytgkacglpjmndbaa
