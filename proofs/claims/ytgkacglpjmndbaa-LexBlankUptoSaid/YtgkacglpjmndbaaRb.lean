/- splice: lines, where, back; the document's answer. Plain. -/
import Derived.Test.YtgkacglpjmndbaaRa
namespace Go.Proofs.Ytgkacglpjmndbaa
open Go.RowKit

/-! Lines. -/
def lineN (l : List UInt8) (k : Nat) : Nat := 1 + ((l.take k).filter (· = 10)).length
theorem lineN_succ (l : List UInt8) (k : Nat) (h : k < l.length) : lineN l (k + 1) = lineN l k + if l.getD k 0 = 10 then 1 else 0 := by
  unfold lineN
  rw [List.take_succ_eq_append_getElem h, List.filter_append]
  have : l.getD k 0 = l[k] := by simp [List.getD_eq_getElem?_getD, List.getElem?_eq_getElem h]
  rw [this]
  by_cases h10 : l[k] = 10 <;> simp [h10]; omega
theorem lineN_le (l : List UInt8) (k : Nat) : lineN l k ≤ 1 + k := by
  unfold lineN
  have h1 := List.length_filter_le (fun c : UInt8 => decide (c = 10)) (l.take k)
  have h2 := List.length_take_le k l
  omega
def kAt (l : List UInt8) (n : Int) : Nat := min n.toNat l.length

theorem lines_eq (l : List UInt8) (n : Int) (hl : l.length ≤ 1099511627776) : splice_Lines l n = some (lineN l (kAt l n) : Int) := by
  unfold splice_Lines
  have e0 : (if (l.length : Int) < (if 0 > n then 0 else n) then (l.length : Int) else (if 0 > n then 0 else n)) = (kAt l n : Int) := by
    unfold kAt
    split <;> split <;> omega
  rw [e0]
  have hk : kAt l n ≤ l.length := by unfold kAt; omega
  generalize kAt l n = k at hk
  obtain ⟨r, h1, h2⟩ := loopO_rule (b := splice_Lines_b1 l) (fun s => ∃ i : Nat, s = ((lineN l i : Int), (k : Int), (i : Int)) ∧ i ≤ k) (fun s => k - s.2.2.toNat) (fun r => r = (lineN l k : Int)) (by
    rintro _ ⟨i, rfl, hi⟩
    simp only [splice_Lines_b1, ltI, decide_eq_true_eq, Int.toNat_natCast]
    have hn := lineN_le l i
    by_cases hik : i < k
    · rw [if_pos (by omega), if_pos (by omega)]
      have hs := lineN_succ l i (by omega)
      have c10 : ((l.getD i 0).toNat : Int) = 10 ↔ l.getD i 0 = 10 := u8i _ 10 (by decide)
      simp only [eqI, decide_eq_true_eq, splice_Lines_j2]
      rw [wr ((i : Int) + 1) (by omega)]
      by_cases h10 : l.getD i 0 = 10
      · rw [if_pos (c10.2 h10), wr _ (by omega)]
        rw [if_pos h10] at hs
        exact ⟨_, rfl, ⟨i + 1, by rw [hs]; simp, by omega⟩, by simp; omega⟩
      · rw [if_neg (fun h => h10 (c10.1 h))]
        rw [if_neg h10] at hs
        exact ⟨_, rfl, ⟨i + 1, by rw [hs]; simp, by omega⟩, by simp; omega⟩
    · rw [if_neg (by omega)]
      have : i = k := by omega
      subst this
      exact ⟨_, rfl, rfl⟩) (1, (k : Int), 0) ⟨0, by simp [lineN], by omega⟩
  rw [h1, h2]

theorem line_eq (l : List UInt8) (n : Int) (hl : l.length ≤ 1099511627776) : preref1_Line l n = some (lineN l (kAt l n) : Int) := by
  unfold preref1_Line
  obtain ⟨r, h1, h2⟩ := loopO_rule (b := preref1_Line_b1 l n) (fun s => ∃ i : Nat, s = ((lineN l i : Int), (i : Int)) ∧ i ≤ kAt l n) (fun s => kAt l n - s.2.toNat) (fun r => r = (lineN l (kAt l n) : Int)) (by
    rintro _ ⟨i, rfl, hi⟩
    have hk : kAt l n ≤ l.length ∧ (kAt l n : Int) ≤ max n 0 := by unfold kAt; omega
    have hk2 : i < kAt l n ↔ (i : Int) < n ∧ (i : Int) < l.length := by unfold kAt; omega
    generalize kAt l n = k at hk hk2 hi
    simp only [preref1_Line_b1, preref1_Line_j2, ltI, decide_eq_true_eq, Int.toNat_natCast]
    have hn := lineN_le l i
    by_cases hik : i < k
    · rw [if_pos (hk2.1 hik).1, if_pos (hk2.1 hik).2, if_pos (by omega)]
      have hs := lineN_succ l i (by omega)
      have c10 : ((l.getD i 0).toNat : Int) = 10 ↔ l.getD i 0 = 10 := u8i _ 10 (by decide)
      simp only [eqI, decide_eq_true_eq, preref1_Line_j3]
      rw [wr ((i : Int) + 1) (by omega)]
      by_cases h10 : l.getD i 0 = 10
      · rw [if_pos (c10.2 h10), wr _ (by omega)]
        rw [if_pos h10] at hs
        exact ⟨_, rfl, ⟨i + 1, by rw [hs]; simp, by omega⟩, by simp; omega⟩
      · rw [if_neg (fun h => h10 (c10.1 h))]
        rw [if_neg h10] at hs
        exact ⟨_, rfl, ⟨i + 1, by rw [hs]; simp, by omega⟩, by simp; omega⟩
    · have : i = k := by omega
      subst this
      by_cases h3 : (i : Int) < n
      · rw [if_pos h3, if_neg (fun h => hik (hk2.2 ⟨h3, h⟩))]
        exact ⟨_, rfl, rfl⟩
      · rw [if_neg h3]
        simp only [Bool.false_eq_true, if_false]
        exact ⟨_, rfl, rfl⟩) (1, 0) ⟨0, by simp [lineN], by omega⟩
  rw [h1, h2]

/-! Where. -/
theorem ints_getD (A : List Nat) (k : Nat) (h : k < A.length) (d : Int) : (ints A).getD k d = ((A.getD k 0 : Nat) : Int) := by
  simp [ints, List.getD_eq_getElem?_getD, List.getElem?_eq_getElem h]
def whereN (A : List Nat) (n : Int) : Int := if n < 0 ∨ (A.length : Int) ≤ n then -1 else ((A.getD n.toNat 0 : Nat) : Int)
theorem where_eq (T : List UInt8) (A : List Nat) (n : Int) : splice_Where ⟨T, ints A⟩ n = some (whereN A n) := by
  unfold splice_Where whereN
  simp only [splice_Where_j1, ltI, leI, decide_eq_true_eq, ints_length]
  by_cases h1 : n < 0
  · simp [h1]
  · by_cases h2 : (A.length : Int) ≤ n
    · simp [h1, h2]
    · rw [if_neg h1, if_neg h2, if_pos (by omega), if_neg (by omega), ints_getD A _ (by omega)]

def rises (A : List Nat) : Prop := A.Pairwise (· < ·)
/-! Where the letters stood. -/
theorem sp_facts : ∀ (l : List UInt8) (k i : Nat), (∀ p ∈ sp k i l, i ≤ p.2 ∧ p.2 < i + l.length) ∧ ((sp k i l).map (·.2)).Pairwise (· < ·) ∧ (sp k i l).length ≤ l.length
  | [], k, i => by
    cases k <;> simp [sp]
  | c :: r, k, i => by
    have ih := fun k => sp_facts r k (i + 1)
    have up : ∀ k, (∀ p ∈ sp k (i + 1) r, i ≤ p.2 ∧ p.2 < i + (c :: r).length) ∧ ((sp k (i + 1) r).map (·.2)).Pairwise (· < ·) ∧ (sp k (i + 1) r).length ≤ (c :: r).length := fun k => by
      obtain ⟨h1, h2, h3⟩ := ih k
      refine ⟨fun p hp => ?_, h2, by simp; omega⟩
      have := h1 p hp
      simp; omega
    cases k with
    | succ k => simp only [sp]; exact up k
    | zero =>
      simp only [sp]
      split
      · exact up _
      · split
        · exact up _
        · obtain ⟨h1, h2, h3⟩ := ih 0
          refine ⟨fun p hp => ?_, ?_, by simp; omega⟩
          · rcases List.mem_cons.1 hp with rfl | hp
            · simp
            · have := h1 p hp
              simp; omega
          · rw [List.map_cons, List.pairwise_cons]
            refine ⟨fun q hq => ?_, h2⟩
            obtain ⟨p, hp, rfl⟩ := List.mem_map.1 hq
            have := h1 p hp
            show i < p.2
            omega

theorem spPos_rises (l : List UInt8) : rises (spPos l) := by
  obtain ⟨h1, h2, _⟩ := sp_facts l 0 0
  unfold rises spPos spAt
  rw [List.drop_zero, List.pairwise_append]
  refine ⟨h2, by simp, fun a ha b hb => ?_⟩
  obtain ⟨p, hp, rfl⟩ := List.mem_map.1 ha
  have := h1 p hp
  simp only [List.mem_singleton] at hb
  omega
theorem spPos_le (l : List UInt8) : ∀ a ∈ spPos l, a ≤ l.length := by
  obtain ⟨h1, _, _⟩ := sp_facts l 0 0
  unfold spPos spAt
  rw [List.drop_zero]
  intro a ha
  rcases List.mem_append.1 ha with ha | ha
  · obtain ⟨p, hp, rfl⟩ := List.mem_map.1 ha
    have := h1 p hp
    omega
  · simp only [List.mem_singleton] at ha
    omega
theorem spPos_length (l : List UInt8) : (spPos l).length = (spText l).length + 1 := by
  simp [spPos, spText]
theorem spText_length (l : List UInt8) : (spText l).length ≤ l.length := by
  obtain ⟨_, _, h3⟩ := sp_facts l 0 0
  simpa [spText, spAt] using h3

/-! The document's answer. -/
theorem take2 (l : List UInt8) (i : Nat) (h : i + 1 < l.length) : (l.drop i).take 2 = [l.getD i 0, l.getD (i + 1) 0] := by
  rw [drop_cons l i (by omega), drop_cons l (i + 1) h]; rfl
theorem take3 (l : List UInt8) (i : Nat) (h : i + 2 < l.length) : (l.drop i).take 3 = [l.getD i 0, l.getD (i + 1) 0, l.getD (i + 2) 0] := by
  rw [drop_cons l i (by omega), drop_cons l (i + 1) (by omega), drop_cons l (i + 2) h]; rfl
theorem take1 (l : List UInt8) (i : Nat) (h : i < l.length) : (l.drop i).take 1 = [l.getD i 0] := by
  rw [drop_cons l i h]; rfl
theorem joins2 (l : List UInt8) (i : Nat) (h : i + 1 < l.length) (h0 : l.getD i 0 = 92) (h1 : l.getD (i + 1) 0 = 10) : joinsN (l.drop i) = 2 := by
  unfold joinsN; rw [take2 l i h, h0, h1]; rfl
theorem joins3 (l : List UInt8) (i : Nat) (h : i + 2 < l.length) (h0 : l.getD i 0 = 92) (h1 : l.getD (i + 1) 0 = 13) (h2 : l.getD (i + 2) 0 = 10) : joinsN (l.drop i) = 3 := by
  unfold joinsN; rw [take2 l i (by omega), take3 l i h, h0, h1, h2]; rfl
theorem joins0 (l : List UInt8) (i : Nat) (h2 : ¬ (i + 1 < l.length ∧ l.getD i 0 = 92 ∧ l.getD (i + 1) 0 = 10)) (h3 : ¬ (i + 2 < l.length ∧ l.getD i 0 = 92 ∧ l.getD (i + 1) 0 = 13 ∧ l.getD (i + 2) 0 = 10)) : joinsN (l.drop i) = 0 := by
  unfold joinsN
  split
  · rename_i h
    have h1 : i + 1 < l.length := by
      have := take_len h
      simp at this; omega
    rw [take2 l i h1] at h
    simp only [List.cons.injEq, and_true] at h
    exact (h2 ⟨h1, h⟩).elim
  · split
    · rename_i h
      have h1 : i + 2 < l.length := by
        have := take_len h
        simp at this; omega
      rw [take3 l i h1] at h
      simp only [List.cons.injEq, and_true] at h
      exact (h3 ⟨h1, h⟩).elim
    · rfl
theorem drop_getD (l : List UInt8) (i k : Nat) : (l.drop i).getD k 0 = l.getD (i + k) 0 := by
  simp [List.getD_eq_getElem?_getD]

def rsI (l : List UInt8) (s : Int × List UInt8 × List UInt8 × List Int) : Prop :=
  ∃ (i : Nat) (T : List UInt8) (A : List Nat), s = ((i : Int), [], T, ints A) ∧ i ≤ l.length ∧ spAt l 0 = T.zip A ++ spAt l i ∧ T.length = A.length ∧ T.length ≤ i
set_option maxHeartbeats 2000000 in
theorem rsplice_eq (l : List UInt8) (hl : l.length ≤ 1099511627776) : preref1_Splice l = some (spS l) := by
  unfold preref1_Splice
  obtain ⟨r, h1, h2⟩ := loopO_go (b := preref1_Splice_b1 l) (rsI l) (fun s => l.length - s.1.toNat) (fun r => r = spS l) (by
    rintro _ ⟨i, T, A, rfl, hi, hsp, hTA, hTi⟩
    simp only [preref1_Splice_b1, ltI, decide_eq_true_eq, Int.toNat_natCast]
    by_cases hil : i < l.length
    · rw [if_pos (by omega), if_pos (by omega)]
      have hd : (List.drop i l).length = l.length - i := by simp
      have g0 : (List.drop i l).getD 0 0 = l.getD i 0 := drop_getD l i 0
      have g1 : (List.drop i l).getD 1 0 = l.getD (i + 1) 0 := drop_getD l i 1
      have g2 : (List.drop i l).getD 2 0 = l.getD (i + 2) 0 := drop_getD l i 2
      have c92 : ((l.getD i 0).toNat : Int) = 92 ↔ l.getD i 0 = 92 := u8i _ 92 (by decide)
      have c13 : ((l.getD i 0).toNat : Int) = 13 ↔ l.getD i 0 = 13 := u8i _ 13 (by decide)
      have d10 : ((l.getD (i + 1) 0).toNat : Int) = 10 ↔ l.getD (i + 1) 0 = 10 := u8i _ 10 (by decide)
      have d13 : ((l.getD (i + 1) 0).toNat : Int) = 13 ↔ l.getD (i + 1) 0 = 13 := u8i _ 13 (by decide)
      have e10 : ((l.getD (i + 2) 0).toNat : Int) = 10 ↔ l.getD (i + 2) 0 = 10 := u8i _ 10 (by decide)
      have skip : ∀ k : Nat, 0 < k → i + k ≤ l.length → spAt l i = spAt l (i + k) → ∃ o, preref1_Splice_j2 [] ((i : Int) + (k : Int) - 1, T, ints A) = some o ∧ Nxt (rsI l) (fun s => l.length - s.1.toNat) (fun r => r = spS l) (l.length - i) o := fun k h0 hk he => by
        simp only [preref1_Splice_j2]
        rw [wr _ (by omega)]
        refine ⟨_, rfl, ⟨i + k, T, A, ?_, hk, by rw [hsp, he], hTA, by omega⟩, ?_⟩
        · simp <;> omega
        · simp <;> omega
      have w1 : IntKind.i64.wrap ((i : Int) + 1) = (i : Int) + ((2 : Nat) : Int) - 1 := by rw [wr _ (by omega)]; omega
      have w2 : IntKind.i64.wrap ((i : Int) + 2) = (i : Int) + ((3 : Nat) : Int) - 1 := by rw [wr _ (by omega)]; omega
      have w0 : (i : Int) = (i : Int) + ((1 : Nat) : Int) - 1 := by omega
      -- what is left behind the tests for joins
      have last : joinsN (l.drop i) = 0 → ∃ o, preref1_Splice_j4 (i : Int) [] T (ints A) (List.drop i l) false = some o ∧ Nxt (rsI l) (fun s => l.length - s.1.toNat) (fun r => r = spS l) (l.length - i) o := fun hj => by
        have plain : (¬ (l.getD i 0 = 13 ∧ i + 1 < l.length ∧ l.getD (i + 1) 0 = 10)) → ∃ o, preref1_Splice_j5 (i : Int) [] T (ints A) (List.drop i l) false = some o ∧ Nxt (rsI l) (fun s => l.length - s.1.toNat) (fun r => r = spS l) (l.length - i) o := fun hn => by
          simp only [preref1_Splice_j5, Bool.false_eq_true, if_false]
          have b2 : ((ints A).length + [(i : Int)].length) * 8 ≤ 140737488355328 := by simp [ints_length]; omega
          rw [if_pos (by omega), if_pos (by simp; omega), if_pos b2, take1 l i hil, ints_snoc]
          simp only [preref1_Splice_j2]
          rw [wr _ (by omega)]
          refine ⟨_, rfl, ⟨i + 1, T ++ [l.getD i 0], A ++ [i], by simp, by omega, by rw [hsp, spAt_step l i hil hj hn, List.zip_append hTA]; simp, by simp [hTA], by simp; omega⟩, by simp; omega⟩
        simp only [preref1_Splice_j4, Bool.false_eq_true, if_false, ltI, decide_eq_true_eq, eqI, g0, g1]
        by_cases hl1 : i + 1 < l.length
        · rw [if_pos (by omega), if_pos (by omega)]
          by_cases h13 : l.getD i 0 = 13
          · rw [if_pos (c13.2 h13), if_pos (by omega)]
            by_cases h10 : l.getD (i + 1) 0 = 10
            · have : decide (((l.getD (i + 1) 0).toNat : Int) = 10) = true := by simpa using d10.2 h10
              rw [this]
              simp only [preref1_Splice_j5, if_true]
              rw [w0]
              exact skip 1 (by omega) (by omega) (spAt_cr l i hj h13 hl1 h10)
            · have : decide (((l.getD (i + 1) 0).toNat : Int) = 10) = false := by
                have := fun h => h10 (d10.1 h)
                simpa using this
              rw [this]
              exact plain (fun h => h10 h.2.2)
          · rw [if_neg (fun h => h13 (c13.1 h))]
            exact plain (fun h => h13 h.1)
        · rw [if_neg (by omega)]
          exact plain (fun h => hl1 h.2.1)
      -- the second test
      have second : ¬ (i + 1 < l.length ∧ l.getD i 0 = 92 ∧ l.getD (i + 1) 0 = 10) → ∃ o, preref1_Splice_j3 (i : Int) [] T (ints A) (List.drop i l, false) = some o ∧ Nxt (rsI l) (fun s => l.length - s.1.toNat) (fun r => r = spS l) (l.length - i) o := fun hn => by
        simp only [preref1_Splice_j3, Bool.false_eq_true, if_false, ltI, decide_eq_true_eq, eqI, g0, g1, g2]
        have no : ¬ (i + 2 < l.length ∧ l.getD i 0 = 92 ∧ l.getD (i + 1) 0 = 13 ∧ l.getD (i + 2) 0 = 10) → joinsN (l.drop i) = 0 := joins0 l i hn
        by_cases hl2 : i + 2 < l.length
        · rw [if_pos (by omega), if_pos (by omega)]
          by_cases h92 : l.getD i 0 = 92
          · rw [if_pos (c92.2 h92), if_pos (by omega)]
            by_cases h13 : l.getD (i + 1) 0 = 13
            · rw [if_pos (d13.2 h13), if_pos (by omega)]
              by_cases h10 : l.getD (i + 2) 0 = 10
              · have : decide (((l.getD (i + 2) 0).toNat : Int) = 10) = true := by simpa using e10.2 h10
                rw [this]
                simp only [preref1_Splice_j4, if_true]
                rw [w2]
                have hj := joins3 l i hl2 h92 h13 h10
                have := spAt_join l i (by omega)
                rw [hj] at this
                exact skip 3 (by omega) (by omega) this
              · have : decide (((l.getD (i + 2) 0).toNat : Int) = 10) = false := by
                  have := fun h => h10 (e10.1 h)
                  simpa using this
                rw [this]
                exact last (no fun h => h10 h.2.2.2)
            · rw [if_neg (fun h => h13 (d13.1 h))]
              exact last (no fun h => h13 h.2.2.1)
          · rw [if_neg (fun h => h92 (c92.1 h))]
            exact last (no fun h => h92 h.2.1)
        · rw [if_neg (by omega)]
          exact last (no fun h => hl2 h.1)
      simp only [hd, g0, g1, eqI, decide_eq_true_eq]
      by_cases hl1 : i + 1 < l.length
      · rw [if_pos (by omega), if_pos (by omega)]
        by_cases h92 : l.getD i 0 = 92
        · rw [if_pos (c92.2 h92), if_pos (by omega)]
          by_cases h10 : l.getD (i + 1) 0 = 10
          · have : decide (((l.getD (i + 1) 0).toNat : Int) = 10) = true := by simpa using d10.2 h10
            rw [this]
            simp only [preref1_Splice_j3, if_true]
            rw [w1]
            have hj := joins2 l i hl1 h92 h10
            have := spAt_join l i (by omega)
            rw [hj] at this
            exact skip 2 (by omega) (by omega) this
          · have : decide (((l.getD (i + 1) 0).toNat : Int) = 10) = false := by
              have := fun h => h10 (d10.1 h)
              simpa using this
            rw [this]
            exact second (fun h => h10 h.2.2)
        · rw [if_neg (fun h => h92 (c92.1 h))]
          exact second (fun h => h92 h.2.1)
      · rw [if_neg (by omega)]
        exact second (fun h => hl1 h.1)
    · have hil : i = l.length := by omega
      rw [spAt_end l i (by omega), List.append_nil] at hsp
      rw [if_neg (by omega)]
      have e1 : spText l = T := by unfold spText; rw [hsp]; simp [List.map_fst_zip, hTA]
      have e2 : spPos l = A ++ [l.length] := by unfold spPos; rw [hsp]; simp [List.map_snd_zip, hTA]
      have b2 : ((ints A).length + [(l.length : Int)].length) * 8 ≤ 140737488355328 := by simp [ints_length]; omega
      rw [if_pos b2]
      refine ⟨_, rfl, ?_⟩
      show _ = spS l
      simp [spS, e1, e2, ints]) (0, [], [], []) ⟨0, [], [], by simp [ints], by omega, by simp, rfl, by simp⟩
  rw [h1, h2]
/-! Where each byte stood. -/
theorem sp_where : ∀ (l : List UInt8) (k i : Nat), ∀ p ∈ sp k i l, l.getD (p.2 - i) 0 = p.1
  | [], k, i, p, hp => by cases k <;> simp [sp] at hp
  | c :: r, k, i, p, hp => by
    have up : ∀ k, p ∈ sp k (i + 1) r → (c :: r).getD (p.2 - i) 0 = p.1 := fun k h => by
      have h1 := (sp_facts r k (i + 1)).1 p h
      have h2 := sp_where r k (i + 1) p h
      rw [show p.2 - i = (p.2 - (i + 1)) + 1 by omega, List.getD_cons_succ]; exact h2
    cases k with
    | succ k => simp only [sp] at hp; exact up k hp
    | zero =>
      simp only [sp] at hp
      split at hp
      · exact up _ hp
      · split at hp
        · exact up _ hp
        · rcases List.mem_cons.1 hp with rfl | hp
          · simp
          · exact up _ hp

theorem spPos_at (l : List UInt8) (i : Nat) (h : i < (spText l).length) : (spPos l).getD i 0 < l.length ∧ l.getD ((spPos l).getD i 0) 0 = (spText l).getD i 0 := by
  have hlen : i < (spAt l 0).length := by simpa [spText] using h
  have e1 : (spPos l).getD i 0 = (spAt l 0)[i].2 := by
    unfold spPos
    rw [List.getD_eq_getElem?_getD, List.getElem?_append_left (by simpa using hlen)]
    simp [hlen]
  have e2 : (spText l).getD i 0 = (spAt l 0)[i].1 := by
    unfold spText
    rw [List.getD_eq_getElem?_getD]
    simp [hlen]
  have hm : (spAt l 0)[i] ∈ sp 0 0 l := by
    exact List.getElem_mem hlen
  rw [e1, e2]
  exact ⟨by have := (sp_facts l 0 0).1 _ hm; omega, by have := sp_where l 0 0 _ hm; simpa using this⟩

theorem rises_lt {A : List Nat} (hr : rises A) {i j : Nat} (hij : i < j) (hj : j < A.length) : A.getD i 0 < A.getD j 0 := by
  have := List.pairwise_iff_getElem.1 hr i j (by omega) hj hij
  simpa [List.getD_eq_getElem?_getD, List.getElem?_eq_getElem (show i < A.length by omega), List.getElem?_eq_getElem hj] using this
end Go.Proofs.Ytgkacglpjmndbaa
