/- splice: what its functions of data answer. Plain. -/
import Derived.Test.YtgkacglpjmndbaaQb
import Derived.IntWalk
namespace Go.Proofs.Ytgkacglpjmndbaa
open Go.RowKit

theorem wr (x : Int) (h : -9223372036854775808 ≤ x ∧ x ≤ 9223372036854775807) : IntKind.i64.wrap x = x := IntWalk.i64_in _ h
theorem take_len {α : Type} {n : Nat} {l m : List α} (h : l.take n = m) : m.length ≤ l.length := by
  rw [← h]; simp; omega
theorem eqI_iff (a b : Int) : eqI a b = decide (a = b) := rfl
theorem ltI_iff (a b : Int) : ltI a b = decide (a < b) := rfl
theorem leI_iff (a b : Int) : leI a b = decide (a ≤ b) := rfl
theorem eqS_iff (a b : List UInt8) : eqS a b = decide (a = b) := rfl
theorem u8i (c : UInt8) (n : Nat) (h : n < 256) : ((c.toNat : Int) = (n : Int)) ↔ c = UInt8.ofNat n := by
  constructor
  · intro h1
    have : c.toNat = n := by omega
    rw [← this]; simp
  · rintro rfl; simp; omega

/-- What a round comes to. -/
def Nxt {S R : Type} (I : S → Prop) (μ : S → Nat) (post : R → Prop) (n : Nat) (o : S ⊕ R) : Prop := match o with | .inl s' => I s' ∧ μ s' < n | .inr r => post r
theorem loopO_go {S R : Type} {b : S → Option (S ⊕ R)} (I : S → Prop) (μ : S → Nat) (post : R → Prop)
    (h : ∀ s, I s → ∃ o, b s = some o ∧ Nxt I μ post (μ s) o) (s : S) (hs : I s) : ∃ r, loopO b s = some r ∧ post r :=
  loopO_rule I μ post (fun s hs => by
    obtain ⟨o, h1, h2⟩ := h s hs
    refine ⟨o, h1, ?_⟩
    cases o <;> exact h2) s hs

def joinsN (l : List UInt8) : Nat := if l.take 2 = [92, 10] then 2 else if l.take 3 = [92, 13, 10] then 3 else 0

theorem joins_eq (l : List UInt8) : splice_joins l = some (joinsN l : Int) := by
  have a1 : l.take 2 = [92, 10] → 2 ≤ l.length := fun h => take_len h
  have a2 : l.take 3 = [92, 13, 10] → 3 ≤ l.length := fun h => take_len h
  unfold splice_joins joinsN
  simp only [splice_joins_j1, splice_joins_j2, leI, eqS, decide_eq_true_eq]
  by_cases h2 : l.take 2 = [92, 10]
  · have : (2 : Int) ≤ (l.length : Int) := by have := a1 h2; omega
    simp [h2, this]
  · by_cases h3 : l.take 3 = [92, 13, 10]
    · have h5 : (3 : Int) ≤ (l.length : Int) := by have := a2 h3; omega
      have h4 : (2 : Int) ≤ (l.length : Int) := by omega
      simp [h2, h3, h5, h4]
    · by_cases h4 : (2 : Int) ≤ (l.length : Int) <;> by_cases h5 : (3 : Int) ≤ (l.length : Int) <;> simp [h2, h3, h4, h5]

/-- A text joined, from place i on: what is left of it, and where it stood. The first number: so many letters are passed over. -/
def sp : Nat → Nat → List UInt8 → List (UInt8 × Nat)
  | _, _, [] => []
  | k + 1, i, _ :: r => sp k (i + 1) r
  | 0, i, c :: r => if joinsN (c :: r) > 0 then sp (joinsN (c :: r) - 1) (i + 1) r else if c = 13 ∧ r.head? = some 10 then sp 0 (i + 1) r else (c, i) :: sp 0 (i + 1) r

def spAt (l : List UInt8) (i : Nat) : List (UInt8 × Nat) := sp 0 i (l.drop i)

theorem sp_skip : ∀ (k i : Nat) (l : List UInt8), k ≤ l.length → sp k i l = sp 0 (i + k) (l.drop k)
  | 0, i, l, _ => by simp
  | k + 1, i, [], h => by simp at h
  | k + 1, i, _ :: r, h => by
    simp only [sp, List.drop_succ_cons]
    rw [sp_skip k (i + 1) r (by simpa using h)]
    congr 1; omega

theorem joinsN_le (l : List UInt8) : joinsN l ≤ l.length := by
  have a1 : l.take 2 = [92, 10] → 2 ≤ l.length := fun h => take_len h
  have a2 : l.take 3 = [92, 13, 10] → 3 ≤ l.length := fun h => take_len h
  unfold joinsN
  split
  · exact a1 (by assumption)
  · split
    · exact a2 (by assumption)
    · omega

theorem drop_cons (l : List UInt8) (i : Nat) (h : i < l.length) : l.drop i = l.getD i 0 :: l.drop (i + 1) := by
  rw [List.drop_eq_getElem_cons h]; simp [List.getD_eq_getElem?_getD, List.getElem?_eq_getElem h]

theorem spAt_join (l : List UInt8) (i : Nat) (h : 0 < joinsN (l.drop i)) : spAt l i = spAt l (i + joinsN (l.drop i)) := by
  have hle := joinsN_le (l.drop i)
  simp at hle
  have hi : i < l.length := by omega
  unfold spAt
  generalize hj : joinsN (l.drop i) = j at h hle ⊢
  rw [drop_cons l i hi] at hj ⊢
  simp only [sp, hj, gt_iff_lt, h, if_true]
  rw [sp_skip _ _ _ (by simp; omega), List.drop_drop]
  congr 1
  · omega
  · congr 1; omega

theorem spAt_cr (l : List UInt8) (i : Nat) (h : joinsN (l.drop i) = 0) (h1 : l.getD i 0 = 13) (h2 : i + 1 < l.length) (h3 : l.getD (i + 1) 0 = 10) : spAt l i = spAt l (i + 1) := by
  have hi : i < l.length := by omega
  unfold spAt
  rw [drop_cons l i hi] at h ⊢
  have h4 : (l.drop (i + 1)).head? = some 10 := by rw [drop_cons l (i + 1) h2, h3]; rfl
  rw [h1] at h ⊢
  simp only [sp, h, h4, and_self, if_true, gt_iff_lt, Nat.lt_irrefl, if_false]

theorem spAt_step (l : List UInt8) (i : Nat) (hi : i < l.length) (h : joinsN (l.drop i) = 0) (h1 : ¬ (l.getD i 0 = 13 ∧ i + 1 < l.length ∧ l.getD (i + 1) 0 = 10)) : spAt l i = (l.getD i 0, i) :: spAt l (i + 1) := by
  unfold spAt
  rw [drop_cons l i hi] at h ⊢
  have h2 : ¬ (l.getD i 0 = 13 ∧ (l.drop (i + 1)).head? = some 10) := by
    rintro ⟨a, b⟩
    refine h1 ⟨a, ?_⟩
    by_cases h3 : i + 1 < l.length
    · rw [drop_cons l (i + 1) h3] at b
      simp at b
      exact ⟨h3, by simpa [List.getD_eq_getElem?_getD] using b⟩
    · rw [List.drop_of_length_le (by omega)] at b
      cases b
  simp only [sp, h, h2, gt_iff_lt, Nat.lt_irrefl, if_false]

theorem spAt_end (l : List UInt8) (i : Nat) (h : l.length ≤ i) : spAt l i = [] := by
  unfold spAt; rw [List.drop_of_length_le h]; rfl

def spText (l : List UInt8) : List UInt8 := (spAt l 0).map (·.1)
def spPos (l : List UInt8) : List Nat := (spAt l 0).map (·.2) ++ [l.length]
def ints (l : List Nat) : List Int := l.map fun (n : Nat) => (n : Int)
theorem ints_length (l : List Nat) : (ints l).length = l.length := by simp [ints]
theorem ints_snoc (l : List Nat) (n : Nat) : ints l ++ [(n : Int)] = ints (l ++ [n]) := by simp [ints]
def spS (l : List UInt8) : Spliced := ⟨spText l, ints (spPos l)⟩

def textI (l : List UInt8) (s : List UInt8 × List Int × Int × List UInt8) : Prop := ∃ (i : Nat) (T : List UInt8) (A : List Nat), s = (T, ints A, (i : Int), []) ∧ i ≤ l.length ∧ spAt l 0 = T.zip A ++ spAt l i ∧ T.length = A.length ∧ T.length ≤ i
theorem text_eq (l : List UInt8) (hl : l.length ≤ 1099511627776) : splice_Text l = some (spS l) := by
  unfold splice_Text
  obtain ⟨r, h1, h2⟩ := loopO_rule (b := splice_Text_b1 l)
    (textI l)
    (fun s => l.length - s.2.2.1.toNat) (fun r => r = spS l) (by
      rintro _ ⟨i, T, A, rfl, hi, hsp, hTA, hTi⟩
      have hj := joinsN_le (l.drop i)
      rw [List.length_drop] at hj
      simp only [splice_Text_b1, ltI, decide_eq_true_eq, Int.toNat_natCast, joins_eq, Option.bind_some]
      by_cases hil : i < l.length
      · rw [if_pos (by omega), if_pos (by omega)]
        by_cases hj0 : 0 < joinsN (l.drop i)
        · rw [if_pos (by omega), if_pos (by omega), wr _ (by omega)]
          refine ⟨_, rfl, ⟨i + joinsN (l.drop i), T, A, ?_, by omega, by rw [hsp, spAt_join l i hj0], hTA, by omega⟩, ?_⟩
          · simp
          · simp; omega
        · rw [if_neg (by omega), if_pos (by omega)]
          have hj0 : joinsN (l.drop i) = 0 := by omega
          have w1 : IntKind.i64.wrap ((i : Int) + 1) = ((i + 1 : Nat) : Int) := by rw [wr _ (by omega)]; simp
          have step : (¬ (l.getD i 0 = 13 ∧ i + 1 < l.length ∧ l.getD (i + 1) 0 = 10)) → textI l (T ++ [l.getD i 0], ints A ++ [(i : Int)], ((i + 1 : Nat) : Int), []) := fun hn =>
            ⟨i + 1, T ++ [l.getD i 0], A ++ [i], by rw [ints_snoc], by omega, by rw [hsp, spAt_step l i hil hj0 hn, List.zip_append hTA]; simp, by simp [hTA], by simp; omega⟩
          simp only [splice_Text_j2, w1, Int.toNat_natCast, eqI, decide_eq_true_eq]
          clear w1
          have c13 : ((l.getD i 0).toNat : Int) = 13 ↔ l.getD i 0 = 13 := u8i _ 13 (by decide)
          have c10 : ((l.getD (i + 1) 0).toNat : Int) = 10 ↔ l.getD (i + 1) 0 = 10 := u8i _ 10 (by decide)
          have b1 : (T.length + [l.getD i 0].length) * 1 ≤ 140737488355328 := by simp; omega
          have b2 : ((ints A).length + [(i : Int)].length) * 8 ≤ 140737488355328 := by simp [ints_length]; omega
          by_cases h13 : l.getD i 0 = 13
          · rw [if_pos (c13.2 h13)]
            by_cases hil1 : i + 1 < l.length
            · rw [if_pos (by omega), if_pos (by omega)]
              by_cases h10 : l.getD (i + 1) 0 = 10
              · rw [if_pos (c10.2 h10)]
                exact ⟨_, rfl, ⟨i + 1, T, A, rfl, by omega, by rw [hsp, spAt_cr l i hj0 h13 hil1 h10], hTA, by omega⟩, by simp; omega⟩
              · rw [if_neg (fun h => h10 (c10.1 h)), if_pos (by omega), if_pos b1, if_pos b2]
                exact ⟨_, rfl, step (fun h => h10 h.2.2), by simp; omega⟩
            · rw [if_neg (by omega)]
              simp only [Bool.false_eq_true, if_false]
              rw [if_pos (by omega), if_pos b1, if_pos b2]
              exact ⟨_, rfl, step (fun h => hil1 h.2.1), by simp; omega⟩
          · rw [if_neg (fun h => h13 (c13.1 h))]
            simp only [Bool.false_eq_true, if_false]
            rw [if_pos (by omega), if_pos b1, if_pos b2]
            exact ⟨_, rfl, step (fun h => h13 h.1), by simp; omega⟩
      · have hil : i = l.length := by omega
        rw [spAt_end l i (by omega), List.append_nil] at hsp
        rw [if_neg (by omega)]
        have e1 : spText l = T := by unfold spText; rw [hsp]; simp [List.map_fst_zip, hTA]
        have e2 : spPos l = A ++ [l.length] := by unfold spPos; rw [hsp]; simp [List.map_snd_zip, hTA]
        have b2 : ((ints A).length + [(l.length : Int)].length) * 8 ≤ 140737488355328 := by simp [ints_length]; omega
        rw [if_pos b2]
        refine ⟨_, rfl, ?_⟩
        simp [spS, e1, e2, ints]) ([], [], 0, []) ⟨0, [], [], by simp [ints], by omega, by simp, rfl, by simp⟩
  rw [h1, h2]
end Go.Proofs.Ytgkacglpjmndbaa
