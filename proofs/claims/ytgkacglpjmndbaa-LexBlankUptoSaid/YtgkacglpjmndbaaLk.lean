/- lex: LexStands answers true. Plain. -/
import Derived.Test.YtgkacglpjmndbaaLj
import Derived.Test.YtgkacglpjmndbaaQr
import Derived.Test.YtgkacglpjmndbaaRe
namespace Go.Proofs.Ytgkacglpjmndbaa
open Go.RowKit

theorem sp_drop : ∀ (l : List UInt8) (k i n : Nat) (h : n < (sp k i l).length), sp 0 ((sp k i l)[n]).2 (l.drop (((sp k i l)[n]).2 - i)) = (sp k i l).drop n
  | [], k, i, n, h => by cases k <;> simp [sp] at h
  | c :: r, k, i, n, h => by
    have up : ∀ k (h' : n < (sp k (i + 1) r).length), sp 0 ((sp k (i + 1) r)[n]).2 ((c :: r).drop (((sp k (i + 1) r)[n]).2 - i)) = (sp k (i + 1) r).drop n := fun k h' => by
      have f := (sp_facts r k (i + 1)).1 _ (List.getElem_mem h')
      have ih := sp_drop r k (i + 1) n h'
      rw [← ih, show ((sp k (i + 1) r)[n]).2 - i = ((sp k (i + 1) r)[n]).2 - (i + 1) + 1 by omega, List.drop_succ_cons]
    cases k with
    | succ k =>
      have e : sp (k + 1) i (c :: r) = sp k (i + 1) r := rfl
      simp only [e] at h ⊢
      exact up k h
    | zero =>
      by_cases h1 : joinsN (c :: r) > 0
      · have e : sp 0 i (c :: r) = sp (joinsN (c :: r) - 1) (i + 1) r := by simp only [sp, if_pos h1]
        simp only [e] at h ⊢
        exact up _ h
      · by_cases h2 : c = 13 ∧ r.head? = some 10
        · have e : sp 0 i (c :: r) = sp 0 (i + 1) r := by simp only [sp, if_neg h1, if_pos h2]
          simp only [e] at h ⊢
          exact up _ h
        · have e : sp 0 i (c :: r) = (c, i) :: sp 0 (i + 1) r := by simp only [sp, if_neg h1, if_neg h2]
          cases n with
          | zero =>
            have e0 : ((sp 0 i (c :: r))[0]'h).2 = i := by simp only [e, List.getElem_cons_zero]
            rw [e0, Nat.sub_self]; rfl
          | succ n =>
            have f := sp_drop r 0 (i + 1) n (by rw [e] at h; simpa using h)
            have g := (sp_facts r 0 (i + 1)).1 _ (List.getElem_mem (by rw [e] at h; simpa using h : n < (sp 0 (i + 1) r).length))
            have e1 : ((sp 0 i (c :: r))[n + 1]'h).2 = ((sp 0 (i + 1) r)[n]'(by rw [e] at h; simpa using h)).2 := by simp only [e, List.getElem_cons_succ]
            rw [e1, show ((sp 0 (i + 1) r)[n]'(by rw [e] at h; simpa using h)).2 - i = ((sp 0 (i + 1) r)[n]'(by rw [e] at h; simpa using h)).2 - (i + 1) + 1 by omega, List.drop_succ_cons, f, e, List.drop_succ_cons]
theorem sp_shift : ∀ (l : List UInt8) (k i a : Nat), sp k (i + a) l = (sp k i l).map fun p => (p.1, p.2 + a)
  | [], k, i, a => by cases k <;> simp [sp]
  | c :: r, k, i, a => by
    have ih := fun k => sp_shift r k (i + 1) a
    cases k with
    | succ k =>
      simp only [sp]
      rw [← ih k]; congr 1; omega
    | zero =>
      simp only [sp]
      rw [show i + a + 1 = i + 1 + a by omega]
      split
      · exact ih _
      · split
        · exact ih _
        · rw [ih]; rfl

theorem spPos_get (l : List UInt8) (n : Nat) (h : n < (spAt l 0).length) : (spPos l).getD n 0 = ((spAt l 0)[n]).2 := by
  unfold spPos
  rw [List.getD_eq_getElem?_getD, List.getElem?_append_left (by simpa using h)]
  simp [h]
/-- A text from a letter on. -/
theorem spAt_drop (l : List UInt8) (n : Nat) (h : n < (spText l).length) : (spAt (l.drop ((spPos l).getD n 0)) 0).map (fun p => (p.1, p.2 + (spPos l).getD n 0)) = (spAt l 0).drop n := by
  have h' : n < (spAt l 0).length := by simpa [spText] using h
  rw [spPos_get l n h']
  have h1 := sp_drop l 0 0 n h'
  rw [Nat.sub_zero] at h1
  have h2 := sp_shift (l.drop ((spAt l 0)[n]).2) 0 0 ((spAt l 0)[n]).2
  rw [Nat.zero_add] at h2
  exact h2.symm.trans h1
theorem spText_part (l : List UInt8) (n m : Nat) (hm : 0 < m) (h : n + m ≤ (spText l).length) : spText ((l.drop ((spPos l).getD n 0)).take ((spPos l).getD (n + m - 1) 0 + 1 - (spPos l).getD n 0)) = ((spText l).drop n).take m := by
  have hd := spAt_drop l n (by omega)
  have ht : spText (l.drop ((spPos l).getD n 0)) = (spText l).drop n := by
    have := congrArg (List.map Prod.fst) hd
    rw [List.map_map, List.map_drop] at this
    exact this
  have hlen : (spText (l.drop ((spPos l).getD n 0))).length = (spText l).length - n := by rw [ht, List.length_drop]
  have hp : (spPos (l.drop ((spPos l).getD n 0))).getD (m - 1) 0 + (spPos l).getD n 0 = (spPos l).getD (n + m - 1) 0 := by
    have a1 : m - 1 < (spAt (l.drop ((spPos l).getD n 0)) 0).length := by
      have : (spText (l.drop ((spPos l).getD n 0))).length = (spAt (l.drop ((spPos l).getD n 0)) 0).length := by simp [spText]
      omega
    have a2 : n + m - 1 < (spAt l 0).length := by
      have : (spText l).length = (spAt l 0).length := by simp [spText]
      omega
    rw [spPos_get _ _ a1, spPos_get _ _ a2]
    have e := congrArg (fun L => L[m - 1]?) hd
    have a3 : (List.map (fun p => (p.1, p.2 + (spPos l).getD n 0)) (spAt (l.drop ((spPos l).getD n 0)) 0))[m - 1]? = some (((spAt (l.drop ((spPos l).getD n 0)) 0)[m - 1]).1, ((spAt (l.drop ((spPos l).getD n 0)) 0)[m - 1]).2 + (spPos l).getD n 0) := by
      rw [List.getElem?_map, List.getElem?_eq_getElem a1]; rfl
    have a4 : ((spAt l 0).drop n)[m - 1]? = some ((spAt l 0)[n + m - 1]) := by
      rw [List.getElem?_drop, ← List.getElem?_eq_getElem a2]; congr 1; omega
    rw [a3, a4] at e
    exact congrArg Prod.snd (Option.some.inj e)
  have hc := spText_cut (l.drop ((spPos l).getD n 0)) m hm (by omega)
  rw [ht] at hc
  rw [← hc]
  congr 2
  omega

/-- Tokens stand one behind the other. -/
def stands (U : List UInt8) : Nat → List Raw → Prop
  | _, [] => True
  | i, t :: r => (i ≤ t.pos ∧ 0 < t.len ∧ t.pos + t.len ≤ U.length ∧ t.txt = (U.drop t.pos).take t.len) ∧ stands U (t.pos + t.len) r
theorem lxF_stands (U : List UInt8) : ∀ (n i st : Nat) (f : Bool), i ≤ U.length → stands U i (lxF n (U.drop i) i st f).1
  | 0, i, st, f, _ => trivial
  | n + 1, i, st, f, hi => by
    unfold lxF
    split
    · trivial
    split
    · trivial
    rename_i hne
    have hs := skip_le _ (U.drop i) (Nat.le_refl _)
    rw [List.length_drop] at hs
    split
    · trivial
    · rename_i kind m hp
      have hm := piece_le hp
      rw [List.length_drop, List.length_drop] at hm
      have hlt : (U.drop i).length ≠ (skip (U.drop i)).1 := fun h => hne (List.drop_of_length_le (by omega))
      rw [List.length_drop] at hlt
      refine ⟨⟨by show i ≤ i + _; omega, hm.1, by show i + (skip (U.drop i)).1 + m ≤ _; omega, by show _ = (U.drop (i + _)).take m; rw [List.drop_drop]⟩, ?_⟩
      rw [List.drop_drop, List.drop_drop]
      exact lxF_stands U n _ _ _ (show i + (skip (U.drop i)).1 + m ≤ U.length by omega)
theorem stands_at {U : List UInt8} : ∀ (ts : List Raw) (i : Nat), stands U i ts → ∀ j (h : j < ts.length), (0 < (ts[j]).len ∧ (ts[j]).pos + (ts[j]).len ≤ U.length ∧ (ts[j]).txt = (U.drop (ts[j]).pos).take (ts[j]).len) ∧ (∀ h0 : 0 < j, (ts[j - 1]).pos + (ts[j - 1]).len ≤ (ts[j]).pos)
  | [], i, _, j, h => by simp at h
  | t :: r, i, hs, j, h => by
    cases j with
    | zero => exact ⟨⟨hs.1.2.1, hs.1.2.2.1, hs.1.2.2.2⟩, fun h0 => absurd h0 (by omega)⟩
    | succ j =>
      have := stands_at r _ hs.2 j (by simpa using h)
      refine ⟨this.1, fun _ => ?_⟩
      cases j with
      | zero =>
        cases r with
        | nil => simp at h
        | cons t' r' => exact hs.2.1.1
      | succ j => exact this.2 (by omega)

theorem alive3_eq : prelaw3_alive = some true := by
  have hs : lex_Tokens 3 [97, 49, 32, 43, 61, 47, 42, 120, 42, 47, 39, 99, 39, 10, 35, 105, 110, 99, 108, 117, 100, 101, 32, 60, 112, 62] = some (toksV 3 [97, 49, 32, 43, 61, 47, 42, 120, 42, 47, 39, 99, 39, 10, 35, 105, 110, 99, 108, 117, 100, 101, 32, 60, 112, 62]) := ltokens_eq _ _ (by decide)
  unfold prelaw3_alive
  obtain ⟨z1, z2, _⟩ := toksV_small 3 [97, 49, 32, 43, 61, 47, 42, 120, 42, 47, 39, 99, 39, 10, 35, 105, 110, 99, 108, 117, 100, 101, 32, 60, 112, 62]
  have e1 : (toksV 3 [97, 49, 32, 43, 61, 47, 42, 120, 42, 47, 39, 99, 39, 10, 35, 105, 110, 99, 108, 117, 100, 101, 32, 60, 112, 62]) = ([⟨1, [97, 49], false, true, 3, 0, 2, 1, [], [], 0⟩, ⟨5, [43, 61], true, false, 3, 3, 5, 1, [], [], 0⟩, ⟨3, [39, 99, 39], true, false, 3, 10, 13, 1, [], [], 0⟩, ⟨5, [35], true, true, 3, 14, 15, 2, [], [], 0⟩, ⟨1, [105, 110, 99, 108, 117, 100, 101], false, false, 3, 15, 22, 2, [], [], 0⟩, ⟨7, [60, 112, 62], true, false, 3, 23, 26, 2, [], [], 0⟩], ⟨0, -1, 0⟩) := by decide +kernel
  rw [e1] at hs
  generalize hT : [(⟨1, [97, 49], false, true, 3, 0, 2, 1, [], [], 0⟩ : Token), ⟨5, [43, 61], true, false, 3, 3, 5, 1, [], [], 0⟩, ⟨3, [39, 99, 39], true, false, 3, 10, 13, 1, [], [], 0⟩, ⟨5, [35], true, true, 3, 14, 15, 2, [], [], 0⟩, ⟨1, [105, 110, 99, 108, 117, 100, 101], false, false, 3, 15, 22, 2, [], [], 0⟩, ⟨7, [60, 112, 62], true, false, 3, 23, 26, 2, [], [], 0⟩] = T at hs
  have j : lex_Join (List.take 3 T) = some [97, 49, 32, 43, 61, 32, 39, 99, 39] := by
    rw [ljoin_eq _ (by rw [← hT]; decide) (by rw [← hT]; decide), ← hT]
    exact congrArg some (by decide +kernel)
  have st : lex_Sticks [43] [61] = some true := by
    rw [lsticks_eq _ _ (by decide)]
    exact congrArg some (by decide +kernel)
  have li : ∃ L, lex_Lines T = some L ∧ (L.length : Int) = 2 := by
    rw [lines_eqV _ (by rw [← hT]; decide)]
    exact ⟨_, rfl, by rw [← hT]; rfl⟩
  obtain ⟨L, li, hL⟩ := li
  have nm : lex_Name [95, 120] = some true := by rw [lname_eq _ (by decide)]; rfl
  have le : lex_Letter 95 = some true := by rw [letter_eq]; rfl
  have di : lex_Digit 48 = some true := by rw [digit_eq]; rfl
  simp only [hs, j, st, li, nm, le, di, lsigns, hL, Option.bind_some]
  rw [← hT]
  rfl

theorem lexStands_eq (s : List UInt8) (h : s.length ≤ 1099511627776) : prelaw3_LexStands s = some true := by
  unfold prelaw3_LexStands
  rw [alive3_eq, ltokens_eq _ _ h]
  simp only [Option.bind_some, Bool.not_true, Bool.false_eq_true, if_false]
  unfold toksV
  by_cases h1 : 3000 < s.length
  · rw [if_pos h1]; rfl
  rw [if_neg h1]
  have hst := lxF_stands (spText s) ((spText s).length + 1) 0 0 true (Nat.zero_le _)
  rw [List.drop_zero] at hst
  have hsm := (lxF_small ((spText s).length + 1) (spText s) 0 0 true).1
  have htl := spText_length s
  unfold raws
  generalize lxF ((spText s).length + 1) (spText s) 0 0 true = z at hst hsm
  obtain ⟨ts, _ | p⟩ := z
  · have e0 : (!eqI (0 : Int) 0) = false := rfl
    simp only [e0, Bool.false_eq_true, if_false]
    simp only at hst hsm
    generalize hr : (List.map (tokOf 0 s) ts, (⟨0, -1, 0⟩ : Fault)) = r
    have hlen : r.1.length = ts.length := by rw [← hr]; simp
    have hget : ∀ j (hj : j < ts.length), r.1.getD j default = tokOf 0 s ts[j] := fun j hj => by
      rw [← hr, List.getD_eq_getElem?_getD, List.getElem?_map, List.getElem?_eq_getElem hj]; rfl
    have hA := stands_at ts 0 hst
    have hlp := spPos_length s
    have hend : ∀ j (hj : j < ts.length), (spPos s).getD ((ts[j]).pos + (ts[j]).len - 1) 0 < s.length := fun j hj => by
      obtain ⟨⟨a1, a2, _⟩, _⟩ := hA j hj
      exact (spPos_at s _ (by omega)).1
    have hmono : ∀ a b, a ≤ b → b < (spPos s).length → (spPos s).getD a 0 ≤ (spPos s).getD b 0 := fun a b h1 h2 => by
      rcases Nat.lt_or_eq_of_le h1 with h | h
      · exact Nat.le_of_lt (rises_lt (spPos_rises s) h h2)
      · rw [h]; exact Nat.le_refl _
    have := fold_loop (b := prelaw3_LexStands_b1 s r) r.1.length (fun j => if j = 0 then 0 else ((r.1.getD (j - 1) default).End)) true (fun j hj => ?_) ?_
    · have e : (List.map (tokOf 0 s) ts).length = r.1.length := by rw [hlen]; simp
      rw [e]; exact this
    · rw [hlen] at hj
      obtain ⟨⟨a1, a2, a3⟩, a4⟩ := hA j hj
      have hE := hend j hj
      have hM := hmono (ts[j]).pos ((ts[j]).pos + (ts[j]).len - 1) (by omega) (by omega)
      have hAt : (r.1.getD j default).At = (((spPos s).getD (ts[j]).pos 0 : Nat) : Int) := by rw [hget j hj]; rfl
      have hEn : (r.1.getD j default).End = (((spPos s).getD ((ts[j]).pos + (ts[j]).len - 1) 0 + 1 : Nat) : Int) := by rw [hget j hj]; rfl
      have hTx : (r.1.getD j default).Text = ((spText s).drop (ts[j]).pos).take (ts[j]).len := by rw [hget j hj]; exact a3
      have hpart := spText_part s (ts[j]).pos (ts[j]).len a1 a2
      have hne : ¬ ((spText s).drop (ts[j]).pos).take (ts[j]).len = [] := fun e => by have := congrArg List.length e; rw [List.length_take, List.length_drop, List.length_nil] at this; omega
      have hprev : ¬ (((spPos s).getD (ts[j]).pos 0 : Nat) : Int) < (if j = 0 then 0 else ((r.1.getD (j - 1) default).End)) := by
        by_cases h0 : j = 0
        · rw [if_pos h0]; omega
        · rw [if_neg h0, hget (j - 1) (by omega)]
          have a5 := a4 (by omega)
          obtain ⟨⟨b1, b2, _⟩, _⟩ := hA (j - 1) (by omega)
          have := rises_lt (spPos_rises s) (i := (ts[j - 1]).pos + (ts[j - 1]).len - 1) (j := (ts[j]).pos) (by omega) (by omega)
          show ¬ _ < (((spPos s).getD ((ts[j - 1]).pos + (ts[j - 1]).len - 1) 0 + 1 : Nat) : Int)
          omega
      have hend1 : (if j + 1 = 0 then 0 else ((r.1.getD (j + 1 - 1) default).End)) = (((spPos s).getD ((ts[j]).pos + (ts[j]).len - 1) 0 + 1 : Nat) : Int) := by
        rw [if_neg (by omega), Nat.add_sub_cancel, hEn]
      rw [hend1]
      simp only [prelaw3_LexStands_b1, prelaw3_LexStands_j2, ltI, leI, decide_eq_true_eq, Int.toNat_natCast, hAt, hEn, hTx]
      have heq : eqS (((spText s).drop (ts[j]).pos).take (ts[j]).len) [] = false := by rw [eqS_false]; exact hne
      have hsp := rsplice_eq ((s.drop ((spPos s).getD (ts[j]).pos 0)).take ((spPos s).getD ((ts[j]).pos + (ts[j]).len - 1) 0 + 1 - (spPos s).getD (ts[j]).pos 0)) (by rw [List.length_take, List.length_drop]; omega)
      have htx : (spS ((s.drop ((spPos s).getD (ts[j]).pos 0)).take ((spPos s).getD ((ts[j]).pos + (ts[j]).len - 1) 0 + 1 - (spPos s).getD (ts[j]).pos 0))).Text = ((spText s).drop (ts[j]).pos).take (ts[j]).len := hpart
      rw [hlen, if_pos (by omega), if_pos (by omega), if_neg hprev, if_neg (by omega), if_neg (by omega), heq, if_neg (by decide), if_pos (by omega), hsp]
      have es : ∀ x : List UInt8, (!eqS x x) = false := fun x => by simp [eqS]
      simp only [Option.bind_some, htx, es, Bool.false_eq_true, if_false]
      rw [wN1 j (by omega)]
    · simp only [prelaw3_LexStands_b1, ltI, decide_eq_true_eq]
      rw [if_neg (by omega)]; rfl
  · rfl
end Go.Proofs.Ytgkacglpjmndbaa
