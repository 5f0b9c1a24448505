/- lex: LexBlank answers true. Plain. -/
import Derived.Test.YtgkacglpjmndbaaLl
namespace Go.Proofs.Ytgkacglpjmndbaa
open Go.RowKit

def tX : List UInt8 → List UInt8
  | [] => []
  | c :: r => if c = 10 then 10 :: 32 :: 32 :: 47 :: 42 :: 32 :: 120 :: 32 :: 42 :: 47 :: 9 :: tX r else c :: tX r
theorem tX_tl : ∀ l : List UInt8, tX l ++ [47, 47, 32, 121] = tlN l
  | [] => rfl
  | c :: r => by
    have ih := tX_tl r
    unfold tX tlN
    split <;> simp [ih]
theorem tX_app : ∀ (l m : List UInt8), tX (l ++ m) = tX l ++ tX m
  | [], m => rfl
  | c :: r, m => by
    have ih := tX_app r m
    simp only [List.cons_append, tX, ih]
    split <;> simp
theorem tX_len : ∀ l : List UInt8, (tX l).length ≤ 11 * l.length
  | [] => by simp [tX]
  | c :: r => by
    have ih := tX_len r
    unfold tX
    split <;> (simp only [List.length_cons]; omega)
def goodL (l : List UInt8) : Prop := ∀ c ∈ l, c ≠ 92 ∧ c ≠ 47 ∧ c ≠ 42 ∧ c ≠ 13
theorem tlN_plain : ∀ l : List UInt8, goodL l → ∀ c ∈ tlN l, c ≠ 92 ∧ c ≠ 13
  | [], _, c, hc => by
    simp only [tlN, List.mem_cons, List.not_mem_nil, or_false] at hc
    rcases hc with rfl | rfl | rfl | rfl <;> decide
  | d :: r, h, c, hc => by
    have ih := tlN_plain r (fun x hx => h x (List.mem_cons_of_mem _ hx)) c
    have hd := h d (by simp)
    unfold tlN at hc
    split at hc
    · simp only [List.mem_cons] at hc
      rcases hc with rfl | rfl | rfl | rfl | rfl | rfl | rfl | rfl | rfl | rfl | rfl | hc
      all_goals first | decide | exact ih hc
    · rcases List.mem_cons.1 hc with rfl | hc
      · exact ⟨hd.1, hd.2.2.2⟩
      · exact ih hc

theorem lexBlank_same (s : List UInt8) (hg : goodL s) (h0 : (toksV 0 s).2.Err = 0) :
    (3000 < (tlN s).length ∧ toksV 0 (tlN s) = ([], ⟨4, 0, 0⟩)) ∨ ((toksV 0 (tlN s)).2.Err = 0 ∧ (toksV 0 (tlN s)).1.map (fun t => (t.Kind, t.Text, t.First)) = (toksV 0 s).1.map (fun t => (t.Kind, t.Text, t.First))) := by
  by_cases h1 : 3000 < (tlN s).length
  · exact .inl ⟨h1, by unfold toksV; rw [if_pos h1]⟩
  · refine .inr ?_
    have hs : ¬ 3000 < s.length := fun h => by unfold toksV at h0; rw [if_pos h] at h0; cases h0
    have p1 := spText_plain s (fun c hc => ⟨(hg c hc).1, (hg c hc).2.2.2⟩)
    have p2 := spText_plain (tlN s) (tlN_plain s hg)
    unfold toksV at h0 ⊢
    rw [if_neg hs] at h0 ⊢
    rw [if_neg h1]
    unfold raws at h0 ⊢
    rw [p1] at h0 ⊢
    rw [p2]
    have hc : clean s := fun c hc => (hg c hc).2.1
    generalize hz : lxF (s.length + 1) s 0 0 true = z at h0 ⊢
    obtain ⟨ts, o⟩ := z
    cases o with
    | some p => cases h0
    | none =>
      obtain ⟨a1, a2⟩ := tl_lx (s.length + 1) s 0 0 true (by omega) hc (by rw [hz]) ((tlN s).length + 1) 0 (by omega)
      rw [hz] at a2
      generalize lxF ((tlN s).length + 1) (tlN s) 0 0 true = y at a1 a2
      obtain ⟨us, o⟩ := y
      simp only at a1 a2
      subst a1
      refine ⟨rfl, ?_⟩
      have e : ∀ (u : List UInt8) (l : List Raw), (l.map (tokOf 0 u)).map (fun t => (t.Kind, t.Text, t.First)) = l.map keyR := fun u l => by
        rw [List.map_map]; rfl
      simp only [e, a2]

theorem lexBlank_b5 (x y : List Token × Fault) (h : y.1.map (fun t => (t.Kind, t.Text, t.First)) = x.1.map (fun t => (t.Kind, t.Text, t.First))) (hl : x.1.length ≤ 1099511627776) :
    loopO (prelaw3_LexBlank_b5 x y) ((x.1.length : Int), 0) = some true := by
  have hlen : y.1.length = x.1.length := by have := congrArg List.length h; simpa using this
  have := loopO_rule (b := prelaw3_LexBlank_b5 x y) (fun s => s.1 = (x.1.length : Int) ∧ ∃ j : Nat, j ≤ x.1.length ∧ s.2 = (j : Int)) (fun s => x.1.length - s.2.toNat) (fun r => r = true) (fun s hs => ?_) ((x.1.length : Int), 0) ⟨rfl, 0, Nat.zero_le _, rfl⟩
  · obtain ⟨r, h1, rfl⟩ := this; exact h1
  · obtain ⟨x7, x8⟩ := s
    obtain ⟨e1, j, hj, e2⟩ := hs
    simp only at e1 e2
    subst e1; subst e2
    by_cases hlt : j < x.1.length
    · have hx : x.1.getD j default = x.1[j] := by simp [List.getD_eq_getElem?_getD, List.getElem?_eq_getElem hlt]
      have hy : y.1.getD j default = y.1[j]'(by omega) := by simp [List.getD_eq_getElem?_getD, List.getElem?_eq_getElem (show j < y.1.length by omega)]
      have hk : ((y.1[j]'(by omega)).Kind, (y.1[j]'(by omega)).Text, (y.1[j]'(by omega)).First) = ((x.1[j]).Kind, (x.1[j]).Text, (x.1[j]).First) := by
        have := congrArg (fun l => l[j]?) h
        simp only [List.getElem?_map, List.getElem?_eq_getElem hlt, List.getElem?_eq_getElem (show j < y.1.length by omega), Option.map_some, Option.some.injEq] at this
        exact this
      simp only [Prod.mk.injEq] at hk
      refine ⟨.inl ((x.1.length : Int), ((j + 1 : Nat) : Int)), ?_, ⟨rfl, j + 1, by omega, rfl⟩, ?_⟩
      · simp only [prelaw3_LexBlank_b5, prelaw3_LexBlank_j6, ltI, eqI, eqS, eqB, decide_eq_true_eq, Int.toNat_natCast, hx, hy, hk.1, hk.2.1, hk.2.2, hlen]
        simp only [decide_true, Bool.not_true, Bool.false_eq_true, if_false]
        rw [if_pos (by omega), if_pos (by omega), if_pos (by omega), if_pos (by omega), if_pos (by omega), if_pos (by omega), if_pos (by omega), wN1 j (by omega)]
      · simp only; omega
    · refine ⟨.inr true, ?_, rfl⟩
      simp only [prelaw3_LexBlank_b5, ltI, decide_eq_true_eq]
      rw [if_neg (by omega)]; rfl

theorem lexBlank_eq (s : List UInt8) (h : s.length ≤ 68719476736) : prelaw3_LexBlank s = some true := by
  unfold prelaw3_LexBlank
  rw [alive3_eq, ltokens_eq _ _ (by omega)]
  simp only [Option.bind_some, Bool.not_true, Bool.false_eq_true, if_false]
  by_cases h0 : (toksV 0 s).2.Err = 0
  case neg =>
    have : eqI (toksV 0 s).2.Err 0 = false := by rw [eqI_false]; exact h0
    rw [this]; rfl
  have e0 : eqI (toksV 0 s).2.Err 0 = true := by rw [eqI_true]; exact h0
  rw [e0]
  simp only [Bool.not_true, Bool.false_eq_true, if_false]
  have := loopO_rule (b := prelaw3_LexBlank_b1 s (toksV 0 s)) (fun x => x.2.1 = (s.length : Int) ∧ ∃ j : Nat, j ≤ s.length ∧ x.2.2 = (j : Int) ∧ x.1 = tX (s.take j) ∧ goodL (s.take j)) (fun x => s.length - x.2.2.toNat) (fun r => r = true) (fun x hx => ?_) ([], (s.length : Int), 0) ⟨rfl, 0, Nat.zero_le _, rfl, rfl, by simp [goodL]⟩
  · obtain ⟨r, h1, rfl⟩ := this; exact h1
  · obtain ⟨x1, x2, x3⟩ := x
    obtain ⟨e1, j, hj, e2, e3, hg⟩ := hx
    simp only at e1 e2 e3
    subst e1; subst e2
    by_cases hlt : j < s.length
    · have hx : s.getD j 0 = s[j] := by simp [List.getD_eq_getElem?_getD, List.getElem?_eq_getElem hlt]
      have hlen := tX_len (s.take j)
      rw [List.length_take] at hlen
      have hone : List.take 1 (List.drop j s) = [s[j]] := by
        rw [List.drop_eq_getElem_cons hlt]; rfl
      have eqn : ∀ k : UInt8, eqI ((s[j]).toNat : Int) (k.toNat : Int) = decide (s[j] = k) := fun k => by
        unfold eqI
        by_cases hk : s[j] = k
        · rw [hk]; simp
        · have : ¬ ((s[j]).toNat : Int) = (k.toNat : Int) := fun e => hk (UInt8.toNat_inj.1 (by omega))
          simp [hk, this]
      have q92 := eqn 92; have q47 := eqn 47; have q42 := eqn 42; have q13 := eqn 13; have q10 := eqn 10
      have r92 : ((92 : UInt8).toNat : Int) = 92 := rfl
      have r47 : ((47 : UInt8).toNat : Int) = 47 := rfl
      have r42 : ((42 : UInt8).toNat : Int) = 42 := rfl
      have r13 : ((13 : UInt8).toNat : Int) = 13 := rfl
      have r10 : ((10 : UInt8).toNat : Int) = 10 := rfl
      rw [r92] at q92; rw [r47] at q47; rw [r42] at q42; rw [r13] at q13; rw [r10] at q10
      by_cases hb : s[j] = 92 ∨ s[j] = 47 ∨ s[j] = 42 ∨ s[j] = 13
      · refine ⟨.inr true, ?_, rfl⟩
        simp only [prelaw3_LexBlank_b1, prelaw3_LexBlank_j3, ltI, decide_eq_true_eq, Int.toNat_natCast, hx, q92, q47, q42, q13]
        rw [if_pos (by omega), if_pos (by omega)]
        by_cases c1 : s[j] = 92
        · rw [if_pos c1]; rfl
        rw [if_neg c1, if_pos (by omega)]
        by_cases c2 : s[j] = 47
        · rw [if_pos c2]; rfl
        rw [if_neg c2, if_pos (by omega)]
        by_cases c3 : s[j] = 42
        · rw [if_pos c3]; rfl
        rw [if_neg c3, if_pos (by omega)]
        have c4 : s[j] = 13 := by
          rcases hb with h | h | h | h
          · exact absurd h c1
          · exact absurd h c2
          · exact absurd h c3
          · exact h
        rw [if_pos c4]; rfl
      · simp only [not_or] at hb
        obtain ⟨b1, b2, b3, b4⟩ := hb
        have htake : s.take (j + 1) = s.take j ++ [s[j]] := List.take_succ_eq_append_getElem hlt
        refine ⟨.inl (tX (s.take (j + 1)), (s.length : Int), ((j + 1 : Nat) : Int)), ?_, ⟨rfl, j + 1, by omega, rfl, rfl, ?_⟩, ?_⟩
        · subst e3
          simp (config := {maxSteps := 2000000}) only [prelaw3_LexBlank_b1, prelaw3_LexBlank_j3, prelaw3_LexBlank_j2, ltI, decide_eq_true_eq, Int.toNat_natCast, hx, q92, q47, q42, q13, q10, b1, b2, b3, b4, decide_false, Bool.false_eq_true, if_false, wN1 j (by omega)]
          rw [show j + 1 - j = 1 by omega, hone, htake, tX_app]
          rw [if_pos (by omega), if_pos (by omega), if_pos (by omega), if_pos (by omega), if_pos (by omega), if_pos (by omega), if_pos (by simp only [List.length_cons, List.length_nil]; omega), if_pos (by omega)]
          by_cases h10 : s[j] = 10
          · rw [if_pos h10, if_pos (by simp only [List.length_append, List.length_cons, List.length_nil]; omega)]
            simp [tX, h10]
          · rw [if_neg h10]
            simp [tX, h10]
        · intro c hc
          rw [htake, List.mem_append, List.mem_singleton] at hc
          rcases hc with hc | rfl
          · exact hg c hc
          · exact ⟨b1, b2, b3, b4⟩
        · simp only; omega
    · have hjs : j = s.length := by omega
      subst hjs
      rw [List.take_length] at e3 hg
      refine ⟨.inr true, ?_, rfl⟩
      have hlen := tX_len s
      have htl := tX_tl s
      have hsum : (tlN s).length = (tX s).length + 4 := by rw [← htl]; simp
      simp only [prelaw3_LexBlank_b1, ltI, decide_eq_true_eq, e3]
      rw [if_neg (by omega)]
      refine inrO_of ?_
      by_cases hbig : (3000 : Int) < ((tX s).length : Int)
      · rw [if_pos hbig]
      rw [if_neg hbig, if_pos (by omega), htl, ltokens_eq _ _ (by omega)]
      simp only [Option.bind_some]
      rcases lexBlank_same s hg h0 with ⟨c1, c2⟩ | ⟨c1, c2⟩
      · rw [c2]
        have : eqI (4 : Int) 0 = false := rfl
        simp only [this, Bool.not_false, if_true, prelaw3_LexBlank_j4, ltI]
        rw [wr _ (by omega)]
        simp only [Option.some.injEq, decide_eq_true_eq]
        omega
      · have q : eqI (toksV 0 (tlN s)).2.Err 0 = true := by rw [eqI_true]; exact c1
        have ql : eqI ((toksV 0 s).1.length : Int) ((toksV 0 (tlN s)).1.length : Int) = true := by
          rw [eqI_true]
          have := congrArg List.length c2
          simp only [List.length_map] at this
          omega
        rw [q, ql]
        simp only [Bool.not_true, Bool.false_eq_true, if_false, prelaw3_LexBlank_j4]
        exact lexBlank_b5 _ _ c2 (by have := (toksV_small 0 s).1; omega)
end Go.Proofs.Ytgkacglpjmndbaa
