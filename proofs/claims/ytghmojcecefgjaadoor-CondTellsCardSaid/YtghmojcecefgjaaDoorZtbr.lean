/- The document's levels, choices and atoms come to what the program's do. Plain. -/
import Derived.Test.YtghmojcecefgjaaDoorZtbq
set_option linter.unusedVariables false
set_option linter.unusedSimpArgs false
namespace Go.Proofs.YtghmojcecefgjaaDoor
open Go.RowKit
theorem loopO_inr {S R : Type} {b : S → Option (S ⊕ R)} {s : S} {o : Option R} (h : b s = inrO o) : loopO b s = o := by
  rw [loopO_eq, h]
  cases o <;> rfl
theorem ropV_ne {s : List UInt8} {a b e : Int} (h : opV s a b = .inr e) : e ≠ 0 := by
  unfold opV at h
  by_cases h0 : s = [124]
  · rw [if_pos h0] at h; cases h
  rw [if_neg h0] at h
  by_cases h0 : s = [94]
  · rw [if_pos h0] at h; cases h
  rw [if_neg h0] at h
  by_cases h0 : s = [38]
  · rw [if_pos h0] at h; cases h
  rw [if_neg h0] at h
  by_cases h0 : s = [61, 61]
  · rw [if_pos h0] at h; cases h
  rw [if_neg h0] at h
  by_cases h0 : s = [33, 61]
  · rw [if_pos h0] at h; cases h
  rw [if_neg h0] at h
  by_cases h0 : s = [60]
  · rw [if_pos h0] at h; cases h
  rw [if_neg h0] at h
  by_cases h0 : s = [62]
  · rw [if_pos h0] at h; cases h
  rw [if_neg h0] at h
  by_cases h0 : s = [60, 61]
  · rw [if_pos h0] at h; cases h
  rw [if_neg h0] at h
  by_cases h0 : s = [62, 61]
  · rw [if_pos h0] at h; cases h
  rw [if_neg h0] at h
  by_cases h0 : s = [43]
  · rw [if_pos h0] at h; cases h
  rw [if_neg h0] at h
  by_cases h0 : s = [45]
  · rw [if_pos h0] at h; cases h
  rw [if_neg h0] at h
  by_cases h0 : s = [42]
  · rw [if_pos h0] at h; cases h
  rw [if_neg h0] at h
  by_cases h0 : s = [60, 60]
  · rw [if_pos h0] at h
    by_cases h1 : b < 0 ∨ 63 < b
    · rw [if_pos h1] at h; injection h with h; omega
    · rw [if_neg h1] at h; cases h
  rw [if_neg h0] at h
  by_cases h0 : s = [62, 62]
  · rw [if_pos h0] at h
    by_cases h1 : b < 0 ∨ 63 < b
    · rw [if_pos h1] at h; injection h with h; omega
    · rw [if_neg h1] at h; cases h
  rw [if_neg h0] at h
  by_cases h1 : b = 0
  · rw [if_pos h1] at h; injection h with h; omega
  rw [if_neg h1] at h
  by_cases h1 : b = -1
  · rw [if_pos h1] at h
    by_cases h2 : s = [47]
    · rw [if_pos h2] at h; cases h
    · rw [if_neg h2] at h; cases h
  rw [if_neg h1] at h
  by_cases h2 : s = [47]
  · rw [if_pos h2] at h; cases h
  · rw [if_neg h2] at h; cases h
noncomputable def lvK (q2 : P2) (n : Int) (l : List Token) (a i d z : Int) (h : Bool) : Option (T7 ⊕ T7) := loopO (preref4_C_Level_b3 q2 n l a i 0 (-1) 0 d z) (h, [], 0, 0)
theorem b3_end (q2 : P2) (n : Int) (l : List Token) (a i d z : Int) (h : Bool) (ss : List (List UInt8)) (k : Nat) (hk : ss.length ≤ k) :
    loopO (preref4_C_Level_b3 q2 n l a i 0 (-1) 0 d z) (h, ss, (ss.length : Int), (k : Int)) = lvK q2 n l a i d z h := by
  unfold lvK
  rw [loopO_eq, loopO_eq (s := (h, [], 0, 0)), preref4_C_Level_b3, preref4_C_Level_b3, li_f (show ¬ (k : Int) < (ss.length : Int) by omega), li_f (show ¬ (0 : Int) < 0 by omega), if_neg (show ¬ (false = true) by decide), if_neg (show ¬ (false = true) by decide)]
theorem b3_loop (q2 : P2) (n : Int) (l : List Token) (a : Int) (i : Nat) (d z : Int) (ss : List (List UInt8)) (hn : ∀ s ∈ ss, s ≠ []) (hss : ss.length ≤ 100) : ∀ (m k : Nat) (h : Bool), k ≤ ss.length → ss.length - k ≤ m →
    loopO (preref4_C_Level_b3 q2 n l a (i : Int) 0 (-1) 0 d z) (h, ss, (ss.length : Int), (k : Int)) = lvK q2 n l a (i : Int) d z (h || (ss.drop k).any fun x => decide (signAt l i = x)) := by
  intro m
  induction m with
  | zero =>
    intro k h h1 h2
    have : k = ss.length := by omega
    rw [b3_end _ _ _ _ _ _ _ _ _ _ (by omega), this, List.drop_length, List.any_nil, Bool.or_false]
  | succ m ih =>
    intro k h h1 h2
    rcases Nat.lt_or_ge k ss.length with hlt | hge
    · have hdr : ss.drop k = ss.getD k default :: ss.drop (k + 1) := by
        rw [List.drop_eq_getElem_cons hlt]
        simp [List.getD_eq_getElem?_getD, List.getElem?_eq_getElem hlt]
      have hne : ss.getD k default ≠ [] := hn _ (by
        have : ss.getD k default = ss[k] := by simp [List.getD_eq_getElem?_getD, List.getElem?_eq_getElem hlt]
        rw [this]; exact List.getElem_mem hlt)
      have nx : ∀ g : Bool, preref4_C_Level_j4 ss (ss.length : Int) (k : Int) g = some (.inl (g, ss, (ss.length : Int), ((k + 1 : Nat) : Int))) := fun g => by
        rw [preref4_C_Level_j4, w1 k (by omega)]
      rw [loopO_eq, preref4_C_Level_b3, li_t (show (k : Int) < (ss.length : Int) by omega), if_pos rfl, Int.toNat_natCast, if_pos (show (0 : Int) ≤ (k : Int) ∧ k < ss.length by omega), hdr, List.any_cons]
      cases h with
      | true =>
        rw [if_pos rfl, nx]
        show loopO _ (true, ss, (ss.length : Int), ((k + 1 : Nat) : Int)) = _
        rw [ih (k + 1) true (by omega) (by omega), Bool.true_or, Bool.true_or]
      | false =>
        rw [if_neg (by decide), ris_eq _ hne, Option.bind_some, nx]
        show loopO _ (_, ss, (ss.length : Int), ((k + 1 : Nat) : Int)) = _
        rw [ih (k + 1) _ (by omega) (by omega), Bool.false_or]
    · have : k = ss.length := by omega
      rw [b3_end _ _ _ _ _ _ _ _ _ _ (by omega), this, List.drop_length, List.any_nil, Bool.or_false]
theorem lvL_ne : ∀ n < 10, (∀ s ∈ lvL.getD n [], s ≠ []) ∧ (lvL.getD n []).length ≤ 100 := by decide
theorem lvK_no (q2 : P2) (n : Int) (l : List Token) (a i d z : Int) : lvK q2 n l a i d z false = some (.inr (a, i, 0, -1, 0, d, z)) := by
  unfold lvK
  rw [loopO_eq, preref4_C_Level_b3, li_f (show ¬ (0 : Int) < 0 by omega), if_neg (by decide)]
  rfl
theorem lvK_yes (q2 : P2) (n : Int) (l : List Token) (a : Int) (i : Nat) (d : Int) (z : Nat) (hz : z < 4611686018427387904) (hi : signAt l i ≠ []) :
    lvK q2 n l a (i : Int) d (z : Int) true = preref4_C_Level_j6 q2 n l a (i : Int) 0 (-1) 0 d (signAt l i) (skipV (signAt l i) a, ((if skipV (signAt l i) a = true then z + 1 else z : Nat) : Int)) := by
  have hlt := sign_lt (l := l) (i := i) rfl hi
  have hs : (l.getD i default).Text = signAt l i := by
    unfold signAt at hi ⊢
    by_cases q : i < l.length ∧ (l.getD i default).Kind = 5
    · rw [if_pos q]
    · rw [if_neg q] at hi; exact absurd rfl hi
  have j5 : ∀ g : Bool, preref4_C_Level_j5 q2 n l a (i : Int) 0 (-1) 0 d (z : Int) (signAt l i, g) = preref4_C_Level_j6 q2 n l a (i : Int) 0 (-1) 0 d (signAt l i) (g, ((if g = true then z + 1 else z : Nat) : Int)) := by
    intro g
    rw [preref4_C_Level_j5]
    cases g with
    | true => rw [if_pos rfl, if_pos rfl, w1 z hz]
    | false => rw [if_neg (by decide), if_neg (by decide)]
  unfold lvK
  refine loopO_inr ?_
  rw [preref4_C_Level_b3, li_f (show ¬ (0 : Int) < 0 by omega), if_neg (by decide), if_neg (show ¬ (!true) = true by decide), Int.toNat_natCast, if_pos (show (0 : Int) ≤ (i : Int) ∧ i < l.length by omega), hs]
  refine congrArg inrO ?_
  rw [← j5]
  unfold skipV
  by_cases h1 : signAt l i = [38, 38]
  · have h2 : ¬ signAt l i = [124, 124] := by rw [h1]; decide
    rw [es_t h1, if_pos rfl, decide_eq_true h1, decide_eq_false h2, es_f h2]
    by_cases ha : a = 0
    · rw [ei_t ha, if_pos rfl, decide_eq_true ha]; rfl
    · rw [ei_f ha, if_neg (by decide), if_neg (by decide), decide_eq_false ha]; rfl
  rw [es_f h1, if_neg (by decide), decide_eq_false h1]
  by_cases h2 : signAt l i = [124, 124]
  · rw [es_t h2, if_pos rfl, decide_eq_true h2]
    by_cases ha : a = 0
    · rw [ei_t ha, decide_eq_true ha]; rfl
    · rw [ei_f ha, decide_eq_false ha]; rfl
  · rw [es_f h2, if_neg (by decide), decide_eq_false h2]; rfl
theorem j7_ok {l : List Token} (hl : l.length < 1099511627776) (a b : Int) (hin : inR a) (i j d z zz : Nat) (s : List UInt8) (hi : i < l.length) (hs : signAt l i = s) (ht : tightV s ≠ 0) :
    preref4_C_Level_j7 l a (i : Int) s (b, (j : Int), 0, -1, 0, (d : Int), (zz : Int)) (z : Int) = some (.inl (match combV s a b z with
      | .inl v => (v, (j : Int), 0, -1, 0, (d : Int), (z : Int))
      | .inr e => (0, (j : Int), e, (faultAt l i).1, (faultAt l i).2, (d : Int), (z : Int)))) := by
  rw [preref4_C_Level_j7]
  dsimp only
  rw [ei_t rfl, if_neg (by decide)]
  have hx : (l.getD i default).Text = s := by
    unfold signAt at hs
    by_cases q : i < l.length ∧ (l.getD i default).Kind = 5
    · rw [if_pos q] at hs; exact hs
    · rw [if_neg q] at hs; subst hs; exact absurd rfl ht
  unfold combV
  by_cases h1 : s = [38, 38]
  · rw [es_t h1, if_pos rfl, if_pos h1]
    by_cases ha : a = 0
    · rw [ei_t ha, if_neg (by decide), decide_eq_true ha]; rfl
    · rw [ei_f ha, if_pos (by decide), decide_eq_false ha, rone_eq]; rfl
  rw [es_f h1, if_neg (by decide), if_neg h1]
  by_cases h2 : s = [124, 124]
  · rw [es_t h2, if_pos rfl, if_pos h2]
    by_cases ha : a = 0
    · rw [ei_t ha, if_neg (by decide), decide_eq_true ha, rone_eq]; rfl
    · rw [ei_f ha, if_pos (by decide), decide_eq_false ha]; rfl
  rw [es_f h2, if_neg (by decide), if_neg h2]
  have ho : preref4_C_Op (i : Int) a b l 0 (-1) 0 (d : Int) (z : Int) = some (match opV s a b with
      | .inl v => (v, 0, -1, 0)
      | .inr e => if z = 0 then (0, e, (faultAt l i).1, (faultAt l i).2) else (0, 0, -1, 0)) := by
    rw [rop_eq hl a b hin i d z s hi hx ((lv_any s).2 ht h1 h2)]
    cases opV s a b <;> rfl
  rw [ho, Option.bind_some]
  cases opV s a b with
  | inl v => rfl
  | inr e =>
    cases z with
    | zero => rfl
    | succ z => rfl
theorem b2_run (q2 : P2) (n : Nat) (hn : n < 10) (l : List Token) (a : Int) (i d z : Nat) (hz : z < 4611686018427387904) :
    preref4_C_Level_b2 q2 (n : Int) l (a, (i : Int), 0, -1, 0, (d : Int), (z : Int)) = if tightV (signAt l i) ≠ n + 1 then some (.inr (a, (i : Int), 0, -1, 0, (d : Int), (z : Int))) else
      preref4_C_Level_j6 q2 (n : Int) l a (i : Int) 0 (-1) 0 (d : Int) (signAt l i) (skipV (signAt l i) a, ((if skipV (signAt l i) a = true then z + 1 else z : Nat) : Int)) := by
  have hg : lvL.getD n default = lvL.getD n [] := rfl
  have h10 : lvL.length = 10 := rfl
  obtain ⟨g1, g2⟩ := lvL_ne n hn
  rw [preref4_C_Level_b2, ei_t rfl, if_pos rfl, rlev, Option.bind_some, Int.toNat_natCast, if_pos (show (0 : Int) ≤ (n : Int) ∧ n < lvL.length by omega), hg]
  have := b3_loop q2 (n : Int) l a i (d : Int) (z : Int) (lvL.getD n []) g1 g2 (lvL.getD n []).length 0 false (Nat.zero_le _) (by omega)
  rw [show loopO (preref4_C_Level_b3 q2 (n : Int) l a (i : Int) 0 (-1) 0 (d : Int) (z : Int)) (false, lvL.getD n [], ((lvL.getD n []).length : Int), 0) = _ from this, List.drop_zero, Bool.false_or, (lv_any (signAt l i)).1 n hn]
  by_cases h : tightV (signAt l i) = n + 1
  · rw [decide_eq_true h, if_neg (fun q => q h), lvK_yes q2 _ _ _ _ _ _ hz (fun q => by rw [q] at h; cases h)]
  · rw [decide_eq_false h, if_pos h, lvK_no]
theorem el_is {l : List Token} (hl : l.length < 1099511627776) {q2 : P2} {bin : Nat → Nat → Nat → Nat → Res} (n i0 d z : Nat) (hn : n < 10) (hz : z ≤ i0) (hi0 : i0 ≤ l.length)
    (H : ∀ j z' : Nat, i0 < j → j ≤ l.length → z' ≤ j → IsR l j d z' (q2 ((n + 1 : Nat) : Int) j l 0 (-1) 0 d z') (bin (n + 2) j d z') ∧ Wf j l.length (bin (n + 2) j d z')) :
    ∀ (k : Nat) (a : Int) (i : Nat), inR a → i0 ≤ i → i ≤ l.length → l.length - i < k →
      IsR l i0 d z (loopO (preref4_C_Level_b2 q2 (n : Int) l) (a, (i : Int), 0, -1, 0, (d : Int), (z : Int))) (elV bin l (n + 1) k a i d z) := by
  intro k
  induction k with
  | zero => intro a i ha h1 h2 h3; omega
  | succ k ih =>
    intro a i ha h1 h2 h3
    rw [loopO_eq, elV, b2_run q2 n hn l a i d z (by omega)]
    by_cases he : tightV (signAt l i) ≠ n + 1
    · rw [if_pos he, if_pos he]
      rfl
    · rw [if_neg he, if_neg he]
      have hne : signAt l i ≠ [] := by
        intro h; rw [h] at he
        have : tightV [] = 0 := rfl
        omega
      have hlt := sign_lt (l := l) (i := i) rfl hne
      obtain ⟨g1, g2⟩ := H (i + 1) (if skipV (signAt l i) a = true then z + 1 else z) (by omega) (by omega) (by split <;> omega)
      rw [preref4_C_Level_j6, w1 n (by omega), w1 i (by omega)]
      cases hr : bin (n + 2) (i + 1) d (if skipV (signAt l i) a = true then z + 1 else z) with
      | er e f p =>
        rw [hr] at g1
        obtain ⟨he0, v, j, d', z', g3, g4⟩ := g1
        rw [g3, Option.bind_some]
        have hj7 : ∀ w, preref4_C_Level_j7 l a (i : Int) (signAt l i) (v, (j : Int), e, f, p, d', z') w = some (.inr (a, (i : Int), e, f, p, d', w)) := by
          intro w
          rw [preref4_C_Level_j7]
          dsimp only
          rw [ei_f he0, if_pos (by decide)]
          rfl
        rw [hj7, hj7]
        obtain ⟨w, hw⟩ : ∃ w, (if skipV (signAt l i) a = true then some (Sum.inr (a, (i : Int), e, f, p, d', IntKind.i64.wrap (z' - 1))) else some (.inr (a, (i : Int), e, f, p, d', z')) : Option (T7 ⊕ T7)) = some (.inr (a, (i : Int), e, f, p, d', w)) := by
          cases skipV (signAt l i) a
          · exact ⟨_, rfl⟩
          · exact ⟨_, rfl⟩
        dsimp only
        rw [hw]
        exact ⟨he0, a, i, d', w, rfl, by omega⟩
      | ok b j =>
        rw [hr] at g1 g2
        rw [show q2 ((n + 1 : Nat) : Int) ((i + 1 : Nat) : Int) l 0 (-1) 0 d _ = _ from g1, Option.bind_some]
        obtain ⟨g5, g6⟩ := g2
        have hzi : (if skipV (signAt l i) a = true then preref4_C_Level_j7 l a (i : Int) (signAt l i) (b, (j : Int), 0, -1, 0, (d : Int), ((if skipV (signAt l i) a = true then z + 1 else z : Nat) : Int)) (IntKind.i64.wrap (((if skipV (signAt l i) a = true then z + 1 else z : Nat) : Int) - 1))
            else preref4_C_Level_j7 l a (i : Int) (signAt l i) (b, (j : Int), 0, -1, 0, (d : Int), ((if skipV (signAt l i) a = true then z + 1 else z : Nat) : Int)) ((if skipV (signAt l i) a = true then z + 1 else z : Nat) : Int)) =
            preref4_C_Level_j7 l a (i : Int) (signAt l i) (b, (j : Int), 0, -1, 0, (d : Int), ((if skipV (signAt l i) a = true then z + 1 else z : Nat) : Int)) (z : Int) := by
          cases hp : skipV (signAt l i) a with
          | true => rw [if_pos rfl, if_pos rfl, wm1 z (by omega)]
          | false => rw [if_neg (by decide), if_neg (by decide)]
        dsimp only
        rw [hzi, j7_ok hl a b ha i j d z _ (signAt l i) hlt rfl (by omega)]
        show IsR l i0 d z (loopO _ (match combV (signAt l i) a b z with | .inl v => _ | .inr e => _)) (match combV (signAt l i) a b z with | .inl v => _ | .inr e => _)
        cases hcv : combV (signAt l i) a b z with
        | inl v => exact ih v j (combV_in ha hcv) (by omega) g6 (by omega)
        | inr e =>
          have he0 : e ≠ 0 := by
            unfold combV at hcv
            split at hcv
            · cases hcv
            split at hcv
            · cases hcv
            cases ho : opV (signAt l i) a b with
            | inl v => rw [ho] at hcv; cases hcv
            | inr e' =>
              rw [ho] at hcv
              have hcv : (if z = 0 then Sum.inr e' else Sum.inl 0 : Int ⊕ Int) = .inr e := hcv
              split at hcv
              · cases hcv
                exact ropV_ne ho
              · cases hcv
          dsimp only
          rw [loopO_eq, preref4_C_Level_b2, ei_f he0, if_neg (by decide)]
          exact ⟨he0, 0, j, _, _, rfl, by omega⟩
end Go.Proofs.YtghmojcecefgjaaDoor
