/- What tokens come to: signs between, and what stands between them; the program's three are one function. Plain. -/
import Derived.Test.YtghmojcecefgjaaDoorZoav
set_option linter.unusedVariables false
set_option linter.unusedSimpArgs false
namespace Go.Proofs.YtghmojcecefgjaaDoor
open Go.RowKit
theorem j5_eq {l : List Token} (hl : l.length < 1099511627776) (a b : Int) (i j d z : Nat) (s : List UInt8) (r4 : Int × Int × Int × Int) (e1 : r4.1 = b) (e2 : r4.2.1 = (j : Int)) (e3 : r4.2.2.1 = (d : Int)) :
    ∃ x, cond_parser_binary_j5 l a (i : Int) s r4 (z : Int) = some (match combV s a b z with
      | .inl v => .inl (v, (j : Int), (d : Int), (z : Int))
      | .inr e => .inr (.er (e, (faultAt l i).1, (faultAt l i).2, x))) := by
  refine ⟨((i : Int), (d : Int), (z : Int)), ?_⟩
  rw [cond_parser_binary_j5, e1, e2, e3]
  unfold combV
  simp only [one_eq, Option.bind_some]
  by_cases h1 : s = [38, 38]
  · rw [es_t h1, if_pos rfl, if_pos h1]
    by_cases ha : a = 0
    · rw [ei_t ha, if_neg (by decide), decide_eq_true ha]; rfl
    · rw [ei_f ha, if_pos (by decide), decide_eq_false ha]; rfl
  rw [es_f h1, if_neg (by decide), if_neg h1]
  by_cases h2 : s = [124, 124]
  · rw [es_t h2, if_pos rfl, if_pos h2]
    by_cases ha : a = 0
    · rw [ei_t ha, if_neg (by decide), decide_eq_true ha]; rfl
    · rw [ei_f ha, if_pos (by decide), decide_eq_false ha]; rfl
  rw [es_f h2, if_neg (by decide), if_neg h2, op_eq s a b i l (by omega)]
  cases opV s a b with
  | inl v => rfl
  | inr e =>
    cases z with
    | zero => rfl
    | succ z => rfl
theorem b1_end {l : List Token} {q2 : Q2} {least : Nat} (a : Int) (i d z : Nat) (h : tightV (signAt l i) = 0 ∨ tightV (signAt l i) < least) :
    cond_parser_binary_b1 q2 (least : Int) l (a, (i : Int), (d : Int), (z : Int)) = some (.inr (.ok (a, (i : Int), (d : Int), (z : Int)))) := by
  rw [cond_parser_binary_b1]
  rw [peek_eq, Option.bind_some, tight_eq, Option.bind_some]
  have hj : ∀ s t, cond_parser_binary_j2 q2 l a (i : Int) (d : Int) (z : Int) s t true = some (.inr (.ok (a, (i : Int), (d : Int), (z : Int)))) := fun s t => by
    rw [cond_parser_binary_j2, if_pos rfl]; rfl
  by_cases h0 : tightV (signAt l i) = 0
  · rw [ei_t (show ((tightV (signAt l i) : Nat) : Int) = 0 by omega), if_pos rfl, hj]
  · rw [ei_f (show ¬ ((tightV (signAt l i) : Nat) : Int) = 0 by omega), if_neg (by decide), li_t (show ((tightV (signAt l i) : Nat) : Int) < (least : Int) by omega), hj]
theorem j4_eq {l : List Token} (hl : l.length < 1099511627776) {q2 : Q2} (a : Int) (i d z t : Nat) (ht : t ≤ 10) (s : List UInt8) (hz : z ≤ l.length) (p : Bool) (zz : Nat) (hzz : zz = if p = true then z + 1 else z) (r : Res)
    (H : Is d zz (q2 ((t + 1 : Nat) : Int) l ((i + 1 : Nat) : Int) d zz) r) :
    (∀ b j, r = .ok b j → ∃ x, cond_parser_binary_j4 q2 l a (i : Int) (d : Int) s (t : Int) ((i + 1 : Nat) : Int) (p, (zz : Int)) = some (match combV s a b z with
      | .inl v => .inl (v, (j : Int), (d : Int), (z : Int))
      | .inr e => .inr (.er (e, (faultAt l i).1, (faultAt l i).2, x)))) ∧
    (∀ e f g, r = .er e f g → ∃ x, cond_parser_binary_j4 q2 l a (i : Int) (d : Int) s (t : Int) ((i + 1 : Nat) : Int) (p, (zz : Int)) = some (.inr (.er (e, f, g, x)))) := by
  rw [cond_parser_binary_j4, w1 t (by omega)]
  constructor
  · rintro b j rfl
    rw [show q2 ((t + 1 : Nat) : Int) l ((i + 1 : Nat) : Int) d zz = _ from H]
    show ∃ x, (if p = true then cond_parser_binary_j5 l a (i : Int) s _ (IntKind.i64.wrap ((zz : Int) - 1)) else cond_parser_binary_j5 l a (i : Int) s _ (zz : Int)) = _
    have hzi : (if p = true then cond_parser_binary_j5 l a (i : Int) s (b, (j : Int), (d : Int), (zz : Int)) (IntKind.i64.wrap ((zz : Int) - 1)) else cond_parser_binary_j5 l a (i : Int) s (b, (j : Int), (d : Int), (zz : Int)) (zz : Int)) = cond_parser_binary_j5 l a (i : Int) s (b, (j : Int), (d : Int), (zz : Int)) (z : Int) := by
      cases p with
      | true => rw [if_pos rfl, hzz, if_pos rfl, wm1 z (by omega)]
      | false => rw [if_neg (show ¬ (false = true) by decide)] at hzz ⊢; rw [hzz]
    rw [hzi]
    exact j5_eq hl a b i j d z s _ rfl rfl rfl
  · rintro e f g rfl
    obtain ⟨w, hw⟩ := H
    rw [hw]
    exact ⟨_, rfl⟩
theorem j2b_eq {l : List Token} {q2 : Q2} (a : Int) (i d z t : Nat) (s : List UInt8) (hz : z ≤ l.length) (hl : l.length < 1099511627776) (hi : i ≤ l.length) :
    cond_parser_binary_j2 q2 l a (i : Int) (d : Int) (z : Int) s (t : Int) false = cond_parser_binary_j4 q2 l a (i : Int) (d : Int) s (t : Int) ((i + 1 : Nat) : Int) (skipV s a, ((if skipV s a = true then z + 1 else z : Nat) : Int)) := by
  have h3 : ∀ p : Bool, cond_parser_binary_j3 q2 l a (i : Int) (d : Int) (z : Int) s (t : Int) (p, ((i + 1 : Nat) : Int)) = cond_parser_binary_j4 q2 l a (i : Int) (d : Int) s (t : Int) ((i + 1 : Nat) : Int) (p, ((if p = true then z + 1 else z : Nat) : Int)) := by
    intro p
    rw [cond_parser_binary_j3]
    cases p with
    | true => rw [if_pos rfl, if_pos rfl, w1 z (by omega)]
    | false => rw [if_neg (by decide), if_neg (by decide)]
  rw [cond_parser_binary_j2, if_neg (by decide), w1 i (by omega), h3, h3, h3]
  unfold skipV
  by_cases h1 : s = [38, 38]
  · have h2 : ¬ s = [124, 124] := by rw [h1]; decide
    rw [es_t h1, if_pos rfl, decide_eq_true h1, decide_eq_false h2, es_f h2]
    by_cases ha : a = 0
    · rw [ei_t ha, if_pos rfl, decide_eq_true ha]; rfl
    · rw [ei_f ha, if_neg (by decide), if_neg (by decide), decide_eq_false ha]; rfl
  rw [es_f h1, if_neg (by decide), decide_eq_false h1]
  by_cases h2 : s = [124, 124]
  · rw [es_t h2, if_pos rfl, decide_eq_true h2]
    by_cases ha : a = 0
    · rw [ei_t ha, decide_eq_true ha]; rfl
    · rw [ei_f ha, decide_eq_false ha]; rfl
  · rw [es_f h2, if_neg (by decide), decide_eq_false h2]; rfl
theorem lop_is {l : List Token} (hl : l.length < 1099511627776) {q2 : Q2} {bin : Nat → Nat → Nat → Nat → Res} (least i0 d z : Nat) (hz : z ≤ i0)
    (H : ∀ t j z' : Nat, t ≤ 11 → i0 < j → j ≤ l.length → z' ≤ j → Is d z' (q2 (t : Int) l j d z') (bin t j d z') ∧ Wf j l.length (bin t j d z')) :
    ∀ (k : Nat) (a : Int) (i : Nat), i0 ≤ i → i ≤ l.length → l.length - i < k →
      Is d z (loopO (cond_parser_binary_b1 q2 (least : Int) l) (a, (i : Int), (d : Int), (z : Int))) (lopV bin l least k a i d z) ∧ (∀ v j, lopV bin l least k a i d z = .ok v j → i ≤ j ∧ j ≤ l.length) := by
  intro k
  induction k with
  | zero => intro a i h1 h2 h3; omega
  | succ k ih =>
    intro a i h1 h2 h3
    rw [loopO_eq, lopV]
    by_cases he : tightV (signAt l i) = 0 ∨ tightV (signAt l i) < least
    · rw [b1_end a i d z he, if_pos he]
      exact ⟨rfl, by rintro v j h; cases h; omega⟩
    · rw [if_neg he]
      have hne : signAt l i ≠ [] := by intro h; rw [h] at he; exact he (Or.inl rfl)
      have hlt := sign_lt (l := l) (i := i) rfl hne
      have hb1 : cond_parser_binary_b1 q2 (least : Int) l (a, (i : Int), (d : Int), (z : Int)) = cond_parser_binary_j4 q2 l a (i : Int) (d : Int) (signAt l i) ((tightV (signAt l i) : Nat) : Int) ((i + 1 : Nat) : Int) (skipV (signAt l i) a, ((if skipV (signAt l i) a = true then z + 1 else z : Nat) : Int)) := by
        rw [cond_parser_binary_b1]
        rw [peek_eq, Option.bind_some, tight_eq, Option.bind_some, ei_f (show ¬ ((tightV (signAt l i) : Nat) : Int) = 0 by omega), if_neg (by decide), li_f (show ¬ ((tightV (signAt l i) : Nat) : Int) < (least : Int) by omega), j2b_eq a i d z _ _ (by omega) hl h2]
      rw [hb1]
      have htl := tightV_le (signAt l i)
      obtain ⟨g1, g2⟩ := H (tightV (signAt l i) + 1) (i + 1) (if skipV (signAt l i) a = true then z + 1 else z) (by omega) (by omega) (by omega) (by split <;> omega)
      obtain ⟨g3, g4⟩ := j4_eq hl (q2 := q2) a i d z (tightV (signAt l i)) htl (signAt l i) (by omega) (skipV (signAt l i) a) _ rfl _ g1
      cases hr : bin (tightV (signAt l i) + 1) (i + 1) d (if skipV (signAt l i) a = true then z + 1 else z) with
      | er e f g =>
        obtain ⟨x, hx⟩ := g4 e f g hr
        rw [hx]
        exact ⟨⟨x, rfl⟩, by rintro v j h; cases h⟩
      | ok b j =>
        obtain ⟨x, hx⟩ := g3 b j hr
        rw [hr] at g2
        obtain ⟨g5, g6⟩ := g2
        rw [hx]
        show Is d z _ (match combV (signAt l i) a b z with | .inl v => _ | .inr e => _) ∧ ∀ v j, (match combV (signAt l i) a b z with | .inl v => _ | .inr e => _) = Res.ok v j → _
        cases combV (signAt l i) a b z with
        | inl v =>
          obtain ⟨g7, g8⟩ := ih v j (by omega) g6 (by omega)
          refine ⟨g7, ?_⟩
          intro v' j' hv
          have := g8 v' j' hv
          omega
        | inr e => exact ⟨⟨x, rfl⟩, by rintro v j h; cases h⟩
theorem bin_is {l : List Token} (hl : l.length < 1099511627776) {q1 : Q1} {q2 : Q2} {q3 : Q1} {bin : Nat → Nat → Nat → Nat → Res} {ato : Nat → Nat → Nat → Res} {least i d z : Nat} (hi : i ≤ l.length) (hz : z ≤ i)
    (H3 : Is d z (q3 l i d z) (ato i d z) ∧ Wf i l.length (ato i d z))
    (H2 : ∀ t j z' : Nat, t ≤ 11 → i < j → j ≤ l.length → z' ≤ j → Is d z' (q2 (t : Int) l j d z') (bin t j d z') ∧ Wf j l.length (bin t j d z')) :
    Is d z (cond_parser_binary_s q1 q2 q3 (least : Int) l i d z) (binV bin ato l least i d z) ∧ Wf i l.length (binV bin ato l least i d z) := by
  obtain ⟨h1, h2⟩ := H3
  unfold cond_parser_binary_s binV
  cases hr : ato i d z with
  | er e f q =>
    rw [hr] at h1
    obtain ⟨w, hw⟩ := h1
    rw [hw]
    exact ⟨⟨_, rfl⟩, trivial⟩
  | ok a j =>
    rw [hr] at h1 h2
    rw [show q3 l i d z = _ from h1]
    obtain ⟨h3, h4⟩ := h2
    obtain ⟨g1, g2⟩ := lop_is hl (q2 := q2) (bin := bin) least i d z hz H2 (l.length + 1) a j (by omega) h4 (by omega)
    refine ⟨g1, ?_⟩
    show Wf i l.length (lopV bin l least (l.length + 1) a j d z)
    cases hq : lopV bin l least (l.length + 1) a j d z with
    | er e f g => trivial
    | ok v k =>
      obtain ⟨g3, g4⟩ := g2 v k hq
      exact ⟨by omega, g4⟩
end Go.Proofs.YtghmojcecefgjaaDoor
