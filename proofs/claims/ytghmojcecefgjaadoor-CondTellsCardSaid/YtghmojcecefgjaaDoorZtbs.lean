/- The document's Eval is the program's; CondTells. Plain. -/
import Derived.Test.YtghmojcecefgjaaDoorZtbc
import Derived.Test.YtghmojcecefgjaaDoorZtbr
set_option linter.unusedVariables false
set_option linter.unusedSimpArgs false
namespace Go.Proofs.YtghmojcecefgjaaDoor
open Go.RowKit
theorem rcho_is {l : List Token} (hl : l.length < 1099511627776) {q1 : P1} {q2 : P2} {q3 : P1} {cho : Nat → Nat → Nat → Res} {bin : Nat → Nat → Nat → Nat → Res} {i d z : Nat} (hi : i ≤ l.length) (hz : z ≤ i)
    (H2 : IsR l i d z (q2 0 i l 0 (-1) 0 d z) (bin 1 i d z) ∧ Wf i l.length (bin 1 i d z))
    (H1 : ∀ j z' : Nat, i < j → j ≤ l.length → z' ≤ j → IsR l j d z' (q1 j l 0 (-1) 0 d z') (cho j d z') ∧ Wf j l.length (cho j d z'))
    (HB : l.length ≠ 0 → i + 2 ≤ l.length → ∀ (e f p j d z : Int), e ≠ 0 → q1 j l e f p d z = some (0, j, e, f, p, d, z)) :
    IsR l i d z (preref4_C_Choice_s q1 q2 q3 i l 0 (-1) 0 d z) (choV cho bin l i d z) := by
  obtain ⟨g1, g2⟩ := H2
  unfold preref4_C_Choice_s choV
  cases hr : bin 1 i d z with
  | er e f p =>
    rw [hr] at g1
    obtain ⟨he, v, j, d', z', g3, g4⟩ := g1
    rw [g3, Option.bind_some]
    dsimp only
    rw [ei_f he, if_pos (by decide), preref4_C_Choice_j1, if_pos rfl]
    exact ⟨he, v, j, d', z', rfl, g4⟩
  | ok a j =>
    rw [hr] at g1 g2
    obtain ⟨g5, g6⟩ := g2
    rw [show q2 0 i l 0 (-1) 0 d z = _ from g1, Option.bind_some]
    dsimp only
    rw [ei_t rfl, if_neg (by decide), ris_eq [63] (by decide), Option.bind_some]
    show IsR l i d z _ (if signAt l j = [63] then _ else _)
    by_cases hq : ¬ signAt l j = [63]
    · rw [decide_eq_false hq, if_neg hq, preref4_C_Choice_j1, if_pos (by decide)]
      rfl
    replace hq : signAt l j = [63] := Decidable.not_not.1 hq
    have hj1 := sign_lt hq (by decide)
    rw [decide_eq_true hq, if_pos hq, preref4_C_Choice_j1, if_neg (by decide)]
    dsimp only
    have HB := HB (by omega) (by omega)
    have e1 : (if (eqI a 0) = true then preref4_C_Choice_j2 q1 l (a, (j : Int), 0, -1, 0, (d : Int), (z : Int)) (IntKind.i64.wrap ((z : Int) + 1)) else preref4_C_Choice_j2 q1 l (a, (j : Int), 0, -1, 0, (d : Int), (z : Int)) (z : Int)) =
        preref4_C_Choice_j2 q1 l (a, (j : Int), 0, -1, 0, (d : Int), (z : Int)) ((if a = 0 then z + 1 else z : Nat) : Int) := by
      by_cases ha : a = 0
      · rw [ei_t ha, if_pos rfl, if_pos ha, w1 z (by omega)]
      · rw [ei_f ha, if_neg (by decide), if_neg ha]
    rw [e1, preref4_C_Choice_j2, w1 j (by omega)]
    have hzz : (if a = 0 then z + 1 else z) ≤ j + 1 := by split <;> omega
    obtain ⟨g7, g8⟩ := H1 (j + 1) (if a = 0 then z + 1 else z) (by omega) (by omega) hzz
    -- what stands behind a fault
    have j5b : ∀ (r1 r2 : T7) (k : Nat) (e f p w : Int), e ≠ 0 → r2.2.1 = (k : Int) → k + j ≤ 2 * l.length + 1 → ∃ (v : Int) (j' : Nat) (d' z' : Int), preref4_C_Choice_j5 q1 l r1 r2 e f p w = some (v, (j' : Int), e, f, p, d', z') ∧ j' + i ≤ 2 * l.length + 2 := by
      intro r1 r2 k e f p w he h2 hk
      rw [preref4_C_Choice_j5, h2, w1 k (by omega), HB e f p _ _ _ he, Option.bind_some]
      by_cases h : (!eqI r1.1 0) = true
      · rw [if_pos h]; exact ⟨_, k + 1, _, _, rfl, by omega⟩
      · rw [if_neg h]; exact ⟨_, k + 1, _, _, rfl, by omega⟩
    have j4b : ∀ (r1 r2 : T7) (k : Nat) (e f p w : Int), e ≠ 0 → r2.2.1 = (k : Int) → k + j ≤ 2 * l.length + 1 → ∃ (v : Int) (j' : Nat) (d' z' : Int), preref4_C_Choice_j4 q1 l r1 r2 w (e, f, p) = some (v, (j' : Int), e, f, p, d', z') ∧ j' + i ≤ 2 * l.length + 2 := by
      intro r1 r2 k e f p w he h2 hk
      rw [preref4_C_Choice_j4]
      by_cases h : (!eqI r1.1 0) = true
      · rw [if_pos h]; exact j5b _ _ k _ _ _ _ he h2 hk
      · rw [if_neg h]; exact j5b _ _ k _ _ _ _ he h2 hk
    cases hx : cho (j + 1) d (if a = 0 then z + 1 else z) with
    | er e f p =>
      rw [hx] at g7
      obtain ⟨he, v, k, d', z', g9, g10⟩ := g7
      rw [g9, Option.bind_some]
      have j3 : ∀ w, ∃ (v' : Int) (j' : Nat) (d'' z'' : Int), preref4_C_Choice_j3 q1 l (a, (j : Int), 0, -1, 0, (d : Int), (z : Int)) (v, (k : Int), e, f, p, d', z') w = some (v', (j' : Int), e, f, p, d'', z'') ∧ j' + i ≤ 2 * l.length + 2 := by
        intro w
        rw [preref4_C_Choice_j3]
        dsimp only
        rw [ris_eq [58] (by decide), Option.bind_some]
        by_cases h : (!decide (signAt l k = [58])) = true
        · rw [if_pos h, rstop1 _ _ _ _ _ _ _ _ he, Option.bind_some]
          exact j4b _ _ k _ _ _ _ he rfl (by omega)
        · rw [if_neg h]
          exact j4b _ _ k _ _ _ _ he rfl (by omega)
      show IsR l i d z _ (.er e f p)
      dsimp only
      by_cases h : eqI a 0 = true
      · rw [if_pos h]
        obtain ⟨v', j', d'', z'', h1, h2⟩ := j3 (IntKind.i64.wrap (z' - 1))
        exact ⟨he, v', j', d'', z'', h1, h2⟩
      · rw [if_neg h]
        obtain ⟨v', j', d'', z'', h1, h2⟩ := j3 z'
        exact ⟨he, v', j', d'', z'', h1, h2⟩
    | ok x k =>
      rw [hx] at g7 g8
      obtain ⟨g9, g10⟩ := g8
      rw [show q1 ((j + 1 : Nat) : Int) l 0 (-1) 0 d _ = _ from g7, Option.bind_some]
      dsimp only
      have e2 : (if (eqI a 0) = true then preref4_C_Choice_j3 q1 l (a, (j : Int), 0, -1, 0, (d : Int), (z : Int)) (x, (k : Int), 0, -1, 0, (d : Int), ((if a = 0 then z + 1 else z : Nat) : Int)) (IntKind.i64.wrap (((if a = 0 then z + 1 else z : Nat) : Int) - 1)) else preref4_C_Choice_j3 q1 l (a, (j : Int), 0, -1, 0, (d : Int), (z : Int)) (x, (k : Int), 0, -1, 0, (d : Int), ((if a = 0 then z + 1 else z : Nat) : Int)) ((if a = 0 then z + 1 else z : Nat) : Int)) =
          preref4_C_Choice_j3 q1 l (a, (j : Int), 0, -1, 0, (d : Int), (z : Int)) (x, (k : Int), 0, -1, 0, (d : Int), ((if a = 0 then z + 1 else z : Nat) : Int)) (z : Int) := by
        by_cases ha : a = 0
        · rw [ei_t ha, if_pos rfl, if_pos ha, wm1 z (by omega)]
        · rw [ei_f ha, if_neg (by decide), if_neg ha]
      rw [e2, preref4_C_Choice_j3]
      dsimp only
      rw [ris_eq [58] (by decide), Option.bind_some]
      show IsR l i d z _ (if signAt l k = [58] then _ else _)
      by_cases hs : ¬ signAt l k = [58]
      · rw [decide_eq_false hs, if_neg hs, if_pos (by decide), rstop0 2 l (by omega), Option.bind_some]
        dsimp only
        obtain ⟨v', j', d'', z'', h1, h2⟩ := j4b (a, (j : Int), 0, -1, 0, (d : Int), (z : Int)) (x, (k : Int), 0, -1, 0, (d : Int), ((if a = 0 then z + 1 else z : Nat) : Int)) k 2 (faultAt l k).1 (faultAt l k).2 (z : Int) (by decide) rfl (by omega)
        exact ⟨by decide, v', j', d'', z'', h1, h2⟩
      replace hs : signAt l k = [58] := Decidable.not_not.1 hs
      have hk1 := sign_lt hs (by decide)
      rw [decide_eq_true hs, if_pos hs, if_neg (by decide), preref4_C_Choice_j4]
      dsimp only
      have e3 : ∀ w : T7, (if (!eqI a 0) = true then preref4_C_Choice_j5 q1 l (a, (j : Int), 0, -1, 0, (d : Int), (z : Int)) w 0 (-1) 0 (IntKind.i64.wrap ((z : Int) + 1)) else preref4_C_Choice_j5 q1 l (a, (j : Int), 0, -1, 0, (d : Int), (z : Int)) w 0 (-1) 0 (z : Int)) =
          preref4_C_Choice_j5 q1 l (a, (j : Int), 0, -1, 0, (d : Int), (z : Int)) w 0 (-1) 0 ((if a = 0 then z else z + 1 : Nat) : Int) := by
        intro w
        by_cases ha : a = 0
        · rw [ei_t ha, if_neg (by decide), if_pos ha]
        · rw [ei_f ha, if_pos (by decide), if_neg ha, w1 z (by omega)]
      rw [e3, preref4_C_Choice_j5]
      dsimp only
      rw [w1 k (by omega)]
      obtain ⟨k1, k2⟩ := H1 (k + 1) (if a = 0 then z else z + 1) (by omega) (by omega) (by split <;> omega)
      cases hy : cho (k + 1) d (if a = 0 then z else z + 1) with
      | er e f p =>
        rw [hy] at k1
        obtain ⟨he, v, m, d', z', k3, k4⟩ := k1
        rw [k3, Option.bind_some]
        show IsR l i d z _ (.er e f p)
        dsimp only
        by_cases h : (!eqI a 0) = true
        · rw [if_pos h]; exact ⟨he, x, m, d', _, rfl, by omega⟩
        · rw [if_neg h]; exact ⟨he, v, m, d', z', rfl, by omega⟩
      | ok y m =>
        rw [hy] at k1
        rw [show q1 ((k + 1 : Nat) : Int) l 0 (-1) 0 d _ = _ from k1, Option.bind_some]
        show _ = some ((if a = 0 then y else x), (m : Int), 0, -1, 0, (d : Int), (z : Int))
        dsimp only
        by_cases ha : a = 0
        · rw [ei_t ha, if_neg (by decide), if_pos ha, if_pos ha]
        · rw [ei_f ha, if_pos (by decide), if_neg ha, if_neg ha, wm1 z (by omega)]
theorem raj3_is {l : List Token} (hl : l.length < 1099511627776) (i d z : Nat) (hi : i < l.length) (hd : d ≤ 30) (n : Int) (p : Bool) :
    IsR l i d z (preref4_C_Atom_j3 (i : Int) l 0 (-1) 0 (z : Int) ((i + 1 : Nat) : Int) ((d + 1 : Nat) : Int) (n, p)) (if p = true then .ok n (i + 1) else erAt l i 3) := by
  rw [preref4_C_Atom_j3]
  cases p with
  | false =>
    rw [if_pos (by decide), if_neg (by decide), rstop0 3 l (by omega), Option.bind_some]
    exact ⟨by decide, n, i + 1, _, _, rfl, by omega⟩
  | true =>
    rw [if_neg (by decide), if_pos rfl, preref4_C_Atom_j4, preref4_C_Atom_j1, wm1 d (by omega)]
    rfl
theorem run_is {l : List Token} {d z i : Nat} (hd : d ≤ 30) (q : Option T7) (r : Res) (f : Int → Int) (g : T7 → Option T7)
    (H : IsR l (i + 1) (d + 1) z q r) (hg : ∀ (v : Int) (j : Nat) (e f' p d' z' : Int), g (v, (j : Int), e, f', p, d', z') = some (f v, (j : Int), e, f', p, IntKind.i64.wrap (d' - 1), z')) :
    IsR l i d z (q.bind g) (r.then fun v j => .ok (f v) j) := by
  cases r with
  | er a b c =>
    obtain ⟨he, v, j, d', z', rfl, h⟩ := H
    rw [Option.bind_some, hg]
    exact ⟨he, _, j, _, _, rfl, by omega⟩
  | ok v j =>
    obtain rfl := H
    rw [Option.bind_some, hg, wm1 d (by omega)]
    rfl
theorem rato_is {l : List Token} (hl : l.length < 1099511627776) (hc : clean l) (hc2 : ∀ t ∈ l, t.Text.length ≤ 1099511627776) {q1 : P1} {q2 : P2} {q3 : P1} {cho ato : Nat → Nat → Nat → Res} {i d z : Nat} (hi : i ≤ l.length) (hd : d ≤ 30) (hz : z ≤ i)
    (H1 : ∀ d' : Nat, d' ≤ 30 → i + 1 ≤ l.length → IsR l (i + 1) d' z (q1 ((i + 1 : Nat) : Int) l 0 (-1) 0 d' z) (cho (i + 1) d' z) ∧ Wf (i + 1) l.length (cho (i + 1) d' z))
    (H3 : ∀ d' : Nat, d' ≤ 30 → i + 1 ≤ l.length → IsR l (i + 1) d' z (q3 ((i + 1 : Nat) : Int) l 0 (-1) 0 d' z) (ato (i + 1) d' z)) :
    IsR l i d z (preref4_C_Atom_s q1 q2 q3 i l 0 (-1) 0 d z) (atoV cho ato l i d z) := by
  unfold preref4_C_Atom_s atoV
  rw [ei_t rfl, if_neg (by decide)]
  have lt : ∀ a b : Int, a ≤ b → leI a b = true := fun a b h => decide_eq_true h
  have lf : ∀ a b : Int, ¬ a ≤ b → leI a b = false := fun a b h => decide_eq_false h
  by_cases h30 : d = 30
  · rw [lt _ _ (show (30 : Int) ≤ (d : Int) by omega), if_pos rfl, if_pos h30, rstop0 10 l (by omega), Option.bind_some]
    exact ⟨by decide, 0, i, _, _, rfl, by omega⟩
  rw [lf _ _ (show ¬ (30 : Int) ≤ (d : Int) by omega), if_neg (by decide), if_neg h30]
  by_cases hn : i = l.length
  · rw [lt _ _ (show (l.length : Int) ≤ (i : Int) by omega), if_pos rfl, if_pos hn, rstop0 9 l (by omega), Option.bind_some]
    exact ⟨by decide, 0, i, _, _, rfl, by omega⟩
  have hlt : i < l.length := by omega
  rw [lf _ _ (show ¬ (l.length : Int) ≤ (i : Int) by omega), if_neg (by decide), if_neg hn, Int.toNat_natCast, if_pos (show (0 : Int) ≤ (i : Int) ∧ i < l.length by omega)]
  have hmem : l.getD i default ∈ l := List.getD_eq_getElem?_getD (l := l) (i := i) (a := default) ▸ by rw [List.getElem?_eq_getElem hlt]; exact List.getElem_mem hlt
  have htx := hc2 _ hmem
  generalize hT : l.getD i default = t at htx ⊢
  by_cases k1 : t.Kind = 1
  · rw [ei_t k1, if_pos rfl, if_pos k1, preref4_C_Atom_j1, w1 i (by omega), w1 d (by omega), wm1 d (by omega)]
    rfl
  rw [ei_f k1, if_neg (by decide), if_neg k1, w1 i (by omega), w1 d (by omega)]
  by_cases k2 : t.Kind = 2
  · rw [ei_t k2, if_pos rfl, if_pos k2, preref4_C_Atom_j2, if_pos rfl, rnum_eq _ (by omega), Option.bind_some, ei_f (show ¬ t.Kind = 3 by omega), if_neg (by decide)]
    exact raj3_is hl i d z hlt hd _ _
  rw [ei_f k2, if_neg (by decide), if_neg k2]
  by_cases k3 : t.Kind = 3
  · rw [ei_t k3, if_pos k3, preref4_C_Atom_j2, if_pos rfl, rnum_eq _ (by omega), Option.bind_some, ei_t k3, if_pos rfl, rchar_eq, Option.bind_some]
    exact raj3_is hl i d z hlt hd _ _
  rw [ei_f k3, if_neg k3, preref4_C_Atom_j2, if_neg (by decide)]
  have hd1 : d + 1 ≤ 30 := by omega
  rw [ris_eq [40] (by decide), Option.bind_some]
  by_cases s1 : signAt l i = [40]
  · rw [decide_eq_true s1, if_pos s1, if_pos rfl, w1 i (by omega)]
    obtain ⟨g1, g2⟩ := H1 (d + 1) hd1 (by omega)
    cases hr : cho (i + 1) (d + 1) z with
    | er e f q =>
      rw [hr] at g1
      obtain ⟨he, v, j, d', z', g3, g4⟩ := g1
      rw [g3, Option.bind_some]
      dsimp only
      rw [ris_eq [41] (by decide), Option.bind_some]
      have h5 : preref4_C_Atom_j5 (v, (j : Int), e, f, q, d', z') (e, f, q) = some (v, ((j + 1 : Nat) : Int), e, f, q, IntKind.i64.wrap (d' - 1), z') := by
        rw [preref4_C_Atom_j5, preref4_C_Atom_j1]
        dsimp only
        rw [w1 j (by omega)]
      by_cases h : (!decide (signAt l j = [41])) = true
      · rw [if_pos h, rstop1 _ _ _ _ _ _ _ _ he, Option.bind_some]
        dsimp only
        rw [h5]
        exact ⟨he, _, j + 1, _, _, rfl, by omega⟩
      · rw [if_neg h, h5]
        exact ⟨he, _, j + 1, _, _, rfl, by omega⟩
    | ok v j =>
      rw [hr] at g1 g2
      rw [show q1 ((i + 1 : Nat) : Int) l 0 (-1) 0 ((d + 1 : Nat) : Int) z = _ from g1, Option.bind_some]
      obtain ⟨g3, g4⟩ := g2
      dsimp only
      rw [ris_eq [41] (by decide), Option.bind_some]
      show IsR l i d z _ (if signAt l j = [41] then _ else _)
      have h5 : ∀ e f q : Int, preref4_C_Atom_j5 (v, (j : Int), 0, -1, 0, ((d + 1 : Nat) : Int), (z : Int)) (e, f, q) = some (v, ((j + 1 : Nat) : Int), e, f, q, (d : Int), (z : Int)) := by
        intro e f q
        rw [preref4_C_Atom_j5, preref4_C_Atom_j1]
        dsimp only
        rw [w1 j (by omega), wm1 d (by omega)]
      by_cases s2 : signAt l j = [41]
      · rw [decide_eq_true s2, if_pos s2, if_neg (by decide), h5]
        rfl
      · rw [decide_eq_false s2, if_neg s2, if_pos (by decide), rstop0 2 l (by omega), Option.bind_some]
        dsimp only
        rw [h5]
        exact ⟨by decide, _, j + 1, _, _, rfl, by omega⟩
  rw [decide_eq_false s1, if_neg s1, if_neg (by decide), ris_eq [45] (by decide), Option.bind_some]
  by_cases s2 : signAt l i = [45]
  · have hj := sign_lt s2 (by decide)
    rw [decide_eq_true s2, if_pos s2, if_pos rfl, w1 i (by omega)]
    exact run_is hd _ _ (fun v => IntKind.i64.wrap (0 - v)) _ (H3 (d + 1) hd1 (by omega)) (fun v j e f p d' z' => rfl)
  rw [decide_eq_false s2, if_neg s2, if_neg (by decide), ris_eq [43] (by decide), Option.bind_some]
  by_cases s3 : signAt l i = [43]
  · have hj := sign_lt s3 (by decide)
    rw [decide_eq_true s3, if_pos s3, if_pos rfl, w1 i (by omega)]
    exact run_is hd _ _ (fun v => v) _ (H3 (d + 1) hd1 (by omega)) (fun v j e f p d' z' => rfl)
  rw [decide_eq_false s3, if_neg s3, if_neg (by decide), ris_eq [126] (by decide), Option.bind_some]
  by_cases s4 : signAt l i = [126]
  · have hj := sign_lt s4 (by decide)
    rw [decide_eq_true s4, if_pos s4, if_pos rfl, w1 i (by omega)]
    exact run_is hd _ _ (fun v => IntKind.i64.wrap ((BitVec.ofInt IntKind.i64.bits (-1)) ^^^ (BitVec.ofInt IntKind.i64.bits v)).toNat) _ (H3 (d + 1) hd1 (by omega)) (fun v j e f p d' z' => by rw [← not_eq]; rfl)
  rw [decide_eq_false s4, if_neg s4, if_neg (by decide), ris_eq [33] (by decide), Option.bind_some]
  by_cases s5 : signAt l i = [33]
  · have hj := sign_lt s5 (by decide)
    rw [decide_eq_true s5, if_pos s5, if_pos rfl, w1 i (by omega)]
    exact run_is hd _ _ (fun v => oneV (decide (v = 0))) _ (H3 (d + 1) hd1 (by omega)) (fun v j e f p d' z' => by rw [rone_eq, Option.bind_some]; rfl)
  rw [decide_eq_false s5, if_neg s5, if_neg (by decide), rstop0 2 l (by omega), Option.bind_some]
  exact ⟨by decide, 0, i + 1, _, _, rfl, by omega⟩
theorem rrec_is {l : List Token} (hl : l.length < 1099511627776) (hc : clean l) (hc2 : ∀ t ∈ l, t.Text.length ≤ 1099511627776) : ∀ (n i d z : Nat), i ≤ l.length → d ≤ 30 → z ≤ i →
    (13 * (l.length - i) + 12 < n → IsR l i d z ((rec_preref4_C_Choice n).1 i l 0 (-1) 0 d z) (choI l i d z)) ∧
    (∀ t : Nat, t ≤ 10 → 13 * (l.length - i) + (11 - t) < n → IsR l i d z ((rec_preref4_C_Choice n).2.1 (t : Int) i l 0 (-1) 0 d z) (binI l (t + 1) i d z)) ∧
    (13 * (l.length - i) < n → IsR l i d z ((rec_preref4_C_Choice n).2.2 i l 0 (-1) 0 d z) (atoI l i d z)) := by
  intro n
  induction n with
  | zero => intro i d z _ _ _; exact ⟨fun h => by omega, fun _ _ h => by omega, fun h => by omega⟩
  | succ n ih =>
    intro i d z hi hd hz
    refine ⟨fun h => ?_, fun t ht h => ?_, fun h => ?_⟩
    · rw [cho_unf hl hc hi hd hz]
      exact rcho_is hl (q3 := (rec_preref4_C_Choice n).2.2) hi hz ⟨(ih i d z hi hd hz).2.1 0 (by omega) (by omega), bin_wI hl hc hi hd hz (by omega)⟩
        (fun j z' h1 h2 h3 => ⟨(ih j d z' h2 hd h3).1 (by omega), cho_wI hl hc h2 hd h3⟩)
        (fun _ h2 e f p j d z he => cho_bad he n (by omega) j d z)
    · show IsR l i d z (preref4_C_Level_s (RCh n).1 (RCh n).2.1 (RCh n).2.2 (t : Int) i l 0 (-1) 0 d z) _
      unfold preref4_C_Level_s
      rw [rlev, Option.bind_some, lvlen]
      by_cases h10 : t = 10
      · subst h10
        rw [ei_t (show ((10 : Nat) : Int) = 10 from rfl), if_pos rfl, bin_top hl hc hi hd hz]
        have := (ih i d z hi hd hz).2.2 (by omega)
        cases hr : atoI l i d z with
        | er e f p =>
          rw [hr] at this
          obtain ⟨he, v, j, d', z', h1, h2⟩ := this
          rw [h1]
          exact ⟨he, v, j, d', z', rfl, h2⟩
        | ok v j =>
          rw [hr] at this
          rw [show (RCh n).2.2 (i : Int) l 0 (-1) 0 d z = _ from this]
          rfl
      · rw [ei_f (show ¬ (t : Int) = 10 by omega), if_neg (by decide), w1 t (by omega), bin_lev hl hc hi hd hz ⟨by omega, by omega⟩]
        have h1 := (ih i d z hi hd hz).2.1 (t + 1) (by omega) (by omega)
        have h2 := bin_wI hl hc hi hd hz (t := t + 1 + 1) (by omega)
        cases hr : binI l (t + 1 + 1) i d z with
        | er e f p =>
          rw [hr] at h1
          obtain ⟨he, v, j, d', z', h3, h4⟩ := h1
          rw [h3, Option.bind_some]
          dsimp only
          rw [loopO_eq, preref4_C_Level_b2, ei_f he, if_neg (by decide)]
          exact ⟨he, v, j, d', z', rfl, h4⟩
        | ok a j =>
          rw [hr] at h1 h2
          obtain ⟨h5, h6⟩ := h2
          rw [show (RCh n).2.1 ((t + 1 : Nat) : Int) (i : Int) l 0 (-1) 0 d z = _ from h1, Option.bind_some]
          exact el_is hl t i d z (by omega) hz hi (fun j' z' k1 k2 k3 => ⟨(ih j' d z' k2 hd k3).2.1 (t + 1) (by omega) (by omega), bin_wI hl hc k2 hd k3 (by omega)⟩) (l.length + 1) a j ((rg_all l (mF l)).2.1 _ _ _ _ a j hr) (by omega) h6 (by omega)
    · rw [ato_unf hl hc hi hd hz]
      exact rato_is (q2 := (rec_preref4_C_Choice n).2.1) hl hc hc2 hi hd hz (fun d' h1 h2 => ⟨(ih (i + 1) d' z h2 h1 (by omega)).1 (by omega), cho_wI hl hc h2 h1 (by omega)⟩) (fun d' h1 h2 => (ih (i + 1) d' z h2 h1 (by omega)).2.2 (by omega))
theorem reval_eq (l : List Token) (hl : l.length < 1099511627776) (hc2 : ∀ t ∈ l, t.Text.length ≤ 1099511627776) :
    preref4_Eval l = some ((evalV l).1, ⟨(evalV l).2.1, (evalV l).2.2.1, (evalV l).2.2.2⟩) := by
  have hF := bigF_le
  have hc : clean l := fun t ht => by have := hc2 t ht; omega
  have h := (rrec_is hl hc hc2 bigF 0 0 0 (Nat.zero_le _) (by omega) (Nat.le_refl _)).1 (by omega)
  have hw := cho_wI hl hc (i := 0) (d := 0) (z := 0) (Nat.zero_le _) (by omega) (Nat.le_refl _)
  have hv : evalV l = finE l (choI l 0 0 0) := rfl
  unfold preref4_Eval preref4_C_Choice
  rw [hv]
  cases hr : choI l 0 0 0 with
  | er e f p =>
    rw [hr] at h
    obtain ⟨he, v, j, d', z', h1, h2⟩ := h
    rw [show (rec_preref4_C_Choice bigF).1 0 l 0 (-1) 0 0 0 = _ from h1, Option.bind_some]
    dsimp only
    have j1 : preref4_Eval_j1 (v, (j : Int), e, f, p, d', z') (e, f, p) = some (0, ⟨e, f, p⟩) := by
      rw [preref4_Eval_j1, ei_f he, if_pos (by decide)]
    by_cases hj : (ltI (j : Int) (l.length : Int)) = true
    · rw [if_pos hj, rstop1 _ _ _ _ _ _ _ _ he, Option.bind_some]
      exact j1
    · rw [if_neg hj]
      exact j1
  | ok v j =>
    rw [hr] at h
    rw [show (rec_preref4_C_Choice bigF).1 0 l 0 (-1) 0 0 0 = _ from h, Option.bind_some]
    dsimp only
    show _ = some ((if j < l.length then ((0 : Int), (2 : Int), (faultAt l j).1, (faultAt l j).2) else (v, 0, -1, 0)).1, _)
    by_cases hj : j < l.length
    · rw [li_t (show (j : Int) < (l.length : Int) by omega), if_pos rfl, rstop0 2 l (by omega), Option.bind_some]
      simp only [finE, if_pos hj]
      rfl
    · rw [li_f (show ¬ (j : Int) < (l.length : Int) by omega), if_neg (by decide)]
      simp only [finE, if_neg hj]
      rfl
end Go.Proofs.YtghmojcecefgjaaDoor
