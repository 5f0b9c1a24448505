/- What tokens come to: one function for all three, and that the program's three are it. Plain. -/
import Derived.Test.YtghmojcecefgjaaDoorZoat
set_option linter.unusedVariables false
set_option linter.unusedSimpArgs false
namespace Go.Proofs.YtghmojcecefgjaaDoor
open Go.RowKit
abbrev OG := Option (GR (Int × Int × Int × Int × Int × Int) (Int × Int × Int × Int))
abbrev Q1 := List Token → Int → Int → Int → OG
abbrev Q2 := Int → List Token → Int → Int → Int → OG
inductive Res where
  | ok (v : Int) (i : Nat)
  | er (e f p : Int)
def Is (d z : Nat) (o : OG) : Res → Prop
  | .ok v j => o = some (.ok (v, (j : Int), (d : Int), (z : Int)))
  | .er e f p => ∃ x, o = some (.er (e, f, p, x))
def Wf (i n : Nat) : Res → Prop
  | .ok _ j => i < j ∧ j ≤ n
  | .er _ _ _ => True
def erAt (l : List Token) (i : Nat) (e : Int) : Res := .er e (faultAt l i).1 (faultAt l i).2
def Res.then (r : Res) (f : Int → Nat → Res) : Res := match r with
  | .ok v j => f v j
  | .er e f p => .er e f p
theorem sign_lt {l : List Token} {i : Nat} {s : List UInt8} (h : signAt l i = s) (hs : s ≠ []) : i < l.length := by
  unfold signAt at h
  by_cases q : i < l.length ∧ (l.getD i default).Kind = 5
  · exact q.1
  · rw [if_neg q] at h; exact absurd h.symm hs
def choV (cho : Nat → Nat → Nat → Res) (bin : Nat → Nat → Nat → Nat → Res) (l : List Token) (i d z : Nat) : Res :=
  (bin 1 i d z).then fun a j => if signAt l j = [63] then
    (cho (j + 1) d (if a = 0 then z + 1 else z)).then fun x k => if signAt l k = [58] then
      (cho (k + 1) d (if a = 0 then z else z + 1)).then fun y m => .ok (if a = 0 then y else x) m
    else erAt l k 2
  else .ok a j
def combV (s : List UInt8) (a b : Int) (z : Nat) : Int ⊕ Int :=
  if s = [38, 38] then .inl (oneV (!decide (a = 0) && !decide (b = 0)))
  else if s = [124, 124] then .inl (oneV (!decide (a = 0) || !decide (b = 0)))
  else match opV s a b with
    | .inl v => .inl v
    | .inr e => if z = 0 then .inr e else .inl 0
def skipV (s : List UInt8) (a : Int) : Bool := (decide (s = [38, 38]) && decide (a = 0)) || (decide (s = [124, 124]) && !decide (a = 0))
def lopV (bin : Nat → Nat → Nat → Nat → Res) (l : List Token) (least : Nat) : Nat → Int → Nat → Nat → Nat → Res
  | 0, _, _, _, _ => .er 1 0 0
  | k + 1, a, i, d, z =>
    if tightV (signAt l i) = 0 ∨ tightV (signAt l i) < least then .ok a i
    else (bin (tightV (signAt l i) + 1) (i + 1) d (if skipV (signAt l i) a = true then z + 1 else z)).then fun b j =>
      match combV (signAt l i) a b z with
      | .inl v => lopV bin l least k v j d z
      | .inr e => erAt l i e
def binV (bin : Nat → Nat → Nat → Nat → Res) (ato : Nat → Nat → Nat → Res) (l : List Token) (least i d z : Nat) : Res :=
  (ato i d z).then fun a j => lopV bin l least (l.length + 1) a j d z
def atoV (cho ato : Nat → Nat → Nat → Res) (l : List Token) (i d z : Nat) : Res :=
  if d = 30 then erAt l i 10 else if i = l.length then erAt l i 9
  else if (l.getD i default).Kind = 1 then .ok 0 (i + 1)
  else if (l.getD i default).Kind = 2 then (if (numV (l.getD i default).Text).2 = true then .ok (numV (l.getD i default).Text).1 (i + 1) else erAt l i 3)
  else if (l.getD i default).Kind = 3 then (if (charF (l.getD i default).Text).2 = true then .ok (charF (l.getD i default).Text).1 (i + 1) else erAt l i 3)
  else if signAt l i = [40] then (cho (i + 1) (d + 1) z).then fun v j => if signAt l j = [41] then .ok v (j + 1) else erAt l j 2
  else if signAt l i = [45] then (ato (i + 1) (d + 1) z).then fun v j => .ok (IntKind.i64.wrap (0 - v)) j
  else if signAt l i = [43] then (ato (i + 1) (d + 1) z).then fun v j => .ok v j
  else if signAt l i = [126] then (ato (i + 1) (d + 1) z).then fun v j => .ok (IntKind.i64.wrap ((BitVec.ofInt IntKind.i64.bits (-1)) ^^^ (BitVec.ofInt IntKind.i64.bits v)).toNat) j
  else if signAt l i = [33] then (ato (i + 1) (d + 1) z).then fun v j => .ok (oneV (decide (v = 0))) j
  else erAt l i 2
def pV (l : List Token) : Nat → (Nat → Nat → Nat → Res) × (Nat → Nat → Nat → Nat → Res) × (Nat → Nat → Nat → Res)
  | 0 => (fun _ _ _ => .er 1 0 0, fun _ _ _ _ => .er 1 0 0, fun _ _ _ => .er 1 0 0)
  | n + 1 => (choV (pV l n).1 (pV l n).2.1 l, binV (pV l n).2.1 (pV l n).2.2 l, atoV (pV l n).1 (pV l n).2.2 l)
theorem j3_is {l : List Token} {q1 : Q1} {cho : Nat → Nat → Nat → Res} {d z : Nat} (a x : Int) (r1 r3 : Int × Int × Int × Int) (r4 : Bool × Int) (k : Nat) (p : Bool) (zz : Nat)
    (e1 : r1.1 = a) (e3 : r3.1 = x) (e3' : r3.2.2.1 = (d : Int)) (e4 : r4.2 = (k : Int)) (hz : zz = if p = true then z + 1 else z) (hzl : z < 1099511627777)
    (H : Is d zz (q1 l k d zz) (cho k d zz)) :
    Is d z (cond_parser_choice_j3 q1 l r1 r3 r4 (p, (zz : Int))) ((cho k d zz).then fun y m => .ok (if a = 0 then y else x) m) := by
  rw [cond_parser_choice_j3, e3', e4]
  cases hr : cho k d zz with
  | er e f q =>
    rw [hr] at H
    obtain ⟨w, hw⟩ := H
    rw [hw]
    exact ⟨_, rfl⟩
  | ok y m =>
    rw [hr] at H
    rw [show q1 l k d zz = _ from H]
    show (if p = true then cond_parser_choice_j4 r1 r3 _ (IntKind.i64.wrap ((zz : Int) - 1)) else cond_parser_choice_j4 r1 r3 _ (zz : Int)) = _
    have e5 : ∀ w : Int, cond_parser_choice_j4 r1 r3 (y, (m : Int), (d : Int), (zz : Int)) w = some (.ok ((if a = 0 then y else x), (m : Int), (d : Int), w)) := by
      intro w
      rw [cond_parser_choice_j4, e1, e3]
      by_cases h : a = 0
      · rw [ei_t h, if_neg (by decide), if_pos h]
      · rw [ei_f h, if_pos (by decide), if_neg h]
    rw [e5, e5]
    cases p with
    | true => rw [if_pos rfl, hz, if_pos rfl, wm1 z (by omega)]
    | false => rw [if_neg (show ¬ (false = true) by decide)] at hz ⊢; rw [hz]
theorem j2_is {l : List Token} (hl : l.length < 1099511627776) {q1 : Q1} {cho : Nat → Nat → Nat → Res} {d z : Nat} (hz : z ≤ l.length) (a x : Int) (r1 r3 : Int × Int × Int × Int) (k : Nat) (hk : k ≤ l.length)
    (e1 : r1.1 = a) (e3 : r3.1 = x) (e3' : r3.2.2.1 = (d : Int)) (e3'' : r3.2.1 = (k : Int))
    (H : ∀ zz, k + 1 ≤ l.length → zz ≤ z + 1 → Is d zz (q1 l ((k + 1 : Nat) : Int) d zz) (cho (k + 1) d zz)) :
    Is d z (cond_parser_choice_j2 q1 l r1 r3 (z : Int)) (if signAt l k = [58] then (cho (k + 1) d (if a = 0 then z else z + 1)).then fun y m => .ok (if a = 0 then y else x) m else erAt l k 2) := by
  rw [cond_parser_choice_j2, e3', e3'', eat_eq [58] l k (by omega), Option.bind_some]
  by_cases hs : signAt l k = [58]
  · have hk1 := sign_lt hs (by decide)
    rw [decide_eq_true hs, if_pos hs, if_pos hs]
    dsimp only
    rw [if_neg (by decide), e1]
    by_cases ha : a = 0
    · rw [ei_t ha, if_neg (by decide), if_pos ha]
      exact j3_is a x r1 r3 _ (k + 1) false z e1 e3 e3' rfl rfl (by omega) (H z (by omega) (by omega))
    · rw [ei_f ha, if_pos (by decide), if_neg ha, w1 z (by omega)]
      exact j3_is a x r1 r3 _ (k + 1) true (z + 1) e1 e3 e3' rfl rfl (by omega) (H (z + 1) (by omega) (by omega))
  · rw [decide_eq_false hs, if_neg hs, if_neg hs]
    dsimp only
    rw [if_pos (by decide), fail_eq _ _ (by omega), Option.bind_some]
    exact ⟨_, rfl⟩
theorem j1_is {l : List Token} (hl : l.length < 1099511627776) {q1 : Q1} {cho : Nat → Nat → Nat → Res} {d z : Nat} (hz : z ≤ l.length) (a : Int) (r1 : Int × Int × Int × Int) (r2 : Bool × Int) (j : Nat) (hj : j ≤ l.length) (p : Bool) (zz : Nat)
    (e1 : r1.1 = a) (e1' : r1.2.2.1 = (d : Int)) (e2 : r2.2 = (j : Int)) (hzz : zz = if p = true then z + 1 else z) (hzz' : zz ≤ j)
    (H : ∀ k zz, j ≤ k → k ≤ l.length → zz ≤ k → Is d zz (q1 l (k : Int) d zz) (cho k d zz) ∧ Wf k l.length (cho k d zz)) (hzj : z + 1 ≤ j) :
    Is d z (cond_parser_choice_j1 q1 l r1 r2 (p, (zz : Int))) ((cho j d zz).then fun x k => if signAt l k = [58] then (cho (k + 1) d (if a = 0 then z else z + 1)).then fun y m => .ok (if a = 0 then y else x) m else erAt l k 2) := by
  rw [cond_parser_choice_j1, e1', e2]
  obtain ⟨h1, h2⟩ := H j zz (Nat.le_refl _) hj hzz'
  cases hr : cho j d zz with
  | er e f q =>
    rw [hr] at h1
    obtain ⟨w, hw⟩ := h1
    rw [hw]
    exact ⟨_, rfl⟩
  | ok x k =>
    rw [hr] at h1 h2
    rw [show q1 l j d zz = _ from h1]
    obtain ⟨h3, h4⟩ := h2
    show Is d z (if p = true then cond_parser_choice_j2 q1 l r1 _ (IntKind.i64.wrap ((zz : Int) - 1)) else cond_parser_choice_j2 q1 l r1 _ (zz : Int)) _
    have e5 := j2_is hl (q1 := q1) (cho := cho) (d := d) (z := z) hz a x r1 (x, (k : Int), (d : Int), (zz : Int)) k h4 e1 rfl rfl rfl (fun z' hk hz' => (H (k + 1) z' (by omega) hk (by omega)).1)
    cases p with
    | true => rw [if_pos rfl, hzz, if_pos rfl, wm1 z (by omega)]; rw [hzz, if_pos rfl] at e5; exact e5
    | false => rw [if_neg (by decide), hzz, if_neg (by decide)]; rw [hzz, if_neg (by decide)] at e5; exact e5
theorem cho_wf {cho : Nat → Nat → Nat → Res} {bin : Nat → Nat → Nat → Nat → Res} {l : List Token} {i d z : Nat} (h2 : Wf i l.length (bin 1 i d z)) (hz : z ≤ i)
    (h1 : ∀ j z', i < j → j ≤ l.length → z' ≤ j → Wf j l.length (cho j d z')) : Wf i l.length (choV cho bin l i d z) := by
  unfold choV
  cases hr : bin 1 i d z with
  | er e f q => trivial
  | ok a j =>
    rw [hr] at h2
    obtain ⟨g1, g2⟩ := h2
    show Wf i l.length (if _ then _ else _)
    by_cases hs : signAt l j = [63]
    · rw [if_pos hs]
      have hj := sign_lt hs (by decide)
      have hx := h1 (j + 1) (if a = 0 then z + 1 else z) (by omega) (by omega) (by split <;> omega)
      cases hc : cho (j + 1) d (if a = 0 then z + 1 else z) with
      | er e f q => trivial
      | ok x k =>
        rw [hc] at hx
        obtain ⟨g3, g4⟩ := hx
        show Wf i l.length (if _ then _ else _)
        by_cases ht : signAt l k = [58]
        · rw [if_pos ht]
          have hk := sign_lt ht (by decide)
          have hy := h1 (k + 1) (if a = 0 then z else z + 1) (by omega) (by omega) (by split <;> omega)
          cases hd : cho (k + 1) d (if a = 0 then z else z + 1) with
          | er e f q => trivial
          | ok y m =>
            rw [hd] at hy
            obtain ⟨g5, g6⟩ := hy
            exact ⟨by omega, g6⟩
        · rw [if_neg ht]; trivial
    · rw [if_neg hs]; exact ⟨g1, g2⟩
theorem cho_is {l : List Token} (hl : l.length < 1099511627776) {q1 : Q1} {q2 : Q2} {q3 : Q1} {cho : Nat → Nat → Nat → Res} {bin : Nat → Nat → Nat → Nat → Res} {i d z : Nat} (hi : i ≤ l.length) (hz : z ≤ i)
    (H2 : Is d z (q2 1 l i d z) (bin 1 i d z) ∧ Wf i l.length (bin 1 i d z))
    (H1 : ∀ j z' : Nat, i < j → j ≤ l.length → z' ≤ j → Is d z' (q1 l j d z') (cho j d z') ∧ Wf j l.length (cho j d z')) :
    Is d z (cond_parser_choice_s q1 q2 q3 l i d z) (choV cho bin l i d z) := by
  obtain ⟨h1, h2⟩ := H2
  unfold cond_parser_choice_s choV
  cases hr : bin 1 i d z with
  | er e f q =>
    rw [hr] at h1
    obtain ⟨w, hw⟩ := h1
    rw [hw]
    exact ⟨_, rfl⟩
  | ok a j =>
    rw [hr] at h1 h2
    rw [show q2 1 l i d z = _ from h1]
    obtain ⟨h3, h4⟩ := h2
    show Is d z ((cond_parser_eat [63] l (j : Int) (d : Int) (z : Int)).bind _) _
    rw [eat_eq [63] l j (by omega), Option.bind_some]
    show Is d z _ (if signAt l j = [63] then _ else _)
    by_cases hs : signAt l j = [63]
    · have hj := sign_lt hs (by decide)
      rw [decide_eq_true hs, if_pos hs, if_pos hs]
      dsimp only
      rw [if_neg (by decide)]
      by_cases ha : a = 0
      · rw [ei_t ha, if_pos (by decide), w1 z (by omega)]
        have := j1_is hl (q1 := q1) (cho := cho) (d := d) (z := z) (by omega) a (a, (j : Int), (d : Int), (z : Int)) (true, ((j + 1 : Nat) : Int)) (j + 1) (by omega) true (z + 1) rfl rfl rfl rfl (by omega) (fun k zz hk hk2 hzz => H1 k zz (by omega) hk2 hzz) (by omega)
        rw [if_pos ha]
        exact this
      · rw [ei_f ha, if_neg (by decide)]
        have := j1_is hl (q1 := q1) (cho := cho) (d := d) (z := z) (by omega) a (a, (j : Int), (d : Int), (z : Int)) (true, ((j + 1 : Nat) : Int)) (j + 1) (by omega) false z rfl rfl rfl rfl (by omega) (fun k zz hk hk2 hzz => H1 k zz (by omega) hk2 hzz) (by omega)
        rw [if_neg ha]
        exact this
    · rw [decide_eq_false hs, if_neg hs, if_neg hs]
      dsimp only
      rw [if_pos (by decide)]
      rfl
end Go.Proofs.YtghmojcecefgjaaDoor
