/- CondParens. Plain. -/
import Derived.Test.YtghmojcecefgjaaDoorYaz
set_option linter.unusedVariables false
set_option linter.unusedSimpArgs false
namespace Go.Proofs.YtghmojcecefgjaaDoor
open Go.RowKit
theorem Is_det {d z : Nat} {o : OG} : ∀ {r r' : Res}, Is d z o r → Is d z o r' → r = r' := by
  intro r r' h g
  cases r with
  | ok v j =>
    obtain rfl := h
    cases r' with
    | ok v' j' =>
      have g : some (GR.ok (v, (j : Int), (d : Int), (z : Int))) = some (GR.ok (v', (j' : Int), (d : Int), (z : Int))) := g
      simp only [Option.some.injEq, GR.ok.injEq, Prod.mk.injEq] at g
      obtain ⟨rfl, g, _⟩ := g
      have : j = j' := by omega
      rw [this]
    | er e f p => obtain ⟨x, g⟩ := g; cases g
  | er e f p =>
    obtain ⟨x, rfl⟩ := h
    cases r' with
    | ok v' j' =>
      have g : some (GR.er (e, f, p, x)) = some (GR.ok (v', (j' : Int), (d : Int), (z : Int))) := g
      cases g
    | er e' f' p' => obtain ⟨x', g⟩ := g; cases g; rfl
theorem pV_fuel {l : List Token} (hl : l.length < 1099511627776) (hc : clean l) (m m' : Nat) (h : 3 * l.length + 2 < m) (h' : 3 * l.length + 2 < m') : (pV l m).1 0 0 0 = (pV l m').1 0 0 0 := by
  have hF := bigF_le
  exact Is_det ((rec_is hl hc bigF m 0 0 0 (Nat.zero_le _) (by omega) (Nat.le_refl _)).1 (by omega) (by omega)).1 ((rec_is hl hc bigF m' 0 0 0 (Nat.zero_le _) (by omega) (Nat.le_refl _)).1 (by omega) (by omega)).1
theorem kw_get (l : List Token) (i : Nat) (k : Int) (t : List UInt8) (h : (l.map kwT)[i]? = some (k, t)) : i < l.length ∧ (l.getD i default).Kind = k ∧ (l.getD i default).Text = t := by
  rw [List.getElem?_map] at h
  cases hq : l[i]? with
  | none => rw [hq] at h; cases h
  | some x =>
    rw [hq] at h
    have h : kwT x = (k, t) := by simpa using h
    have hlt : i < l.length := by
      rcases Nat.lt_or_ge i l.length with g | g
      · exact g
      · rw [List.getElem?_eq_none g] at hq; cases hq
    refine ⟨hlt, ?_⟩
    rw [List.getD_eq_getElem?_getD, hq]
    exact ⟨congrArg Prod.fst h, congrArg Prod.snd h⟩
theorem sub_of (l l' : List Token) (P : List (Int × List UInt8)) (h : l'.map kwT = P ++ (l.map kwT ++ [(5, [41])])) : Sub l l' P.length := by
  have hlen : l'.length = l.length + P.length + 1 := by
    have := congrArg List.length h
    simp only [List.length_map, List.length_append, List.length_cons, List.length_nil] at this
    omega
  have hin : ∀ i, i < l.length → (l'.getD (i + P.length) default).Kind = (l.getD i default).Kind ∧ (l'.getD (i + P.length) default).Text = (l.getD i default).Text := by
    intro i hi
    have e : (l'.map kwT)[i + P.length]? = some (kwT (l.getD i default)) := by
      rw [h, List.getElem?_append_right (by omega), show i + P.length - P.length = i by omega, List.getElem?_append_left (by simpa using hi), List.getElem?_map, List.getD_eq_getElem?_getD, List.getElem?_eq_getElem hi]
      rfl
    have := kw_get l' _ _ _ e
    exact ⟨this.2.1, this.2.2⟩
  have hlast : (l'.map kwT)[l.length + P.length]? = some (5, [41]) := by
    rw [h, List.getElem?_append_right (by omega), show l.length + P.length - P.length = l.length by omega, List.getElem?_append_right (by simp)]
    simp
  have := kw_get l' _ _ _ hlast
  exact ⟨hlen, fun i hi => (hin i hi).1, fun i hi => (hin i hi).2, this.2.1, this.2.2⟩
theorem sign_of (l : List Token) (i : Nat) (s : List UInt8) (h : (l.map kwT)[i]? = some (5, s)) : signAt l i = s ∧ i < l.length ∧ (l.getD i default).Kind = 5 := by
  obtain ⟨h1, h2, h3⟩ := kw_get l i 5 s h
  refine ⟨?_, h1, h2⟩
  unfold signAt
  rw [if_pos ⟨h1, h2⟩, h3]
theorem ato_at {cho ato : Nat → Nat → Nat → Res} {l : List Token} {i d z : Nat} (s : List UInt8) (h : (l.map kwT)[i]? = some (5, s)) (hd : d < 30) :
    atoV cho ato l i d z = (if s = [40] then (cho (i + 1) (d + 1) z).then fun v j => if signAt l j = [41] then .ok v (j + 1) else erAt l j 2
      else if s = [45] then (ato (i + 1) (d + 1) z).then fun v j => .ok (IntKind.i64.wrap (0 - v)) j
      else if s = [43] then (ato (i + 1) (d + 1) z).then fun v j => .ok v j
      else if s = [126] then (ato (i + 1) (d + 1) z).then fun v j => .ok (IntKind.i64.wrap ((BitVec.ofInt IntKind.i64.bits (-1)) ^^^ (BitVec.ofInt IntKind.i64.bits v)).toNat) j
      else if s = [33] then (ato (i + 1) (d + 1) z).then fun v j => .ok (oneV (decide (v = 0))) j
      else erAt l i 2) := by
  obtain ⟨h1, h2, h3⟩ := sign_of l i s h
  unfold atoV
  rw [if_neg (show ¬ d = 30 by omega), if_neg (show ¬ i = l.length by omega), h3, if_neg (by decide), if_neg (by decide), if_neg (by decide), h1]
theorem top_end {l : List Token} (m : Nat) (v : Int) (d z : Nat) (h : (pV l m).2.2 0 d z = .ok v l.length) : (pV l (m + 2)).1 0 d z = .ok v l.length := by
  have h2 : (pV l (m + 1)).2.1 1 0 d z = .ok v l.length := by
    show binV _ _ l 1 0 d z = _
    unfold binV
    rw [h]
    show lopV _ l 1 (l.length + 1) v l.length d z = _
    rw [lopV, sign_out l _ (Nat.le_refl _), if_pos (show tightV [] = 0 ∨ tightV [] < 1 from Or.inl rfl)]
  show choV _ _ l 0 d z = _
  unfold choV
  rw [h2]
  show (if signAt l l.length = [63] then _ else _) = _
  rw [sign_out l _ (Nat.le_refl _), if_neg (by decide)]
theorem top_err {l : List Token} (m : Nat) (e f g : Int) (d z : Nat) (h : (pV l m).2.2 0 d z = .er e f g) : (pV l (m + 2)).1 0 d z = .er e f g := by
  have h2 : (pV l (m + 1)).2.1 1 0 d z = .er e f g := by
    show binV _ _ l 1 0 d z = _
    unfold binV
    rw [h]
    rfl
  show choV _ _ l 0 d z = _
  unfold choV
  rw [h2]
  rfl
theorem evalV_of {l : List Token} (hl : l.length < 1099511627776) (hc : clean l) (m : Nat) (hm : 3 * l.length + 2 < m) : evalV l = finE l ((pV l m).1 0 0 0) := by
  unfold evalV
  rw [pV_fuel hl hc (3 * l.length + 4) m (by omega) hm]
def Ne : Res → Prop
  | .ok _ _ => True
  | .er e _ _ => e ≠ 0
theorem ne_then {r : Res} {F : Int → Nat → Res} (h : Ne r) (hF : ∀ v j, Ne (F v j)) : Ne (r.then F) := by
  cases r with
  | ok v j => exact hF v j
  | er e f p => exact h
theorem opV_ne (s : List UInt8) (a b e : Int) (h : opV s a b = .inr e) : e ≠ 0 := by
  unfold opV at h
  by_cases h0 : s = [124]
  · rw [if_pos h0] at h; cases h
  rw [if_neg h0] at h
  by_cases h1 : s = [94]
  · rw [if_pos h1] at h; cases h
  rw [if_neg h1] at h
  by_cases h2 : s = [38]
  · rw [if_pos h2] at h; cases h
  rw [if_neg h2] at h
  by_cases h3 : s = [61, 61]
  · rw [if_pos h3] at h; cases h
  rw [if_neg h3] at h
  by_cases h4 : s = [33, 61]
  · rw [if_pos h4] at h; cases h
  rw [if_neg h4] at h
  by_cases h5 : s = [60]
  · rw [if_pos h5] at h; cases h
  rw [if_neg h5] at h
  by_cases h6 : s = [62]
  · rw [if_pos h6] at h; cases h
  rw [if_neg h6] at h
  by_cases h7 : s = [60, 61]
  · rw [if_pos h7] at h; cases h
  rw [if_neg h7] at h
  by_cases h8 : s = [62, 61]
  · rw [if_pos h8] at h; cases h
  rw [if_neg h8] at h
  by_cases h9 : s = [43]
  · rw [if_pos h9] at h; cases h
  rw [if_neg h9] at h
  by_cases h10 : s = [45]
  · rw [if_pos h10] at h; cases h
  rw [if_neg h10] at h
  by_cases h11 : s = [42]
  · rw [if_pos h11] at h; cases h
  rw [if_neg h11] at h
  by_cases g1 : s = [60, 60]
  · rw [if_pos g1] at h
    by_cases g2 : b < 0 ∨ 63 < b
    · rw [if_pos g2] at h; cases h; decide
    · rw [if_neg g2] at h; cases h
  rw [if_neg g1] at h
  by_cases g2 : s = [62, 62]
  · rw [if_pos g2] at h
    by_cases g3 : b < 0 ∨ 63 < b
    · rw [if_pos g3] at h; cases h; decide
    · rw [if_neg g3] at h; cases h
  rw [if_neg g2] at h
  by_cases g3 : b = 0
  · rw [if_pos g3] at h; cases h; decide
  rw [if_neg g3] at h
  by_cases g4 : b = -1
  · rw [if_pos g4] at h
    by_cases g5 : s = [47]
    · rw [if_pos g5] at h; cases h
    · rw [if_neg g5] at h; cases h
  rw [if_neg g4] at h
  by_cases g5 : s = [47]
  · rw [if_pos g5] at h; cases h
  · rw [if_neg g5] at h; cases h
theorem combV_ne (s : List UInt8) (a b : Int) (z : Nat) (e : Int) (h : combV s a b z = .inr e) : e ≠ 0 := by
  unfold combV at h
  by_cases h1 : s = [38, 38]
  · rw [if_pos h1] at h; cases h
  rw [if_neg h1] at h
  by_cases h2 : s = [124, 124]
  · rw [if_pos h2] at h; cases h
  rw [if_neg h2] at h
  cases ho : opV s a b with
  | inl v => rw [ho] at h; cases h
  | inr w =>
    rw [ho] at h
    have h : (if z = 0 then Sum.inr w else Sum.inl 0 : Int ⊕ Int) = .inr e := h
    by_cases hz : z = 0
    · rw [if_pos hz] at h; cases h; exact opV_ne s a b _ ho
    · rw [if_neg hz] at h; cases h
theorem lop_ne {l : List Token} {bin : Nat → Nat → Nat → Nat → Res} (H : ∀ t i d z, Ne (bin t i d z)) (least d z : Nat) : ∀ (k : Nat) (a : Int) (i : Nat), Ne (lopV bin l least k a i d z) := by
  intro k
  induction k with
  | zero => intro a i; exact (by decide : (1 : Int) ≠ 0)
  | succ k ih =>
    intro a i
    rw [lopV]
    split
    · trivial
    · refine ne_then (H _ _ _ _) fun b j => ?_
      cases hc : combV (signAt l i) a b z with
      | inl v => exact ih v j
      | inr e => exact combV_ne _ _ _ _ _ hc
theorem ne_all (l : List Token) : ∀ (n : Nat), (∀ i d z, Ne ((pV l n).1 i d z)) ∧ (∀ t i d z, Ne ((pV l n).2.1 t i d z)) ∧ (∀ i d z, Ne ((pV l n).2.2 i d z)) := by
  intro n
  induction n with
  | zero => exact ⟨fun _ _ _ => (by decide : (1 : Int) ≠ 0), fun _ _ _ _ => (by decide : (1 : Int) ≠ 0), fun _ _ _ => (by decide : (1 : Int) ≠ 0)⟩
  | succ n ih =>
    obtain ⟨h1, h2, h3⟩ := ih
    have c2 : ∀ i, Ne (erAt l i 2) := fun i => (by decide : (2 : Int) ≠ 0)
    refine ⟨fun i d z => ?_, fun t i d z => ?_, fun i d z => ?_⟩
    · show Ne (choV _ _ l i d z)
      unfold choV
      refine ne_then (h2 _ _ _ _) fun a j => ?_
      split
      · refine ne_then (h1 _ _ _) fun x k => ?_
        split
        · exact ne_then (h1 _ _ _) fun y m => trivial
        · exact c2 _
      · trivial
    · show Ne (binV _ _ l t i d z)
      unfold binV
      exact ne_then (h3 _ _ _) fun a j => lop_ne h2 t d z _ a j
    · show Ne (atoV _ _ l i d z)
      unfold atoV
      have c3 : Ne (erAt l i 3) := (by decide : (3 : Int) ≠ 0)
      have c9 : Ne (erAt l i 9) := (by decide : (9 : Int) ≠ 0)
      have c10 : Ne (erAt l i 10) := (by decide : (10 : Int) ≠ 0)
      by_cases q1 : d = 30
      · rw [if_pos q1]; exact c10
      rw [if_neg q1]
      by_cases q2 : i = l.length
      · rw [if_pos q2]; exact c9
      rw [if_neg q2]
      by_cases q3 : (l.getD i default).Kind = 1
      · rw [if_pos q3]; trivial
      rw [if_neg q3]
      by_cases q4 : (l.getD i default).Kind = 2
      · rw [if_pos q4]; split
        · trivial
        · exact c3
      rw [if_neg q4]
      by_cases q5 : (l.getD i default).Kind = 3
      · rw [if_pos q5]; split
        · trivial
        · exact c3
      rw [if_neg q5]
      by_cases q6 : signAt l i = [40]
      · rw [if_pos q6]
        refine ne_then (h1 _ _ _) fun v j => ?_
        split
        · trivial
        · exact c2 _
      rw [if_neg q6]
      have tr : ∀ f : Int → Int, Ne (((pV l n).2.2 (i + 1) (d + 1) z).then fun v j => .ok (f v) j) := fun f => ne_then (h3 _ _ _) fun v j => trivial
      by_cases q7 : signAt l i = [45]
      · rw [if_pos q7]; exact tr fun v => IntKind.i64.wrap (0 - v)
      rw [if_neg q7]
      by_cases q8 : signAt l i = [43]
      · rw [if_pos q8]; exact tr fun v => v
      rw [if_neg q8]
      by_cases q9 : signAt l i = [126]
      · rw [if_pos q9]; exact tr fun v => IntKind.i64.wrap ((BitVec.ofInt IntKind.i64.bits (-1)) ^^^ (BitVec.ofInt IntKind.i64.bits v)).toNat
      rw [if_neg q9]
      by_cases q10 : signAt l i = [33]
      · rw [if_pos q10]; exact tr fun v => oneV (decide (v = 0))
      rw [if_neg q10]; exact c2 _
theorem eval_ok {l : List Token} (hl : l.length < 1099511627776) (hc : clean l) (h0 : (evalV l).2.1 = 0) (m : Nat) (hm : 3 * l.length + 2 < m) : (pV l m).1 0 0 0 = .ok (evalV l).1 l.length := by
  have he := evalV_of hl hc m hm
  rw [he] at h0 ⊢
  have w := (wf_all l m 0 0 0 (Nat.zero_le _)).1
  have hne := (ne_all l m).1 0 0 0
  cases hr : (pV l m).1 0 0 0 with
  | er e f p => rw [hr] at h0 hne; exact absurd h0 hne
  | ok v j =>
    rw [hr] at h0 w
    by_cases hj : j < l.length
    · have e1 : finE l (.ok v j) = (0, 2, (faultAt l j).1, (faultAt l j).2) := if_pos hj
      rw [e1] at h0
      exact absurd h0 (show ¬ (2 : Int) = 0 by decide)
    · have e1 : finE l (.ok v j) = (v, 0, -1, 0) := if_neg hj
      have : j = l.length := by have := w.2; omega
      rw [e1, this]
theorem paren_eval {l l' : List Token} (hl : l.length < 100000) (hc : clean l) (hc' : clean l') (h0 : (evalV l).2.1 = 0) (he : l'.map kwT = (5, [40]) :: (l.map kwT ++ [(5, [41])])) :
    (∃ f g, evalV l' = (0, 10, f, g)) ∨ evalV l' = ((evalV l).1, 0, -1, 0) := by
  have hH : Sub l l' 1 := sub_of l l' [(5, [40])] he
  have hlen := hH.len
  have hv := eval_ok (by omega) hc h0 (3 * l'.length + 10) (by omega)
  have hs := (sm_all hH 1 (3 * l'.length + 10) 0 0 0 (Nat.zero_le _) (by omega)).1
  rw [hv] at hs
  have ha : (pV l' (3 * l'.length + 11)).2.2 0 0 0 = ((pV l' (3 * l'.length + 10)).1 1 1 0).then fun v j => if signAt l' j = [41] then .ok v (j + 1) else erAt l' j 2 := by
    show atoV _ _ l' 0 0 0 = _
    rw [ato_at [40] (by rw [he]; rfl) (by omega), if_pos rfl]
  rw [evalV_of (by omega) hc' (3 * l'.length + 13) (by omega)]
  rcases hs with hs | ⟨f, g, hs⟩
  · right
    have hs : (pV l' (3 * l'.length + 10)).1 1 1 0 = .ok (evalV l).1 (l.length + 1) := hs
    rw [hs] at ha
    have ha : (pV l' (3 * l'.length + 11)).2.2 0 0 0 = (if signAt l' (l.length + 1) = [41] then .ok (evalV l).1 (l.length + 1 + 1) else erAt l' (l.length + 1) 2) := ha
    rw [hH.last, if_pos rfl, show l.length + 1 + 1 = l'.length by omega] at ha
    rw [top_end (3 * l'.length + 11) _ 0 0 ha]
    exact if_neg (by omega)
  · left
    have hs : (pV l' (3 * l'.length + 10)).1 1 1 0 = .er 10 f g := hs
    rw [hs] at ha
    rw [top_err (3 * l'.length + 11) 10 f g 0 0 ha]
    exact ⟨f, g, rfl⟩
theorem nots_eval {l l' : List Token} (hl : l.length < 100000) (hc : clean l) (hc' : clean l') (h0 : (evalV l).2.1 = 0) (he : l'.map kwT = (5, [33]) :: (5, [33]) :: (5, [40]) :: (l.map kwT ++ [(5, [41])])) :
    (∃ f g, evalV l' = (0, 10, f, g)) ∨ evalV l' = (oneV (decide (oneV (decide ((evalV l).1 = 0)) = 0)), 0, -1, 0) := by
  have hH : Sub l l' 3 := sub_of l l' [(5, [33]), (5, [33]), (5, [40])] he
  have hlen := hH.len
  have hv := eval_ok (by omega) hc h0 (3 * l'.length + 10) (by omega)
  have hs := (sm_all hH 3 (3 * l'.length + 10) 0 0 0 (Nat.zero_le _) (by omega)).1
  rw [hv] at hs
  have ha : (pV l' (3 * l'.length + 11)).2.2 2 2 0 = ((pV l' (3 * l'.length + 10)).1 3 3 0).then fun v j => if signAt l' j = [41] then .ok v (j + 1) else erAt l' j 2 := by
    show atoV _ _ l' 2 2 0 = _
    rw [ato_at [40] (by rw [he]; rfl) (by omega), if_pos rfl]
  have hb : (pV l' (3 * l'.length + 12)).2.2 1 1 0 = ((pV l' (3 * l'.length + 11)).2.2 2 2 0).then fun v j => .ok (oneV (decide (v = 0))) j := by
    show atoV _ _ l' 1 1 0 = _
    rw [ato_at [33] (by rw [he]; rfl) (by omega), if_neg (by decide), if_neg (by decide), if_neg (by decide), if_neg (by decide), if_pos rfl]
  have hd : (pV l' (3 * l'.length + 13)).2.2 0 0 0 = ((pV l' (3 * l'.length + 12)).2.2 1 1 0).then fun v j => .ok (oneV (decide (v = 0))) j := by
    show atoV _ _ l' 0 0 0 = _
    rw [ato_at [33] (by rw [he]; rfl) (by omega), if_neg (by decide), if_neg (by decide), if_neg (by decide), if_neg (by decide), if_pos rfl]
  rw [evalV_of (by omega) hc' (3 * l'.length + 15) (by omega)]
  rcases hs with hs | ⟨f, g, hs⟩
  · right
    have hs : (pV l' (3 * l'.length + 10)).1 3 3 0 = .ok (evalV l).1 (l.length + 3) := hs
    rw [hs] at ha
    have ha : (pV l' (3 * l'.length + 11)).2.2 2 2 0 = (if signAt l' (l.length + 3) = [41] then .ok (evalV l).1 (l.length + 3 + 1) else erAt l' (l.length + 3) 2) := ha
    rw [hH.last, if_pos rfl, show l.length + 3 + 1 = l'.length by omega] at ha
    rw [ha] at hb
    rw [hb] at hd
    rw [top_end (3 * l'.length + 13) _ 0 0 hd]
    exact if_neg (by omega)
  · left
    have hs : (pV l' (3 * l'.length + 10)).1 3 3 0 = .er 10 f g := hs
    rw [hs] at ha
    rw [ha] at hb
    rw [hb] at hd
    rw [top_err (3 * l'.length + 13) 10 f g 0 0 hd]
    exact ⟨f, g, rfl⟩
theorem hash_eval {l : List Token} (hl : l.length < 100000) (hc : clean l) (t : Token) (r : List Token) (e : l = t :: r) (k : t.Kind = 5 ∨ t.Kind = 6) (h : t.Text = [35]) : (evalV l).2.1 ≠ 0 := by
  have ha : (pV l (3 * l.length + 11)).2.2 0 0 0 = erAt l 0 2 := by
    show atoV _ _ l 0 0 0 = _
    have hT : l.getD 0 default = t := by rw [e]; rfl
    have hlen : 0 < l.length := by rw [e]; simp
    have hs : signAt l 0 = [35] ∨ signAt l 0 = [] := by
      unfold signAt
      rw [hT]
      split
      · exact Or.inl h
      · exact Or.inr rfl
    have n1 : ∀ s : List UInt8, s ≠ [35] → s ≠ [] → ¬ signAt l 0 = s := by
      intro s q1 q2 q3
      rcases hs with q | q
      · exact q1 (q3.symm.trans q)
      · exact q2 (q3.symm.trans q)
    unfold atoV
    rw [if_neg (by decide), if_neg (show ¬ 0 = l.length by omega), hT, if_neg (show ¬ t.Kind = 1 by omega), if_neg (show ¬ t.Kind = 2 by omega), if_neg (show ¬ t.Kind = 3 by omega),
      if_neg (n1 [40] (by decide) (by decide)), if_neg (n1 [45] (by decide) (by decide)), if_neg (n1 [43] (by decide) (by decide)), if_neg (n1 [126] (by decide) (by decide)), if_neg (n1 [33] (by decide) (by decide))]
  rw [evalV_of (by omega) hc (3 * l.length + 13) (by omega), top_err (3 * l.length + 11) 2 _ _ 0 0 ha]
  show (2 : Int) ≠ 0
  decide
theorem piece35 (u : List UInt8) (p : Bool) (kd : Int) (n : Nat) (h : piece u p = (kd, some n)) (ht : u.take n = [35]) : kd = 5 ∨ kd = 6 := by
  cases u with
  | nil => simp at ht
  | cons c r =>
    have hc : c = 35 := by
      cases n with
      | zero => simp at ht
      | succ n => simp only [List.take_succ_cons, List.cons.injEq] at ht; exact ht.1
    subst hc
    unfold piece at h
    simp only [show isLet 35 = false from by decide, show isDig 35 = false from by decide] at h
    rw [if_neg (by decide), if_neg (by simp), if_neg (by decide), if_neg (by decide), if_neg (fun q => absurd q.1 (by decide))] at h
    split at h
    · cases h; exact Or.inl rfl
    · cases h; exact Or.inr rfl
end Go.Proofs.YtghmojcecefgjaaDoor
