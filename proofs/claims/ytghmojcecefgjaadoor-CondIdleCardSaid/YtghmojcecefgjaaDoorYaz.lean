/- In parentheses tokens come to what they come to without, or it is too deep. Plain. -/
import Derived.Test.YtghmojcecefgjaaDoorYay
set_option linter.unusedVariables false
set_option linter.unusedSimpArgs false
namespace Go.Proofs.YtghmojcecefgjaaDoor
open Go.RowKit
structure Sub (l l' : List Token) (p : Nat) : Prop where
  len : l'.length = l.length + p + 1
  kd : ∀ i, i < l.length → (l'.getD (i + p) default).Kind = (l.getD i default).Kind
  tx : ∀ i, i < l.length → (l'.getD (i + p) default).Text = (l.getD i default).Text
  lk : (l'.getD (l.length + p) default).Kind = 5
  lt : (l'.getD (l.length + p) default).Text = [41]
theorem Sub.sign {l l' : List Token} {p : Nat} (H : Sub l l' p) {i : Nat} (h : i < l.length) : signAt l' (i + p) = signAt l i := by
  unfold signAt
  rw [H.kd i h, H.tx i h]
  have := H.len
  by_cases h5 : (l.getD i default).Kind = 5
  · rw [if_pos ⟨by omega, h5⟩, if_pos ⟨h, h5⟩]
  · rw [if_neg (fun q => h5 q.2), if_neg (fun q => h5 q.2)]
theorem Sub.last {l l' : List Token} {p : Nat} (H : Sub l l' p) : signAt l' (l.length + p) = [41] := by
  unfold signAt
  rw [H.lk, H.lt, if_pos ⟨by have := H.len; omega, rfl⟩]
theorem sign_out (l : List Token) (i : Nat) (h : l.length ≤ i) : signAt l i = [] := by
  unfold signAt
  rw [if_neg (fun q => by omega)]
theorem Sub.is {l l' : List Token} {p : Nat} (H : Sub l l' p) {i : Nat} (h : i ≤ l.length) (s : List UInt8) (h0 : s ≠ []) (h1 : s ≠ [41]) : signAt l' (i + p) = s ↔ signAt l i = s := by
  rcases Nat.lt_or_ge i l.length with h2 | h2
  · rw [H.sign h2]
  · have : i = l.length := by omega
    subst this
    rw [H.last, sign_out l _ (Nat.le_refl _)]
    constructor
    · intro q; exact absurd q.symm h1
    · intro q; exact absurd q.symm h0
theorem cho_wf' {cho : Nat → Nat → Nat → Res} {bin : Nat → Nat → Nat → Nat → Res} {l : List Token} {i d z : Nat} (h2 : Wf i l.length (bin 1 i d z))
    (h1 : ∀ j z', j ≤ l.length → Wf j l.length (cho j d z')) : Wf i l.length (choV cho bin l i d z) := by
  unfold choV
  cases hr : bin 1 i d z with
  | er e f q => trivial
  | ok a j =>
    rw [hr] at h2
    obtain ⟨g1, g2⟩ := h2
    show Wf i l.length (if _ then _ else _)
    by_cases hs : signAt l j = [63]
    · rw [if_pos hs]
      have hj := sign_lt hs (by decide)
      have hx := h1 (j + 1) (if a = 0 then z + 1 else z) (by omega)
      cases hc : cho (j + 1) d (if a = 0 then z + 1 else z) with
      | er e f q => trivial
      | ok x k =>
        rw [hc] at hx
        obtain ⟨g3, g4⟩ := hx
        show Wf i l.length (if _ then _ else _)
        by_cases ht : signAt l k = [58]
        · rw [if_pos ht]
          have hk := sign_lt ht (by decide)
          have hy := h1 (k + 1) (if a = 0 then z else z + 1) (by omega)
          cases hd : cho (k + 1) d (if a = 0 then z else z + 1) with
          | er e f q => trivial
          | ok y m =>
            rw [hd] at hy
            obtain ⟨g5, g6⟩ := hy
            exact ⟨by omega, g6⟩
        · rw [if_neg ht]; trivial
    · rw [if_neg hs]; exact ⟨g1, g2⟩
theorem lop_wf {l : List Token} {d : Nat} {bin : Nat → Nat → Nat → Nat → Res} (H2 : ∀ t j z', j ≤ l.length → Wf j l.length (bin t j d z')) (least z : Nat) :
    ∀ (k : Nat) (a : Int) (i : Nat), i ≤ l.length → ∀ v j, lopV bin l least k a i d z = .ok v j → i ≤ j ∧ j ≤ l.length := by
  intro k
  induction k with
  | zero => intro a i hi v j h; cases h
  | succ k ih =>
    intro a i hi v j h
    rw [lopV] at h
    by_cases he : tightV (signAt l i) = 0 ∨ tightV (signAt l i) < least
    · rw [if_pos he] at h; cases h; omega
    · rw [if_neg he] at h
      have hne : signAt l i ≠ [] := by intro q; rw [q] at he; exact he (Or.inl rfl)
      have hlt := sign_lt (l := l) (i := i) rfl hne
      have g1 := H2 (tightV (signAt l i) + 1) (i + 1) (if skipV (signAt l i) a = true then z + 1 else z) hlt
      cases hb : bin (tightV (signAt l i) + 1) (i + 1) d (if skipV (signAt l i) a = true then z + 1 else z) with
      | er => rw [hb] at h; cases h
      | ok b m =>
        rw [hb] at h g1
        have h' : (match combV (signAt l i) a b z with | .inl v => lopV bin l least k v m d z | .inr e => erAt l i e) = .ok v j := h
        cases hcb : combV (signAt l i) a b z with
        | inl w =>
          rw [hcb] at h'
          have := ih w m g1.2 v j h'
          have := g1.1
          omega
        | inr w => rw [hcb] at h'; cases h'
theorem wf_all (l : List Token) : ∀ (n i d z : Nat), i ≤ l.length → Wf i l.length ((pV l n).1 i d z) ∧ (∀ t, Wf i l.length ((pV l n).2.1 t i d z)) ∧ Wf i l.length ((pV l n).2.2 i d z) := by
  intro n
  induction n with
  | zero => intro i d z h; exact ⟨trivial, fun _ => trivial, trivial⟩
  | succ n ih =>
    intro i d z h
    refine ⟨cho_wf' ((ih i d z h).2.1 1) (fun j z' hj => (ih j d z' hj).1), fun t => ?_, ?_⟩
    · show Wf i l.length (binV _ _ l t i d z)
      unfold binV
      have h3 := (ih i d z h).2.2
      cases hr : (pV l n).2.2 i d z with
      | er => trivial
      | ok a j =>
        rw [hr] at h3
        show Wf i l.length (lopV _ l t (l.length + 1) a j d z)
        cases hq : lopV (pV l n).2.1 l t (l.length + 1) a j d z with
        | er => trivial
        | ok v k =>
          have := lop_wf (fun t j z' hj => (ih j d z' hj).2.1 t) t z (l.length + 1) a j h3.2 v k hq
          exact ⟨by have := h3.1; omega, this.2⟩
    · show Wf i l.length (atoV _ _ l i d z)
      unfold atoV
      have tr : ∀ (r : Res) (f : Int → Int), Wf (i + 1) l.length r → Wf i l.length (r.then fun v j => .ok (f v) j) := by
        intro r f hr
        cases r with
        | er => trivial
        | ok v j => exact ⟨by have := hr.1; omega, hr.2⟩
      by_cases c1 : d = 30
      · rw [if_pos c1]; trivial
      rw [if_neg c1]
      by_cases c2 : i = l.length
      · rw [if_pos c2]; trivial
      rw [if_neg c2]
      have hlt : i + 1 ≤ l.length := by omega
      have one : Wf i l.length (.ok 0 (i + 1)) := ⟨by omega, hlt⟩
      by_cases c3 : (l.getD i default).Kind = 1
      · rw [if_pos c3]; exact one
      rw [if_neg c3]
      by_cases c4 : (l.getD i default).Kind = 2
      · rw [if_pos c4]; split
        · exact one
        · trivial
      rw [if_neg c4]
      by_cases c5 : (l.getD i default).Kind = 3
      · rw [if_pos c5]; split
        · exact one
        · trivial
      rw [if_neg c5]
      by_cases c6 : signAt l i = [40]
      · rw [if_pos c6]
        have h4 := (ih (i + 1) (d + 1) z hlt).1
        cases hr : (pV l n).1 (i + 1) (d + 1) z with
        | er => trivial
        | ok v j =>
          rw [hr] at h4
          show Wf i l.length (if signAt l j = [41] then _ else _)
          by_cases c7 : signAt l j = [41]
          · rw [if_pos c7]
            have := sign_lt c7 (by decide)
            exact ⟨by have := h4.1; omega, this⟩
          · rw [if_neg c7]; trivial
      rw [if_neg c6]
      have h5 := (ih (i + 1) (d + 1) z hlt).2.2
      by_cases c7 : signAt l i = [45]
      · rw [if_pos c7]; exact tr _ (fun v => IntKind.i64.wrap (0 - v)) h5
      rw [if_neg c7]
      by_cases c8 : signAt l i = [43]
      · rw [if_pos c8]; exact tr _ (fun v => v) h5
      rw [if_neg c8]
      by_cases c9 : signAt l i = [126]
      · rw [if_pos c9]; exact tr _ (fun v => IntKind.i64.wrap ((BitVec.ofInt IntKind.i64.bits (-1)) ^^^ (BitVec.ofInt IntKind.i64.bits v)).toNat) h5
      rw [if_neg c9]
      by_cases c10 : signAt l i = [33]
      · rw [if_pos c10]; exact tr _ (fun v => oneV (decide (v = 0))) h5
      rw [if_neg c10]; trivial
def Sm (p : Nat) : Res → Res → Prop
  | .ok v j, r' => r' = .ok v (j + p) ∨ ∃ f g, r' = .er 10 f g
  | .er _ _ _, _ => True
theorem sm_deep (p : Nat) (r : Res) (f g : Int) : Sm p r (.er 10 f g) := by
  cases r with
  | ok v j => exact Or.inr ⟨f, g, rfl⟩
  | er => trivial
theorem sm_then {p : Nat} {r r' : Res} {F F' : Int → Nat → Res} (h : Sm p r r') (hF : ∀ v j, r = .ok v j → Sm p (F v j) (F' v (j + p))) : Sm p (r.then F) (r'.then F') := by
  cases r with
  | er => trivial
  | ok v j =>
    rcases h with h | ⟨f, g, h⟩
    · rw [h]; exact hF v j rfl
    · rw [h]; exact sm_deep p _ f g
theorem sm_cho {l l' : List Token} {p e : Nat} (H : Sub l l' p) {cho cho' : Nat → Nat → Nat → Res} {bin bin' : Nat → Nat → Nat → Nat → Res} {i d z : Nat}
    (W2 : Wf i l.length (bin 1 i d z)) (W1 : ∀ j z', j ≤ l.length → Wf j l.length (cho j d z'))
    (H2 : Sm p (bin 1 i d z) (bin' 1 (i + p) (d + e) z)) (H1 : ∀ j z', j ≤ l.length → Sm p (cho j d z') (cho' (j + p) (d + e) z')) :
    Sm p (choV cho bin l i d z) (choV cho' bin' l' (i + p) (d + e) z) := by
  unfold choV
  refine sm_then H2 fun a j hj => ?_
  rw [hj] at W2
  by_cases hs : signAt l j = [63]
  · rw [if_pos hs, if_pos ((H.is W2.2 [63] (by decide) (by decide)).2 hs)]
    have hj := sign_lt hs (by decide)
    have g1 := H1 (j + 1) (if a = 0 then z + 1 else z) hj
    rw [show j + 1 + p = j + p + 1 by omega] at g1
    refine sm_then g1 fun x k hk => ?_
    have w1 := W1 (j + 1) (if a = 0 then z + 1 else z) hj
    rw [hk] at w1
    by_cases ht : signAt l k = [58]
    · rw [if_pos ht, if_pos ((H.is w1.2 [58] (by decide) (by decide)).2 ht)]
      have hk := sign_lt ht (by decide)
      have g4 := H1 (k + 1) (if a = 0 then z else z + 1) hk
      rw [show k + 1 + p = k + p + 1 by omega] at g4
      exact sm_then g4 fun y m _ => Or.inl rfl
    · rw [if_neg ht]; trivial
  · rw [if_neg hs, if_neg (fun q => hs ((H.is W2.2 [63] (by decide) (by decide)).1 q))]
    exact Or.inl rfl
theorem sm_lop {l l' : List Token} {p e d : Nat} (H : Sub l l' p) {bin bin' : Nat → Nat → Nat → Nat → Res} (least z : Nat)
    (W2 : ∀ t j z', j ≤ l.length → Wf j l.length (bin t j d z'))
    (H2 : ∀ t j z', j ≤ l.length → Sm p (bin t j d z') (bin' t (j + p) (d + e) z')) :
    ∀ (k k' : Nat) (a : Int) (i : Nat), i ≤ l.length → l.length - i < k → l'.length - (i + p) < k' →
      Sm p (lopV bin l least k a i d z) (lopV bin' l' least k' a (i + p) (d + e) z) := by
  intro k
  induction k with
  | zero => intro k' a i hi h; omega
  | succ k ih =>
    intro k' a i hi h1 h2
    obtain ⟨k', rfl⟩ : ∃ q, k' = q + 1 := ⟨k' - 1, by omega⟩
    rw [lopV, lopV]
    rcases Nat.lt_or_ge i l.length with hlt | hge
    · rw [H.sign hlt]
      by_cases he : tightV (signAt l i) = 0 ∨ tightV (signAt l i) < least
      · rw [if_pos he, if_pos he]; exact Or.inl rfl
      · rw [if_neg he, if_neg he]
        have g1 := H2 (tightV (signAt l i) + 1) (i + 1) (if skipV (signAt l i) a = true then z + 1 else z) hlt
        rw [show i + 1 + p = i + p + 1 by omega] at g1
        refine sm_then g1 fun b m hm => ?_
        have w1 := W2 (tightV (signAt l i) + 1) (i + 1) (if skipV (signAt l i) a = true then z + 1 else z) hlt
        rw [hm] at w1
        have hlen := H.len
        cases combV (signAt l i) a b z with
        | inl v => exact ih k' v m w1.2 (by have := w1.1; omega) (by have := w1.1; omega)
        | inr w => trivial
    · have : i = l.length := by omega
      subst this
      rw [H.last, sign_out l _ (Nat.le_refl _), if_pos (show tightV [] = 0 ∨ tightV [] < least from Or.inl rfl), if_pos (show tightV [41] = 0 ∨ tightV [41] < least from Or.inl rfl)]
      exact Or.inl rfl
theorem sm_ato {l l' : List Token} {p e d : Nat} (H : Sub l l' p) {cho cho' ato ato' : Nat → Nat → Nat → Res} {i z : Nat} (hi : i ≤ l.length) (hd : d + e ≤ 30)
    (W1 : ∀ d' j, j ≤ l.length → Wf j l.length (cho j d' z))
    (H1 : d + 1 + e ≤ 30 → i + 1 ≤ l.length → Sm p (cho (i + 1) (d + 1) z) (cho' (i + 1 + p) (d + 1 + e) z))
    (H3 : d + 1 + e ≤ 30 → i + 1 ≤ l.length → Sm p (ato (i + 1) (d + 1) z) (ato' (i + 1 + p) (d + 1 + e) z)) :
    Sm p (atoV cho ato l i d z) (atoV cho' ato' l' (i + p) (d + e) z) := by
  unfold atoV
  by_cases c0 : d + e = 30
  · rw [if_pos c0]; exact sm_deep p _ _ _
  rw [if_neg c0, if_neg (show ¬ d = 30 by omega)]
  by_cases c2 : i = l.length
  · rw [if_pos c2]; trivial
  have hlt : i < l.length := by omega
  rw [if_neg c2, if_neg (show ¬ i + p = l'.length by have := H.len; omega), H.kd i hlt, H.tx i hlt, H.sign hlt]
  have e1 : i + 1 + p = i + p + 1 := by omega
  have e2 : d + 1 + e = d + e + 1 := by omega
  have h1 := H1 (by omega) (by omega)
  have h3 := H3 (by omega) (by omega)
  rw [e1, e2] at h1 h3
  by_cases c3 : (l.getD i default).Kind = 1
  · rw [if_pos c3, if_pos c3, ← e1]; exact Or.inl rfl
  rw [if_neg c3, if_neg c3]
  by_cases c4 : (l.getD i default).Kind = 2
  · rw [if_pos c4, if_pos c4]
    by_cases c5 : (numV (l.getD i default).Text).2 = true
    · rw [if_pos c5, if_pos c5, ← e1]; exact Or.inl rfl
    · rw [if_neg c5, if_neg c5]; trivial
  rw [if_neg c4, if_neg c4]
  by_cases c5 : (l.getD i default).Kind = 3
  · rw [if_pos c5, if_pos c5]
    by_cases c6 : (charF (l.getD i default).Text).2 = true
    · rw [if_pos c6, if_pos c6, ← e1]; exact Or.inl rfl
    · rw [if_neg c6, if_neg c6]; trivial
  rw [if_neg c5, if_neg c5]
  by_cases c6 : signAt l i = [40]
  · rw [if_pos c6, if_pos c6]
    refine sm_then h1 fun v j hj => ?_
    have w1 := W1 (d + 1) (i + 1) (by omega)
    rw [hj] at w1
    by_cases c7 : signAt l j = [41]
    · have hj := sign_lt c7 (by decide)
      rw [if_pos c7, if_pos (by rw [H.sign hj]; exact c7)]
      rw [show j + p + 1 = j + 1 + p by omega]; exact Or.inl rfl
    · rw [if_neg c7]; trivial
  rw [if_neg c6, if_neg c6]
  by_cases c7 : signAt l i = [45]
  · rw [if_pos c7, if_pos c7]; exact sm_then h3 fun v j _ => Or.inl rfl
  rw [if_neg c7, if_neg c7]
  by_cases c8 : signAt l i = [43]
  · rw [if_pos c8, if_pos c8]; exact sm_then h3 fun v j _ => Or.inl rfl
  rw [if_neg c8, if_neg c8]
  by_cases c9 : signAt l i = [126]
  · rw [if_pos c9, if_pos c9]; exact sm_then h3 fun v j _ => Or.inl rfl
  rw [if_neg c9, if_neg c9]
  by_cases c10 : signAt l i = [33]
  · rw [if_pos c10, if_pos c10]; exact sm_then h3 fun v j _ => Or.inl rfl
  rw [if_neg c10]; trivial
theorem sm_all {l l' : List Token} {p : Nat} (H : Sub l l' p) (e : Nat) : ∀ (n i d z : Nat), i ≤ l.length → d + e ≤ 30 →
    Sm p ((pV l n).1 i d z) ((pV l' n).1 (i + p) (d + e) z) ∧ (∀ t, Sm p ((pV l n).2.1 t i d z) ((pV l' n).2.1 t (i + p) (d + e) z)) ∧ Sm p ((pV l n).2.2 i d z) ((pV l' n).2.2 (i + p) (d + e) z) := by
  intro n
  induction n with
  | zero => intro i d z _ _; exact ⟨trivial, fun _ => trivial, trivial⟩
  | succ n ih =>
    intro i d z hi hd
    refine ⟨sm_cho H ((wf_all l n i d z hi).2.1 1) (fun j z' hj => (wf_all l n j d z' hj).1) ((ih i d z hi hd).2.1 1) (fun j z' hj => (ih j d z' hj hd).1), fun t => ?_, ?_⟩
    · show Sm p (binV _ _ l t i d z) (binV _ _ l' t (i + p) (d + e) z)
      unfold binV
      refine sm_then (ih i d z hi hd).2.2 fun a j hj => ?_
      have w := (wf_all l n i d z hi).2.2
      rw [hj] at w
      have := H.len
      exact sm_lop H t z (fun t j z' hj => (wf_all l n j d z' hj).2.1 t) (fun t j z' hj => (ih j d z' hj hd).2.1 t) _ _ a j w.2 (by omega) (by omega)
    · exact sm_ato H hi hd (fun d' j hj => (wf_all l n j d' z hj).1) (fun h1 h2 => (ih (i + 1) (d + 1) z h2 h1).1) (fun h1 h2 => (ih (i + 1) (d + 1) z h2 h1).2.2)
end Go.Proofs.YtghmojcecefgjaaDoor
