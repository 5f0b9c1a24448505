/- What tokens come to, level by level. Plain. -/
import Derived.Test.YtghmojcecefgjaaDoorZtbb
set_option linter.unusedVariables false
set_option linter.unusedSimpArgs false
namespace Go.Proofs.YtghmojcecefgjaaDoor
open Go.RowKit
theorem Is.uniq {d z : Nat} {o : OG} : ∀ {r r' : Res}, Is d z o r → Is d z o r' → r = r'
  | .ok v j, .ok v' j', h, h' => by
    have h : o = some (.ok (v, (j : Int), (d : Int), (z : Int))) := h
    have h' : o = some (.ok (v', (j' : Int), (d : Int), (z : Int))) := h'
    rw [h] at h'
    injection h' with e; injection e with e; injection e with e1 e2; injection e2 with e2 e3
    rw [e1, show j = j' by omega]
  | .ok v j, .er e f p, h, ⟨x, h'⟩ => by
    have h : o = some (.ok (v, (j : Int), (d : Int), (z : Int))) := h
    rw [h] at h'; injection h' with e; cases e
  | .er e f p, .ok v j, ⟨x, h⟩, h' => by
    have h' : o = some (.ok (v, (j : Int), (d : Int), (z : Int))) := h'
    rw [h'] at h; injection h with e; cases e
  | .er e f p, .er e' f' p', ⟨x, h⟩, ⟨x', h'⟩ => by
    rw [h] at h'
    injection h' with e; injection e with e
    simp only [Prod.mk.injEq] at e
    rw [e.1, e.2.1, e.2.2.1]
def mF (l : List Token) : Nat := 3 * l.length + 4
def choI (l : List Token) (i d z : Nat) : Res := (pV l (mF l)).1 i d z
def binI (l : List Token) (t i d z : Nat) : Res := (pV l (mF l)).2.1 t i d z
def atoI (l : List Token) (i d z : Nat) : Res := (pV l (mF l)).2.2 i d z
section
variable {l : List Token} (hl : l.length < 1099511627776) (hc : clean l)
include hl hc
theorem cho_st {i d z : Nat} (hi : i ≤ l.length) (hd : d ≤ 30) (hz : z ≤ i) {m : Nat} (hm : 3 * (l.length - i) + 2 < m) : (pV l m).1 i d z = choI l i d z := by
  have hF := bigF_le
  exact Is.uniq ((rec_is hl hc bigF m i d z hi hd hz).1 (by omega) hm).1 ((rec_is hl hc bigF (mF l) i d z hi hd hz).1 (by omega) (by unfold mF; omega)).1
theorem bin_st {i d z t : Nat} (hi : i ≤ l.length) (hd : d ≤ 30) (hz : z ≤ i) (ht : t ≤ 11) {m : Nat} (hm : 3 * (l.length - i) + 1 < m) : (pV l m).2.1 t i d z = binI l t i d z := by
  have hF := bigF_le
  exact Is.uniq ((rec_is hl hc bigF m i d z hi hd hz).2.1 (by omega) hm t ht).1 ((rec_is hl hc bigF (mF l) i d z hi hd hz).2.1 (by omega) (by unfold mF; omega) t ht).1
theorem ato_st {i d z : Nat} (hi : i ≤ l.length) (hd : d ≤ 30) (hz : z ≤ i) {m : Nat} (hm : 3 * (l.length - i) < m) : (pV l m).2.2 i d z = atoI l i d z := by
  have hF := bigF_le
  exact Is.uniq ((rec_is hl hc bigF m i d z hi hd hz).2.2 (by omega) hm).1 ((rec_is hl hc bigF (mF l) i d z hi hd hz).2.2 (by omega) (by unfold mF; omega)).1
theorem cho_wI {i d z : Nat} (hi : i ≤ l.length) (hd : d ≤ 30) (hz : z ≤ i) : Wf i l.length (choI l i d z) := by
  have hF := bigF_le
  exact ((rec_is hl hc bigF (mF l) i d z hi hd hz).1 (by omega) (by unfold mF; omega)).2
theorem bin_wI {i d z t : Nat} (hi : i ≤ l.length) (hd : d ≤ 30) (hz : z ≤ i) (ht : t ≤ 11) : Wf i l.length (binI l t i d z) := by
  have hF := bigF_le
  exact ((rec_is hl hc bigF (mF l) i d z hi hd hz).2.1 (by omega) (by unfold mF; omega) t ht).2
theorem ato_wI {i d z : Nat} (hi : i ≤ l.length) (hd : d ≤ 30) (hz : z ≤ i) : Wf i l.length (atoI l i d z) := by
  have hF := bigF_le
  exact ((rec_is hl hc bigF (mF l) i d z hi hd hz).2.2 (by omega) (by unfold mF; omega)).2
end
theorem Res.then_congr {r : Res} {f g : Int → Nat → Res} (h : ∀ v j, r = .ok v j → f v j = g v j) : r.then f = r.then g := by
  cases r with
  | ok v j => exact h v j rfl
  | er e p q => rfl
theorem lop_wI {bin : Nat → Nat → Nat → Nat → Res} {l : List Token} {least d z : Nat} (i0 : Nat) (hz : z ≤ i0)
    (H : ∀ t j z' : Nat, t ≤ 11 → i0 < j → j ≤ l.length → z' ≤ j → Wf j l.length (bin t j d z')) :
    ∀ (k : Nat) (a : Int) (i : Nat), i0 ≤ i → i ≤ l.length → ∀ v j, lopV bin l least k a i d z = .ok v j → i ≤ j ∧ j ≤ l.length ∧ (tightV (signAt l j) = 0 ∨ tightV (signAt l j) < least) := by
  intro k
  induction k with
  | zero => intro a i h1 h2 v j h; cases h
  | succ k ih =>
    intro a i h1 h2 v j h
    rw [lopV] at h
    by_cases he : tightV (signAt l i) = 0 ∨ tightV (signAt l i) < least
    · rw [if_pos he] at h
      cases h
      exact ⟨Nat.le_refl _, h2, he⟩
    · rw [if_neg he] at h
      have hne : signAt l i ≠ [] := by intro h; rw [h] at he; exact he (Or.inl rfl)
      have hlt := sign_lt (l := l) (i := i) rfl hne
      have htl := tightV_le (signAt l i)
      have g := H (tightV (signAt l i) + 1) (i + 1) (if skipV (signAt l i) a = true then z + 1 else z) (by omega) (by omega) (by omega) (by split <;> omega)
      cases hr : bin (tightV (signAt l i) + 1) (i + 1) d (if skipV (signAt l i) a = true then z + 1 else z) with
      | er e f g => rw [hr] at h; cases h
      | ok b m =>
        rw [hr] at h g
        have h : (match combV (signAt l i) a b z with | .inl v => lopV bin l least k v m d z | .inr e => erAt l i e) = .ok v j := h
        obtain ⟨g1, g2⟩ := g
        cases hcv : combV (signAt l i) a b z with
        | inr e => rw [hcv] at h; cases h
        | inl x =>
          rw [hcv] at h
          obtain ⟨q1, q2, q3⟩ := ih x m (by omega) g2 v j h
          exact ⟨by omega, q2, q3⟩
def elV (bin : Nat → Nat → Nat → Nat → Res) (l : List Token) (t : Nat) : Nat → Int → Nat → Nat → Nat → Res
  | 0, _, _, _, _ => .er 1 0 0
  | k + 1, a, i, d, z =>
    if tightV (signAt l i) ≠ t then .ok a i
    else (bin (t + 1) (i + 1) d (if skipV (signAt l i) a = true then z + 1 else z)).then fun b j =>
      match combV (signAt l i) a b z with
      | .inl v => elV bin l t k v j d z
      | .inr e => erAt l i e
theorem el_st {bin : Nat → Nat → Nat → Nat → Res} {l : List Token} {t d z : Nat} (ht : 1 ≤ t ∧ t ≤ 10) (i0 : Nat) (hz : z ≤ i0)
    (H : ∀ t j z' : Nat, t ≤ 11 → i0 < j → j ≤ l.length → z' ≤ j → Wf j l.length (bin t j d z')) :
    ∀ (k k' : Nat) (a : Int) (i : Nat), i0 ≤ i → i ≤ l.length → l.length - i < k → l.length - i < k' → elV bin l t k a i d z = elV bin l t k' a i d z := by
  intro k
  induction k with
  | zero => intro k' a i h1 h2 h3; omega
  | succ k ih =>
    intro k' a i h1 h2 h3 h4
    obtain ⟨k', rfl⟩ : ∃ x, k' = x + 1 := ⟨k' - 1, by omega⟩
    rw [elV, elV]
    by_cases he : tightV (signAt l i) ≠ t
    · rw [if_pos he, if_pos he]
    · rw [if_neg he, if_neg he]
      have hne : signAt l i ≠ [] := by
        intro h; rw [h] at he
        have : tightV [] = 0 := rfl
        omega
      have hlt := sign_lt (l := l) (i := i) rfl hne
      have g := H (t + 1) (i + 1) (if skipV (signAt l i) a = true then z + 1 else z) (by omega) (by omega) (by omega) (by split <;> omega)
      refine Res.then_congr fun b m hb => ?_
      rw [hb] at g
      obtain ⟨g1, g2⟩ := g
      cases combV (signAt l i) a b z with
      | inl v => exact ih k' v m (by omega) g2 (by omega) (by omega)
      | inr e => rfl
theorem lop_split {bin : Nat → Nat → Nat → Nat → Res} {l : List Token} {t d z : Nat} (ht : 1 ≤ t ∧ t ≤ 10) (i0 : Nat) (hz : z ≤ i0)
    (H : ∀ t j z' : Nat, t ≤ 11 → i0 < j → j ≤ l.length → z' ≤ j → Wf j l.length (bin t j d z') ∧ (∀ v m, bin t j d z' = .ok v m → tightV (signAt l m) = 0 ∨ tightV (signAt l m) < t)) :
    ∀ (k : Nat) (a : Int) (i : Nat), i0 ≤ i → i ≤ l.length → l.length - i < k →
      lopV bin l t k a i d z = (lopV bin l (t + 1) k a i d z).then fun v j => elV bin l t k v j d z := by
  intro k
  induction k with
  | zero => intro a i h1 h2 h3; omega
  | succ k ih =>
    intro a i h1 h2 h3
    rw [lopV, lopV]
    by_cases he : tightV (signAt l i) = 0 ∨ tightV (signAt l i) < t
    · rw [if_pos he, if_pos (show tightV (signAt l i) = 0 ∨ tightV (signAt l i) < t + 1 by omega)]
      show _ = elV bin l t (k + 1) a i d z
      rw [elV, if_pos (show tightV (signAt l i) ≠ t by omega)]
    rw [if_neg he]
    have hne : signAt l i ≠ [] := by intro h; rw [h] at he; exact he (Or.inl rfl)
    have hlt := sign_lt (l := l) (i := i) rfl hne
    have htl := tightV_le (signAt l i)
    have g := H (tightV (signAt l i) + 1) (i + 1) (if skipV (signAt l i) a = true then z + 1 else z) (by omega) (by omega) (by omega) (by split <;> omega)
    by_cases hq : tightV (signAt l i) = t
    · rw [if_pos (show tightV (signAt l i) = 0 ∨ tightV (signAt l i) < t + 1 by omega)]
      show _ = elV bin l t (k + 1) a i d z
      rw [elV, if_neg (show ¬ tightV (signAt l i) ≠ t by omega)]
      rw [hq] at g ⊢
      refine Res.then_congr fun b m hb => ?_
      obtain ⟨g1, g2⟩ := g
      have g2 := g2 b m hb
      rw [hb] at g1
      obtain ⟨g3, g4⟩ := g1
      cases combV (signAt l i) a b z with
      | inr e => rfl
      | inl v =>
        show lopV bin l t k v m d z = elV bin l t k v m d z
        rw [ih v m (by omega) g4 (by omega)]
        obtain ⟨k', rfl⟩ : ∃ x, k = x + 1 := ⟨k - 1, by omega⟩
        rw [lopV, if_pos g2]
        rfl
    · rw [if_neg (show ¬ (tightV (signAt l i) = 0 ∨ tightV (signAt l i) < t + 1) by omega)]
      cases hb : bin (tightV (signAt l i) + 1) (i + 1) d (if skipV (signAt l i) a = true then z + 1 else z) with
      | er e f p => rfl
      | ok b m =>
        rw [hb] at g
        obtain ⟨⟨g3, g4⟩, _⟩ := g
        show (match combV (signAt l i) a b z with | .inl v => lopV bin l t k v m d z | .inr e => erAt l i e) = (match combV (signAt l i) a b z with | .inl v => lopV bin l (t + 1) k v m d z | .inr e => erAt l i e).then fun v j => elV bin l t (k + 1) v j d z
        cases combV (signAt l i) a b z with
        | inr e => rfl
        | inl v =>
          show lopV bin l t k v m d z = (lopV bin l (t + 1) k v m d z).then _
          rw [ih v m (by omega) g4 (by omega)]
          refine Res.then_congr fun w j hw => ?_
          obtain ⟨q1, q2, _⟩ := lop_wI i0 hz (fun t j z' a b c d => (H t j z' a b c d).1) k v m (by omega) g4 w j hw
          exact el_st ht i0 hz (fun t j z' a b c d => (H t j z' a b c d).1) k (k + 1) w j (by omega) q2 (by omega) (by omega)
section
variable {l : List Token} (hl : l.length < 1099511627776) (hc : clean l)
include hl hc
theorem bin_unf {t i d z : Nat} (hi : i ≤ l.length) (hd : d ≤ 30) (hz : z ≤ i) (ht : t ≤ 11) :
    binI l t i d z = (atoI l i d z).then fun a j => lopV (binI l) l t (l.length + 1) a j d z := by
  rw [← bin_st hl hc hi hd hz ht (m := mF l + 1) (by unfold mF; omega)]
  show binV (pV l (mF l)).2.1 (pV l (mF l)).2.2 l t i d z = _
  rfl
theorem bin_end {t i d z : Nat} (hi : i ≤ l.length) (hd : d ≤ 30) (hz : z ≤ i) (ht : t ≤ 11) (v : Int) (m : Nat) (h : binI l t i d z = .ok v m) : tightV (signAt l m) = 0 ∨ tightV (signAt l m) < t := by
  rw [bin_unf hl hc hi hd hz ht] at h
  have g := ato_wI hl hc hi hd hz
  cases hr : atoI l i d z with
  | er e f p => rw [hr] at h; cases h
  | ok a j =>
    rw [hr] at h g
    exact (lop_wI i hz (fun t j z' h1 h2 h3 h4 => bin_wI hl hc h3 hd h4 h1) (l.length + 1) a j (by have := g.1; omega) g.2 v m h).2.2
theorem bin_lev {t i d z : Nat} (hi : i ≤ l.length) (hd : d ≤ 30) (hz : z ≤ i) (ht : 1 ≤ t ∧ t ≤ 10) :
    binI l t i d z = (binI l (t + 1) i d z).then fun a j => elV (binI l) l t (l.length + 1) a j d z := by
  rw [bin_unf hl hc hi hd hz (by omega), bin_unf hl hc hi hd hz (by omega)]
  have g := ato_wI hl hc hi hd hz
  cases hr : atoI l i d z with
  | er e f p => rfl
  | ok a j =>
    rw [hr] at g
    exact lop_split ht i hz (fun t j z' h1 h2 h3 h4 => ⟨bin_wI hl hc h3 hd h4 h1, fun v m h => bin_end hl hc h3 hd h4 h1 v m h⟩) (l.length + 1) a j (by have := g.1; omega) g.2 (by omega)
theorem bin_top {i d z : Nat} (hi : i ≤ l.length) (hd : d ≤ 30) (hz : z ≤ i) : binI l 11 i d z = atoI l i d z := by
  rw [bin_unf hl hc hi hd hz (by omega)]
  cases hr : atoI l i d z with
  | er e f p => rfl
  | ok a j =>
    show lopV (binI l) l 11 (l.length + 1) a j d z = _
    rw [lopV, if_pos (show _ ∨ _ from Or.inr (by have := tightV_le (signAt l j); omega))]
theorem cho_unf {i d z : Nat} (hi : i ≤ l.length) (hd : d ≤ 30) (hz : z ≤ i) : choI l i d z = choV (choI l) (binI l) l i d z := by
  rw [← cho_st hl hc hi hd hz (m := mF l + 1) (by unfold mF; omega)]
  rfl
theorem ato_unf {i d z : Nat} (hi : i ≤ l.length) (hd : d ≤ 30) (hz : z ≤ i) : atoI l i d z = atoV (choI l) (atoI l) l i d z := by
  rw [← ato_st hl hc hi hd hz (m := mF l + 1) (by unfold mF; omega)]
  rfl
end
end Go.Proofs.YtghmojcecefgjaaDoor
