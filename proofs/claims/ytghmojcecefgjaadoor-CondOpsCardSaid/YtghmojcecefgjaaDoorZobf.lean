/- What tokens come to, step by step. Plain. -/
import Derived.Test.YtghmojcecefgjaaDoorZobe
set_option linter.unusedVariables false
set_option linter.unusedSimpArgs false
namespace Go.Proofs.YtghmojcecefgjaaDoor
open Go.RowKit
theorem num_at {cho ato : Nat → Nat → Nat → Res} {l : List Token} {i d z : Nat} {D : List UInt8} {v : Int} (h : (l.map kwT)[i]? = some (2, D)) (hv : numV D = (v, true)) (hd : d < 30) : atoV cho ato l i d z = .ok v (i + 1) := by
  obtain ⟨h1, h2, h3⟩ := kw_get l i 2 D h
  unfold atoV
  rw [if_neg (show ¬ d = 30 by omega), if_neg (show ¬ i = l.length by omega), h2, if_neg (by decide), if_pos rfl, h3, hv, if_pos rfl]
theorem lop_stop {bin : Nat → Nat → Nat → Nat → Res} {l : List Token} {t k : Nat} {a : Int} {i d z : Nat} (h : tightV (signAt l i) = 0 ∨ tightV (signAt l i) < t) : lopV bin l t (k + 1) a i d z = .ok a i := by
  rw [lopV, if_pos h]
theorem lop_step {bin : Nat → Nat → Nat → Nat → Res} {l : List Token} {t k : Nat} {a : Int} {i d z : Nat} (h : ¬ (tightV (signAt l i) = 0 ∨ tightV (signAt l i) < t)) {b : Int} {j : Nat}
    (hb : bin (tightV (signAt l i) + 1) (i + 1) d (if skipV (signAt l i) a = true then z + 1 else z) = .ok b j) :
    lopV bin l t (k + 1) a i d z = match combV (signAt l i) a b z with | .inl v => lopV bin l t k v j d z | .inr e => erAt l i e := by
  rw [lopV, if_neg h, hb]
  rfl
theorem bin_at {l : List Token} {n t i d z : Nat} {v : Int} {j : Nat} (h : (pV l n).2.2 i d z = .ok v j) : (pV l (n + 1)).2.1 t i d z = lopV (pV l n).2.1 l t (l.length + 1) v j d z := by
  show binV _ _ l t i d z = _
  unfold binV
  rw [h]; rfl
theorem bin_stop {l : List Token} {n t i d z : Nat} {v : Int} {j : Nat} (h : (pV l n).2.2 i d z = .ok v j) (hs : tightV (signAt l j) = 0 ∨ tightV (signAt l j) < t) : (pV l (n + 1)).2.1 t i d z = .ok v j := by
  rw [bin_at h, lop_stop hs]
theorem cho_stop {l : List Token} {n i d z : Nat} {v : Int} {j : Nat} (h : (pV l n).2.1 1 i d z = .ok v j) (hs : signAt l j ≠ [63]) : (pV l (n + 1)).1 i d z = .ok v j := by
  show choV _ _ l i d z = _
  unfold choV
  rw [h]
  exact if_neg hs
theorem cho_er {l : List Token} {n i d z : Nat} {e f g : Int} (h : (pV l n).2.1 1 i d z = .er e f g) : (pV l (n + 1)).1 i d z = .er e f g := by
  show choV _ _ l i d z = _
  unfold choV
  rw [h]; rfl
theorem par_at {l : List Token} {n i d z : Nat} {v : Int} {j : Nat} (h : (l.map kwT)[i]? = some (5, [40])) (hd : d < 30) (hc : (pV l n).1 (i + 1) (d + 1) z = .ok v j) (hs : signAt l j = [41]) : (pV l (n + 1)).2.2 i d z = .ok v (j + 1) := by
  show atoV _ _ l i d z = _
  rw [ato_at [40] h hd, if_pos rfl, hc]
  exact if_pos hs
theorem not_val (v : Int) (h0 : 0 ≤ v) (h1 : v < 9223372036854775808) : IntKind.i64.wrap ((BitVec.ofInt IntKind.i64.bits (-1)) ^^^ (BitVec.ofInt IntKind.i64.bits v)).toNat = -1 - v := by
  obtain ⟨n, rfl⟩ : ∃ n : Nat, v = n := ⟨v.toNat, by omega⟩
  show IntKind.i64.wrap ((BitVec.ofInt 64 (-1)) ^^^ (BitVec.ofInt 64 (n : Int))).toNat = _
  have e1 : (BitVec.ofInt 64 (-1)) = BitVec.allOnes 64 := by decide
  have e2 : BitVec.ofInt 64 (n : Int) = BitVec.ofNat 64 n := BitVec.ofInt_natCast 64 n
  have e3 : ((BitVec.ofInt 64 (-1)) ^^^ (BitVec.ofInt 64 (n : Int))).toNat = 2 ^ 64 - 1 - n := by
    rw [e1, e2, BitVec.allOnes_xor, BitVec.toNat_not, BitVec.toNat_ofNat, Nat.mod_eq_of_lt (by omega)]
  rw [e3, IntKind.wrap_i64]
  omega
theorem lit_at {l : List Token} {i d z : Nat} (a : Int) (h0 : -9223372036854775808 ≤ a) (h1 : a ≤ 9223372036854775807) (hK : ∀ k, k < (litK a).length → (l.map kwT)[i + k]? = (litK a)[k]?) (hd : d < 28) (m : Nat) :
    (pV l (m + 5)).2.2 i d z = .ok a (i + (litK a).length) := by
  unfold litK at hK ⊢
  by_cases h : a < 0
  · rw [if_pos h] at hK ⊢
    have k0 := hK 0 (by simp)
    have k1 := hK 1 (by simp)
    have k2 := hK 2 (by simp)
    have k3 := hK 3 (by simp)
    have s3 := (sign_of l (i + 3) [41] (by simpa using k3)).1
    have n1 : (pV l (m + 1)).2.2 (i + 2) (d + 2) z = .ok ((-1 - a).toNat : Int) (i + 3) := num_at (by simpa using k2) (num_dec _ (by omega)) (by omega)
    have n2 : (pV l (m + 2)).2.2 (i + 1) (d + 1) z = .ok a (i + 3) := by
      show atoV _ _ l (i + 1) (d + 1) z = _
      rw [ato_at [126] (by simpa using k1) (by omega), if_neg (by decide), if_neg (by decide), if_neg (by decide), if_pos rfl, n1]
      show Res.ok _ _ = _
      rw [not_val _ (by omega) (by omega)]
      congr 1; omega
    have n3 := bin_stop (t := 1) n2 (by rw [s3]; exact Or.inl rfl)
    have n4 := cho_stop n3 (by rw [s3]; decide)
    exact par_at (by simpa using k0) (by omega) n4 s3
  · rw [if_neg h] at hK ⊢
    have k0 := hK 0 (by simp)
    have k1 := hK 1 (by simp)
    have k2 := hK 2 (by simp)
    have s2 := (sign_of l (i + 2) [41] (by simpa using k2)).1
    have n2 : (pV l (m + 2)).2.2 (i + 1) (d + 1) z = .ok a (i + 2) := by
      have := num_at (cho := (pV l (m + 1)).1) (ato := (pV l (m + 1)).2.2) (z := z) (d := d + 1) (by simpa using k1) (num_dec a.toNat (by omega)) (by omega)
      rw [show ((a.toNat : Nat) : Int) = a by omega] at this
      exact this
    have n3 := bin_stop (t := 1) n2 (by rw [s2]; exact Or.inl rfl)
    have n4 := cho_stop n3 (by rw [s2]; decide)
    exact par_at (by simpa using k0) (by omega) n4 s2
theorem get_app {A R : List (Int × List UInt8)} (k : Nat) : (A ++ R)[A.length + k]? = R[k]? := by
  rw [List.getElem?_append_right (by omega), Nat.add_sub_cancel_left]
theorem get_in {A R : List (Int × List UInt8)} (k : Nat) (h : k < A.length) : (A ++ R)[k]? = A[k]? := List.getElem?_append_left h
end Go.Proofs.YtghmojcecefgjaaDoor
