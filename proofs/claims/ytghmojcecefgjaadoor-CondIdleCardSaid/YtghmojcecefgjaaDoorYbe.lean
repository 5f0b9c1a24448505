/- What tokens come to, step by step. Plain. -/
import Derived.Test.YtghmojcecefgjaaDoorYbd
set_option linter.unusedVariables false
set_option linter.unusedSimpArgs false
namespace Go.Proofs.YtghmojcecefgjaaDoor
open Go.RowKit
theorem num_at {cho ato : Nat → Nat → Nat → Res} {l : List Token} {i d z : Nat} {D : List UInt8} {v : Int} (h : (l.map kwT)[i]? = some (2, D)) (hv : numV D = (v, true)) (hd : d < 30) : atoV cho ato l i d z = .ok v (i + 1) := by
  obtain ⟨h1, h2, h3⟩ := kw_get l i 2 D h
  unfold atoV
  rw [if_neg (show ¬ d = 30 by omega), if_neg (show ¬ i = l.length by omega), h2, if_neg (by decide), if_pos rfl, h3, hv, if_pos rfl]
theorem lop_stop {bin : Nat → Nat → Nat → Nat → Res} {l : List Token} {t k : Nat} {a : Int} {i d z : Nat} (h : tightV (signAt l i) = 0 ∨ tightV (signAt l i) < t) : lopV bin l t (k + 1) a i d z = .ok a i := by
  rw [lopV, if_pos h]
theorem lop_step {bin : Nat → Nat → Nat → Nat → Res} {l : List Token} {t k : Nat} {a : Int} {i d z : Nat} (h : ¬ (tightV (signAt l i) = 0 ∨ tightV (signAt l i) < t)) {b : Int} {j : Nat}
    (hb : bin (tightV (signAt l i) + 1) (i + 1) d (if skipV (signAt l i) a = true then z + 1 else z) = .ok b j) :
    lopV bin l t (k + 1) a i d z = match combV (signAt l i) a b z with | .inl v => lopV bin l t k v j d z | .inr e => erAt l i e := by
  rw [lopV, if_neg h, hb]
  rfl
theorem lop_er {bin : Nat → Nat → Nat → Nat → Res} {l : List Token} {t k : Nat} {a : Int} {i d z : Nat} (h : ¬ (tightV (signAt l i) = 0 ∨ tightV (signAt l i) < t)) {e f g : Int}
    (hb : bin (tightV (signAt l i) + 1) (i + 1) d (if skipV (signAt l i) a = true then z + 1 else z) = .er e f g) : lopV bin l t (k + 1) a i d z = .er e f g := by
  rw [lopV, if_neg h, hb]
  rfl
theorem bin_at {l : List Token} {n t i d z : Nat} {v : Int} {j : Nat} (h : (pV l n).2.2 i d z = .ok v j) : (pV l (n + 1)).2.1 t i d z = lopV (pV l n).2.1 l t (l.length + 1) v j d z := by
  show binV _ _ l t i d z = _
  unfold binV
  rw [h]; rfl
theorem bin_er {l : List Token} {n t i d z : Nat} {e f g : Int} (h : (pV l n).2.2 i d z = .er e f g) : (pV l (n + 1)).2.1 t i d z = .er e f g := by
  show binV _ _ l t i d z = _
  unfold binV
  rw [h]; rfl
theorem bin_stop {l : List Token} {n t i d z : Nat} {v : Int} {j : Nat} (h : (pV l n).2.2 i d z = .ok v j) (hs : tightV (signAt l j) = 0 ∨ tightV (signAt l j) < t) : (pV l (n + 1)).2.1 t i d z = .ok v j := by
  rw [bin_at h, lop_stop hs]
theorem cho_stop {l : List Token} {n i d z : Nat} {v : Int} {j : Nat} (h : (pV l n).2.1 1 i d z = .ok v j) (hs : signAt l j ≠ [63]) : (pV l (n + 1)).1 i d z = .ok v j := by
  show choV _ _ l i d z = _
  unfold choV
  rw [h]
  exact if_neg hs
theorem cho_er {l : List Token} {n i d z : Nat} {e f g : Int} (h : (pV l n).2.1 1 i d z = .er e f g) : (pV l (n + 1)).1 i d z = .er e f g := by
  show choV _ _ l i d z = _
  unfold choV
  rw [h]; rfl
theorem par_at {l : List Token} {n i d z : Nat} {v : Int} {j : Nat} (h : (l.map kwT)[i]? = some (5, [40])) (hd : d < 30) (hc : (pV l n).1 (i + 1) (d + 1) z = .ok v j) (hs : signAt l j = [41]) : (pV l (n + 1)).2.2 i d z = .ok v (j + 1) := by
  show atoV _ _ l i d z = _
  rw [ato_at [40] h hd, if_pos rfl, hc]
  exact if_pos hs
theorem par_er {l : List Token} {n i d z : Nat} {e f g : Int} (h : (l.map kwT)[i]? = some (5, [40])) (hd : d < 30) (hc : (pV l n).1 (i + 1) (d + 1) z = .er e f g) : (pV l (n + 1)).2.2 i d z = .er e f g := by
  show atoV _ _ l i d z = _
  rw [ato_at [40] h hd, if_pos rfl, hc]
  rfl
theorem not_val (v : Int) (h0 : 0 ≤ v) (h1 : v < 9223372036854775808) : IntKind.i64.wrap ((BitVec.ofInt IntKind.i64.bits (-1)) ^^^ (BitVec.ofInt IntKind.i64.bits v)).toNat = -1 - v := by
  obtain ⟨n, rfl⟩ : ∃ n : Nat, v = n := ⟨v.toNat, by omega⟩
  show IntKind.i64.wrap ((BitVec.ofInt 64 (-1)) ^^^ (BitVec.ofInt 64 (n : Int))).toNat = _
  have e1 : (BitVec.ofInt 64 (-1)) = BitVec.allOnes 64 := by decide
  have e2 : BitVec.ofInt 64 (n : Int) = BitVec.ofNat 64 n := BitVec.ofInt_natCast 64 n
  have e3 : ((BitVec.ofInt 64 (-1)) ^^^ (BitVec.ofInt 64 (n : Int))).toNat = 2 ^ 64 - 1 - n := by
    rw [e1, e2, BitVec.allOnes_xor, BitVec.toNat_not, BitVec.toNat_ofNat, Nat.mod_eq_of_lt (by omega)]
  rw [e3, IntKind.wrap_i64]
  omega
theorem lit_at {l : List Token} {i d z : Nat} (a : Int) (h0 : -9223372036854775808 ≤ a) (h1 : a ≤ 9223372036854775807) (hK : ∀ k, k < (litK a).length → (l.map kwT)[i + k]? = (litK a)[k]?) (hd : d < 28) (m : Nat) :
    (pV l (m + 5)).2.2 i d z = .ok a (i + (litK a).length) := by
  unfold litK at hK ⊢
  by_cases h : a < 0
  · rw [if_pos h] at hK ⊢
    have k0 := hK 0 (by simp)
    have k1 := hK 1 (by simp)
    have k2 := hK 2 (by simp)
    have k3 := hK 3 (by simp)
    have s3 := (sign_of l (i + 3) [41] (by simpa using k3)).1
    have n1 : (pV l (m + 1)).2.2 (i + 2) (d + 2) z = .ok ((-1 - a).toNat : Int) (i + 3) := num_at (by simpa using k2) (num_dec _ (by omega)) (by omega)
    have n2 : (pV l (m + 2)).2.2 (i + 1) (d + 1) z = .ok a (i + 3) := by
      show atoV _ _ l (i + 1) (d + 1) z = _
      rw [ato_at [126] (by simpa using k1) (by omega), if_neg (by decide), if_neg (by decide), if_neg (by decide), if_pos rfl, n1]
      show Res.ok _ _ = _
      rw [not_val _ (by omega) (by omega)]
      congr 1; omega
    have n3 := bin_stop (t := 1) n2 (by rw [s3]; exact Or.inl rfl)
    have n4 := cho_stop n3 (by rw [s3]; decide)
    exact par_at (by simpa using k0) (by omega) n4 s3
  · rw [if_neg h] at hK ⊢
    have k0 := hK 0 (by simp)
    have k1 := hK 1 (by simp)
    have k2 := hK 2 (by simp)
    have s2 := (sign_of l (i + 2) [41] (by simpa using k2)).1
    have n2 : (pV l (m + 2)).2.2 (i + 1) (d + 1) z = .ok a (i + 2) := by
      have := num_at (cho := (pV l (m + 1)).1) (ato := (pV l (m + 1)).2.2) (z := z) (d := d + 1) (by simpa using k1) (num_dec a.toNat (by omega)) (by omega)
      rw [show ((a.toNat : Nat) : Int) = a by omega] at this
      exact this
    have n3 := bin_stop (t := 1) n2 (by rw [s2]; exact Or.inl rfl)
    have n4 := cho_stop n3 (by rw [s2]; decide)
    exact par_at (by simpa using k0) (by omega) n4 s2
theorem n1V : numV [49] = (1, true) := by decide +kernel
theorem n0V : numV [48] = (0, true) := by decide +kernel
theorem div_at {l : List Token} {p d : Nat} (s : List UInt8) (hs : s = [47] ∨ s = [37]) (k0 : (l.map kwT)[p]? = some (5, [40])) (k1 : (l.map kwT)[p + 1]? = some (2, [49])) (k2 : (l.map kwT)[p + 2]? = some (5, s))
    (k3 : (l.map kwT)[p + 3]? = some (2, [48])) (k4 : (l.map kwT)[p + 4]? = some (5, [41])) (hd : d < 28) (m : Nat) :
    (∃ f g, (pV l (m + 5)).2.2 p d 0 = .er 13 f g) ∧ ∀ z, (pV l (m + 5)).2.2 p d (z + 1) = .ok 0 (p + 5) := by
  obtain ⟨s2, hl2, _⟩ := sign_of l (p + 2) s k2
  obtain ⟨s4, hl4, _⟩ := sign_of l (p + 4) [41] k4
  obtain ⟨q, hq⟩ : ∃ q, l.length + 1 = q + 1 + 1 := ⟨l.length - 1, by omega⟩
  have ht : tightV s = 10 := by rcases hs with rfl | rfl <;> rfl
  have hk : ∀ a, skipV s a = false := by rcases hs with rfl | rfl <;> exact fun _ => rfl
  have hc : ∀ z, combV s 1 0 z = if z = 0 then .inr 13 else .inl 0 := by rcases hs with rfl | rfl <;> exact fun _ => rfl
  have a1 : ∀ z, (pV l (m + 2)).2.2 (p + 1) (d + 1) z = .ok 1 (p + 2) := fun z => num_at k1 n1V (by omega)
  have a2 : ∀ z, (pV l (m + 1)).2.2 (p + 3) (d + 1) z = .ok 0 (p + 4) := fun z => num_at k3 n0V (by omega)
  have b2 : ∀ z, (pV l (m + 2)).2.1 11 (p + 3) (d + 1) z = .ok 0 (p + 4) := fun z => bin_stop (a2 z) (by rw [s4]; exact Or.inl rfl)
  have hb : ∀ z, (pV l (m + 3)).2.1 1 (p + 1) (d + 1) z = match combV s 1 0 z with | .inl v => lopV (pV l (m + 2)).2.1 l 1 (q + 1) v (p + 4) (d + 1) z | .inr e => erAt l (p + 2) e := by
    intro z
    rw [bin_at (a1 z), hq, lop_step (b := 0) (j := p + 4) (by rw [s2, ht]; omega) (by rw [s2, ht, hk]; exact b2 z), s2]
  constructor
  · have h0 := hb 0
    rw [hc, if_pos rfl] at h0
    have h0 : (pV l (m + 3)).2.1 1 (p + 1) (d + 1) 0 = .er 13 _ _ := h0
    exact ⟨_, _, par_er k0 (by omega) (cho_er h0)⟩
  · intro z
    have h1 := hb (z + 1)
    rw [hc, if_neg (by omega)] at h1
    have h1 : (pV l (m + 3)).2.1 1 (p + 1) (d + 1) (z + 1) = lopV (pV l (m + 2)).2.1 l 1 (q + 1) 0 (p + 4) (d + 1) (z + 1) := h1
    rw [lop_stop (by rw [s4]; exact Or.inl rfl)] at h1
    exact par_at k0 (by omega) (cho_stop h1 (by rw [s4]; decide)) s4
theorem get_app {A R : List (Int × List UInt8)} (k : Nat) : (A ++ R)[A.length + k]? = R[k]? := by
  rw [List.getElem?_append_right (by omega), Nat.add_sub_cancel_left]
theorem get_in {A R : List (Int × List UInt8)} (k : Nat) (h : k < A.length) : (A ++ R)[k]? = A[k]? := List.getElem?_append_left h
theorem s1_eval {l : List Token} (hl : l.length < 100000) (hc : clean l) (a b : Int) (ha : -9223372036854775808 ≤ a ∧ a ≤ 9223372036854775807) (hb : -9223372036854775808 ≤ b ∧ b ≤ 9223372036854775807)
    (hK : l.map kwT = litK a ++ (5, [63]) :: (litK b ++ [(5, [58]), (5, [40]), (2, [49]), (5, [47]), (2, [48]), (5, [41])])) :
    (a = 0 → (evalV l).2.1 = 13) ∧ (a ≠ 0 → (evalV l).1 = b ∧ (evalV l).2.1 = 0) := by
  have hlen : l.length = (litK a).length + 1 + (litK b).length + 6 := by
    have := congrArg List.length hK
    simp only [List.length_map, List.length_append, List.length_cons, List.length_nil] at this
    omega
  have kA : ∀ k, k < (litK a).length → (l.map kwT)[0 + k]? = (litK a)[k]? := fun k hk => by rw [Nat.zero_add, hK, get_in k hk]
  have kq : (l.map kwT)[(litK a).length]? = some (5, [63]) := by rw [hK]; exact get_app 0
  have kB : ∀ k, k < (litK b).length → (l.map kwT)[(litK a).length + 1 + k]? = (litK b)[k]? := fun k hk => by
    rw [hK, Nat.add_assoc, get_app, Nat.add_comm 1 k, List.getElem?_cons_succ, get_in k hk]
  have kT : ∀ k, (l.map kwT)[(litK a).length + 1 + (litK b).length + k]? = [((5 : Int), ([58] : List UInt8)), (5, [40]), (2, [49]), (5, [47]), (2, [48]), (5, [41])][k]? := fun k => by
    rw [hK, show (litK a).length + 1 + (litK b).length + k = (litK a).length + ((litK b).length + k + 1) by omega, get_app, List.getElem?_cons_succ, get_app]
  obtain ⟨sq, _, _⟩ := sign_of l _ [63] kq
  obtain ⟨sc, _, _⟩ := sign_of l _ [58] (kT 0)
  rw [Nat.add_zero] at sc
  let M := 3 * l.length
  have hA : ∀ m, (pV l (m + 6)).2.1 1 0 0 0 = .ok a (litK a).length := fun m => by
    have := lit_at (z := 0) (d := 0) a ha.1 ha.2 kA (by omega) m
    rw [Nat.zero_add] at this
    exact bin_stop this (by rw [sq]; exact Or.inl rfl)
  have hB : ∀ m z, (pV l (m + 7)).1 ((litK a).length + 1) 0 z = .ok b ((litK a).length + 1 + (litK b).length) := fun m z =>
    cho_stop (bin_stop (lit_at (z := z) (d := 0) b hb.1 hb.2 kB (by omega) m) (by rw [sc]; exact Or.inl rfl)) (by rw [sc]; decide)
  have hD := fun m => div_at (d := 0) [47] (Or.inl rfl) (kT 1) (kT 2) (kT 3) (kT 4) (kT 5) (by omega) m
  have hend : signAt l ((litK a).length + 1 + (litK b).length + 1 + 5) = [] := sign_out l _ (by omega)
  rw [evalV_of (by omega) hc (M + 20) (by omega)]
  have htop : (pV l (M + 20)).1 0 0 0 = ((pV l (M + 19)).1 ((litK a).length + 1 + (litK b).length + 1) 0 (if a = 0 then 0 else 1)).then fun y m => .ok (if a = 0 then y else b) m := by
    show choV _ _ l 0 0 0 = _
    unfold choV
    rw [hA (M + 13)]
    show (if signAt l (litK a).length = [63] then _ else _) = _
    rw [if_pos sq, hB (M + 12)]
    show (if signAt l _ = [58] then _ else _) = _
    rw [if_pos sc]
  constructor
  · rintro rfl
    obtain ⟨f, g, h⟩ := (hD (M + 12)).1
    rw [htop, if_pos rfl, cho_er (bin_er h)]
    rfl
  · intro h0
    have h := (hD (M + 12)).2 0
    rw [htop, if_neg h0, cho_stop (bin_stop h (by rw [hend]; exact Or.inl rfl)) (by rw [hend]; decide)]
    rw [show ((Res.ok 0 ((litK a).length + 1 + (litK b).length + 1 + 5)).then fun y m => Res.ok (if a = 0 then y else b) m) = .ok b ((litK a).length + 1 + (litK b).length + 1 + 5) from by
      show Res.ok (if a = 0 then 0 else b) _ = _
      rw [if_neg h0]]
    have : ¬ (litK a).length + 1 + (litK b).length + 1 + 5 < l.length := by omega
    have e : finE l (.ok b ((litK a).length + 1 + (litK b).length + 1 + 5)) = (b, 0, -1, 0) := if_neg this
    rw [e]
    exact ⟨rfl, rfl⟩
theorem s3_eval {l : List Token} (hl : l.length < 100000) (hc : clean l) (a : Int) (ha : -9223372036854775808 ≤ a ∧ a ≤ 9223372036854775807)
    (hK : l.map kwT = litK a ++ [(5, [124, 124]), (5, [40]), (2, [49]), (5, [47]), (2, [48]), (5, [41])]) :
    (a = 0 → (evalV l).2.1 = 13) ∧ (a ≠ 0 → (evalV l).1 = 1 ∧ (evalV l).2.1 = 0) := by
  have hlen : l.length = (litK a).length + 6 := by
    have := congrArg List.length hK
    simp only [List.length_map, List.length_append, List.length_cons, List.length_nil] at this
    omega
  have kA : ∀ k, k < (litK a).length → (l.map kwT)[0 + k]? = (litK a)[k]? := fun k hk => by rw [Nat.zero_add, hK, get_in k hk]
  have kT : ∀ k, (l.map kwT)[(litK a).length + k]? = [((5 : Int), ([124, 124] : List UInt8)), (5, [40]), (2, [49]), (5, [47]), (2, [48]), (5, [41])][k]? := fun k => by rw [hK, get_app]
  obtain ⟨so, _, _⟩ := sign_of l _ [124, 124] (kT 0)
  rw [Nat.add_zero] at so
  let M := 3 * l.length
  have hD := fun m => div_at (d := 0) [47] (Or.inl rfl) (kT 1) (kT 2) (kT 3) (kT 4) (kT 5) (by omega) m
  have hend : signAt l ((litK a).length + 1 + 5) = [] := sign_out l _ (by omega)
  have hb : (pV l (M + 19)).2.1 1 0 0 0 = lopV (pV l (M + 18)).2.1 l 1 (l.length + 1) a (litK a).length 0 0 := by
    have := lit_at (z := 0) (d := 0) a ha.1 ha.2 kA (by omega) (M + 13)
    rw [Nat.zero_add] at this
    exact bin_at this
  obtain ⟨q, hq⟩ : ∃ q, l.length + 1 = q + 1 + 1 := ⟨l.length - 1, by omega⟩
  rw [evalV_of (by omega) hc (M + 20) (by omega)]
  have ht : ¬ (tightV (signAt l (litK a).length) = 0 ∨ tightV (signAt l (litK a).length) < 1) := by rw [so]; decide
  constructor
  · rintro rfl
    obtain ⟨f, g, h⟩ := (hD (M + 12)).1
    rw [hq, lop_er (e := 13) (f := f) (g := g) ht (by rw [so]; exact bin_er h)] at hb
    rw [cho_er hb]
    rfl
  · intro h0
    have h := (hD (M + 12)).2 0
    have hsk : skipV [124, 124] a = true := by
      unfold skipV
      rw [decide_eq_false h0]; rfl
    rw [hq, lop_step (b := 0) (j := (litK a).length + 1 + 5) ht (by rw [so, hsk]; exact bin_stop h (by rw [hend]; exact Or.inl rfl)), so] at hb
    have hcv : combV [124, 124] a 0 0 = .inl 1 := by
      unfold combV
      rw [if_neg (by decide), if_pos rfl, decide_eq_false h0]; rfl
    rw [hcv] at hb
    have hb : (pV l (M + 19)).2.1 1 0 0 0 = lopV (pV l (M + 18)).2.1 l 1 (q + 1) 1 ((litK a).length + 1 + 5) 0 0 := hb
    rw [lop_stop (by rw [hend]; exact Or.inl rfl)] at hb
    rw [cho_stop hb (by rw [hend]; decide)]
    have : ¬ (litK a).length + 1 + 5 < l.length := by omega
    have e : finE l (.ok 1 ((litK a).length + 1 + 5)) = (1, 0, -1, 0) := if_neg this
    rw [e]
    exact ⟨rfl, rfl⟩
theorem s2_eval {l : List Token} (hl : l.length < 100000) (hc : clean l) (a : Int) (ha : -9223372036854775808 ≤ a ∧ a ≤ 9223372036854775807)
    (hK : l.map kwT = litK a ++ [(5, [38, 38]), (5, [40]), (2, [49]), (5, [37]), (2, [48]), (5, [41]), (5, [124, 124]), (2, [49])]) :
    (a ≠ 0 → (evalV l).2.1 = 13) ∧ (a = 0 → (evalV l).1 = 1 ∧ (evalV l).2.1 = 0) := by
  have hlen : l.length = (litK a).length + 8 := by
    have := congrArg List.length hK
    simp only [List.length_map, List.length_append, List.length_cons, List.length_nil] at this
    omega
  have kA : ∀ k, k < (litK a).length → (l.map kwT)[0 + k]? = (litK a)[k]? := fun k hk => by rw [Nat.zero_add, hK, get_in k hk]
  have kT : ∀ k, (l.map kwT)[(litK a).length + k]? = [((5 : Int), ([38, 38] : List UInt8)), (5, [40]), (2, [49]), (5, [37]), (2, [48]), (5, [41]), (5, [124, 124]), (2, [49])][k]? := fun k => by rw [hK, get_app]
  obtain ⟨so, _, _⟩ := sign_of l _ [38, 38] (kT 0)
  rw [Nat.add_zero] at so
  obtain ⟨s6, _, _⟩ := sign_of l _ [124, 124] (kT 6)
  let M := 3 * l.length
  have hD := fun m => div_at (d := 0) [37] (Or.inr rfl) (kT 1) (kT 2) (kT 3) (kT 4) (kT 5) (by omega) m
  have hend : signAt l ((litK a).length + 8) = [] := sign_out l _ (by omega)
  have hb : (pV l (M + 19)).2.1 1 0 0 0 = lopV (pV l (M + 18)).2.1 l 1 (l.length + 1) a (litK a).length 0 0 := by
    have := lit_at (z := 0) (d := 0) a ha.1 ha.2 kA (by omega) (M + 13)
    rw [Nat.zero_add] at this
    exact bin_at this
  obtain ⟨q, hq⟩ : ∃ q, l.length + 1 = q + 1 + 1 + 1 := ⟨l.length - 2, by omega⟩
  rw [evalV_of (by omega) hc (M + 20) (by omega)]
  have ht : ¬ (tightV (signAt l (litK a).length) = 0 ∨ tightV (signAt l (litK a).length) < 1) := by rw [so]; decide
  constructor
  · intro h0
    obtain ⟨f, g, h⟩ := (hD (M + 12)).1
    have hsk : skipV [38, 38] a = false := by
      unfold skipV
      rw [decide_eq_false h0]; rfl
    rw [hq, lop_er (e := 13) (f := f) (g := g) ht (by rw [so, hsk]; exact bin_er h)] at hb
    rw [cho_er hb]
    rfl
  · rintro rfl
    have h := (hD (M + 12)).2 0
    rw [hq, lop_step (b := 0) (j := (litK 0).length + 6) ht (by rw [so]; exact bin_stop h (by rw [show (litK 0).length + 1 + 5 = (litK 0).length + 6 from rfl, s6]; exact Or.inr (by decide))), so] at hb
    have hb : (pV l (M + 19)).2.1 1 0 0 0 = lopV (pV l (M + 18)).2.1 l 1 (q + 1 + 1) 0 ((litK 0).length + 6) 0 0 := hb
    have n1 : (pV l (M + 17)).2.2 ((litK 0).length + 7) 0 0 = .ok 1 ((litK 0).length + 8) := by
      show atoV (pV l (M + 16)).1 (pV l (M + 16)).2.2 l ((litK 0).length + 7) 0 0 = _
      exact num_at (kT 7) n1V (by omega)
    rw [lop_step (b := 1) (j := (litK 0).length + 8) (by rw [s6]; decide) (by rw [s6]; exact bin_stop n1 (by rw [hend]; exact Or.inl rfl)), s6] at hb
    have hb : (pV l (M + 19)).2.1 1 0 0 0 = lopV (pV l (M + 18)).2.1 l 1 (q + 1) 1 ((litK 0).length + 8) 0 0 := hb
    rw [lop_stop (by rw [hend]; exact Or.inl rfl)] at hb
    rw [cho_stop hb (by rw [hend]; decide)]
    have : ¬ (litK 0).length + 8 < l.length := by omega
    have e : finE l (.ok 1 ((litK 0).length + 8)) = (1, 0, -1, 0) := if_neg this
    rw [e]
    exact ⟨rfl, rfl⟩
end Go.Proofs.YtghmojcecefgjaaDoor
