/- What the document makes of two numbers at a sign; numbers stay in their range. Plain. -/
import Derived.Test.YtghmojcecefgjaaDoorZtbp
set_option linter.unusedVariables false
set_option linter.unusedSimpArgs false
namespace Go.Proofs.YtghmojcecefgjaaDoor
open Go.RowKit
def inR (a : Int) : Prop := -9223372036854775808 ≤ a ∧ a ≤ 9223372036854775807
theorem w64 (a : Int) : wrap64 a = IntKind.i64.wrap a := by rw [IntKind.wrap_i64]; unfold wrap64; omega
theorem inR_w64 (a : Int) : inR (wrap64 a) := by unfold inR wrap64; omega
theorem inR_wrap (a : Int) : inR (IntKind.i64.wrap a) := by rw [← w64]; exact inR_w64 a
theorem inR_one (p : Bool) : inR (oneV p) := by cases p <;> exact ⟨by decide, by decide⟩
theorem w64_in {a : Int} (h : inR a) : wrap64 a = a := by unfold inR at h; unfold wrap64; omega
theorem w64_mul (u v : Int) : wrap64 (wrap64 u * v) = wrap64 (u * v) := by
  have h1 : wrap64 u = u + 18446744073709551616 * (-((u + 9223372036854775808) / 18446744073709551616)) := by unfold wrap64; omega
  rw [h1, Int.add_mul, Int.mul_assoc]
  generalize -((u + 9223372036854775808) / 18446744073709551616) * v = y
  generalize u * v = x
  unfold wrap64
  omega
def shl : Nat → Int → Int
  | 0, x => x
  | n + 1, x => shl n (IntKind.i64.wrap (2 * x))
def shr : Nat → Int → Int
  | 0, x => x
  | n + 1, x => shr n (Int.fdiv x (2 ^ (min 1 IntKind.i64.bits)))
theorem shl_eq : ∀ (n : Nat) (x : Int), inR x → shl n x = IntKind.i64.wrap (x * 2 ^ n)
  | 0, x, h => by rw [shl, ← w64, Int.pow_zero, Int.mul_one, w64_in h]
  | n + 1, x, h => by
    rw [shl, shl_eq n _ (inR_wrap _), ← w64, ← w64, ← w64, w64_mul, Int.pow_succ]
    congr 1
    rw [Int.mul_comm 2 x, Int.mul_assoc, Int.mul_comm 2]
theorem shr_eq : ∀ (n : Nat) (x : Int), shr n x = Int.fdiv x (2 ^ n)
  | 0, x => by rw [shr, Int.pow_zero, Int.fdiv_one]
  | n + 1, x => by
    have p1 : (0 : Int) ≤ 2 ^ n := Int.le_of_lt (Int.pow_pos (by decide))
    have p2 : (0 : Int) ≤ 2 ^ (n + 1) := Int.le_of_lt (Int.pow_pos (by decide))
    rw [shr, shr_eq n, show (2 : Int) ^ (min 1 IntKind.i64.bits) = 2 from rfl, Int.fdiv_eq_ediv_of_nonneg _ (by decide : (0 : Int) ≤ 2), Int.fdiv_eq_ediv_of_nonneg _ p1, Int.fdiv_eq_ediv_of_nonneg _ p2, Int.ediv_ediv_of_nonneg (by decide), Int.pow_succ, Int.mul_comm]
theorem inR_shr : ∀ (n : Nat) (x : Int), inR x → inR (shr n x)
  | 0, x, h => h
  | n + 1, x, h => by
    rw [shr]
    refine inR_shr n _ ?_
    rw [show (2 : Int) ^ (min 1 IntKind.i64.bits) = 2 from rfl, Int.fdiv_eq_ediv_of_nonneg _ (by decide : (0 : Int) ≤ 2)]
    unfold inR at h ⊢
    omega
theorem inR_tmod {a : Int} (b : Int) (h : inR a) : inR (Int.tmod a b) := by
  have h1 := Int.natAbs_tmod a b
  have h2 : a.natAbs % b.natAbs ≤ a.natAbs := Nat.mod_le _ _
  unfold inR at h ⊢
  have h3 : (Int.tmod a b).natAbs ≤ a.natAbs := by omega
  by_cases h0 : 0 ≤ a
  · have := Int.tmod_nonneg b h0
    omega
  · have := Int.tmod_nonneg b (show 0 ≤ -a by omega)
    rw [Int.neg_tmod] at this
    omega
theorem opV_in {s : List UInt8} {a b v : Int} (ha : inR a) (h : opV s a b = .inl v) : inR v := by
  unfold opV at h
  have hw : ∀ u, (Sum.inl (IntKind.i64.wrap u) : Int ⊕ Int) = .inl v → inR v := fun u q => by cases q; exact inR_wrap u
  have h1 : ∀ u, (Sum.inl (oneV u) : Int ⊕ Int) = .inl v → inR v := fun u q => by cases q; exact inR_one u
  by_cases h0 : s = [124]
  · rw [if_pos h0] at h; exact hw _ h
  rw [if_neg h0] at h
  by_cases h0 : s = [94]
  · rw [if_pos h0] at h; exact hw _ h
  rw [if_neg h0] at h
  by_cases h0 : s = [38]
  · rw [if_pos h0] at h; exact hw _ h
  rw [if_neg h0] at h
  by_cases h0 : s = [61, 61]
  · rw [if_pos h0] at h; exact h1 _ h
  rw [if_neg h0] at h
  by_cases h0 : s = [33, 61]
  · rw [if_pos h0] at h; exact h1 _ h
  rw [if_neg h0] at h
  by_cases h0 : s = [60]
  · rw [if_pos h0] at h; exact h1 _ h
  rw [if_neg h0] at h
  by_cases h0 : s = [62]
  · rw [if_pos h0] at h; exact h1 _ h
  rw [if_neg h0] at h
  by_cases h0 : s = [60, 61]
  · rw [if_pos h0] at h; exact h1 _ h
  rw [if_neg h0] at h
  by_cases h0 : s = [62, 61]
  · rw [if_pos h0] at h; exact h1 _ h
  rw [if_neg h0] at h
  by_cases h0 : s = [43]
  · rw [if_pos h0] at h; exact hw _ h
  rw [if_neg h0] at h
  by_cases h0 : s = [45]
  · rw [if_pos h0] at h; exact hw _ h
  rw [if_neg h0] at h
  by_cases h0 : s = [42]
  · rw [if_pos h0] at h; exact hw _ h
  rw [if_neg h0] at h
  by_cases h0 : s = [60, 60]
  · rw [if_pos h0] at h
    by_cases h1 : b < 0 ∨ 63 < b
    · rw [if_pos h1] at h; cases h
    · rw [if_neg h1] at h
      exact hw _ h
  rw [if_neg h0] at h
  by_cases h0 : s = [62, 62]
  · rw [if_pos h0] at h
    by_cases h1 : b < 0 ∨ 63 < b
    · rw [if_pos h1] at h; cases h
    · rw [if_neg h1] at h
      cases h
      rw [← shr_eq]; exact inR_shr _ _ ha
  rw [if_neg h0] at h
  by_cases h0 : b = 0
  · rw [if_pos h0] at h; cases h
  rw [if_neg h0] at h
  by_cases h0 : b = -1
  · rw [if_pos h0] at h
    by_cases h2 : s = [47]
    · rw [if_pos h2] at h; exact hw _ h
    · rw [if_neg h2] at h; cases h; exact ⟨by decide, by decide⟩
  rw [if_neg h0] at h
  by_cases h2 : s = [47]
  · rw [if_pos h2] at h; exact hw _ h
  · rw [if_neg h2] at h; cases h; exact inR_tmod _ ha
theorem combV_in {s : List UInt8} {a b v : Int} {z : Nat} (ha : inR a) (h : combV s a b z = .inl v) : inR v := by
  unfold combV at h
  split at h
  · cases h; exact inR_one _
  split at h
  · cases h; exact inR_one _
  cases ho : opV s a b with
  | inl w => rw [ho] at h; cases h; exact opV_in ha ho
  | inr e =>
    rw [ho] at h
    have h : (if z = 0 then Sum.inr e else Sum.inl 0 : Int ⊕ Int) = .inl v := h
    split at h
    · cases h
    · cases h; exact ⟨by decide, by decide⟩
theorem shift_loop (l : Bool) (b a4 a5 a6 : Int) (hb : 0 ≤ b ∧ b ≤ 63) : ∀ (n k : Nat) (x : Int), (k : Int) + n = b →
    loopO (preref4_C_Op_b4 b a4 a5 a6 (if l = true then [60, 60] else [62, 62])) (x, (k : Int)) = some (if l = true then shl n x else shr n x, a4, a5, a6)
  | 0, k, x, h => by
    rw [loopO_eq, preref4_C_Op_b4, li_f (show ¬ (k : Int) < b by omega), if_neg (by decide)]
    cases l <;> rfl
  | n + 1, k, x, h => by
    rw [loopO_eq, preref4_C_Op_b4, li_t (show (k : Int) < b by omega), if_pos rfl]
    cases l with
    | true =>
      rw [if_pos rfl, es_t rfl, if_pos rfl, preref4_C_Op_j5, w1 k (by omega)]
      exact shift_loop true b a4 a5 a6 hb n (k + 1) _ (by omega)
    | false =>
      rw [if_neg (show ¬ (false = true) by decide), es_f (show ¬ ([62, 62] : List UInt8) = [60, 60] by decide), if_neg (by decide), if_pos (by decide), preref4_C_Op_j5, w1 k (by omega)]
      exact shift_loop false b a4 a5 a6 hb n (k + 1) _ (by omega)
def opE (l : List Token) (i z : Nat) : Int ⊕ Int → Int × Int × Int × Int
  | .inl v => (v, 0, -1, 0)
  | .inr e => if z = 0 then (0, e, (faultAt l i).1, (faultAt l i).2) else (0, 0, -1, 0)
set_option maxRecDepth 4000 in
theorem rop_eq {l : List Token} (hl : l.length < 1099511627776) (a b : Int) (ha : inR a) (i d z : Nat) (s : List UInt8) (hi : i < l.length) (hx : (l.getD i default).Text = s)
    (hs : s ∈ [[124], [94], [38], [61, 61], [33, 61], [60], [62], [60, 61], [62, 61], [43], [45], [42], [60, 60], [62, 62], [47], [37]]) :
    preref4_C_Op (i : Int) a b l 0 (-1) 0 (d : Int) (z : Int) = some (opE l i z (opV s a b)) := by
  unfold preref4_C_Op
  rw [Int.toNat_natCast, if_pos (show (0 : Int) ≤ (i : Int) ∧ i < l.length by omega), hx]
  have hC : ∀ s : List UInt8, eqS s [60, 60] = false → eqS s [62, 62] = false → eqS s [47] = false → eqS s [37] = false → s.length ≤ 2 →
      (if (eqS s [60, 60]) = true then preref4_C_Op_j1 (i : Int) a b l 0 (-1) 0 (d : Int) (z : Int) (s, s, true) else preref4_C_Op_j1 (i : Int) a b l 0 (-1) 0 (d : Int) (z : Int) (s, s, eqS s [62, 62])) = some (valC a b s, 0, -1, 0) := by
    intro s h1 h2 h3 h4 h5
    rw [h1, if_neg (by decide), h2, preref4_C_Op_j1, if_neg (by decide), h3, if_neg (by decide), h4, preref4_C_Op_j6, if_neg (by decide), if_pos (by omega)]
  have hst : ∀ e : Int, preref4_C_Stop (i : Int) e l 0 (-1) 0 (d : Int) (z : Int) = some (e, (faultAt l i).1, (faultAt l i).2) := fun e => rstop0 e l (by omega) i _ _ _ _
  have hS : ∀ q : Bool, ∀ s : List UInt8, s = (if q = true then [60, 60] else [62, 62]) → preref4_C_Op_j1 (i : Int) a b l 0 (-1) 0 (d : Int) (z : Int) (s, s, true) =
      some (opE l i z (if b < 0 ∨ 63 < b then .inr 3 else .inl (if q = true then shl b.toNat a else shr b.toNat a))) := by
    intro q s hq
    rw [preref4_C_Op_j1, if_pos rfl]
    have h2 : ∀ p : Bool, (p = false → 0 ≤ b ∧ b ≤ 63) → preref4_C_Op_j2 (i : Int) a b l 0 (-1) 0 (d : Int) (z : Int) s p = some (opE l i z (if p = true then .inr 3 else .inl (if q = true then shl b.toNat a else shr b.toNat a))) := by
      intro p hp
      rw [preref4_C_Op_j2]
      cases p with
      | true =>
        rw [if_pos rfl, if_pos rfl]
        show _ = some (if z = 0 then _ else _)
        by_cases hz : z = 0
        · rw [ei_t (show (z : Int) = 0 by omega), if_pos rfl, if_pos hz, hst]; rfl
        · rw [ei_f (show ¬ (z : Int) = 0 by omega), if_neg (by decide), if_neg hz]; rfl
      | false =>
        have := hp rfl
        rw [if_neg (by decide), if_neg (by decide), hq]
        exact shift_loop q b 0 (-1) 0 this b.toNat 0 a (by omega)
    by_cases hb0 : b < 0
    · rw [li_t hb0, if_pos rfl, h2 true (by simp), if_pos rfl, if_pos (Or.inl hb0)]
    · rw [li_f hb0, if_neg (by decide)]
      by_cases h63 : 63 < b
      · rw [li_t h63, h2 true (by simp), if_pos rfl, if_pos (Or.inr h63)]
      · rw [li_f h63, h2 false (by intro; omega), if_neg (show ¬ (false = true) by decide), if_neg (show ¬ (b < 0 ∨ 63 < b) by omega)]
  have hD : ∀ s : List UInt8, s.length ≤ 2 → preref4_C_Op_j6 (i : Int) a b l 0 (-1) 0 (d : Int) (z : Int) s true = some (opE l i z (if b = 0 then .inr 13 else if b = -1 then .inl (valA a s) else .inl (valB a b s))) := by
    intro s hs
    rw [preref4_C_Op_j6, if_pos rfl]
    by_cases b0 : b = 0
    · rw [ei_t b0, if_pos rfl, if_pos b0]
      show _ = some (if z = 0 then _ else _)
      by_cases hz : z = 0
      · rw [ei_t (show (z : Int) = 0 by omega), if_pos rfl, if_pos hz, hst]; rfl
      · rw [ei_f (show ¬ (z : Int) = 0 by omega), if_neg (by decide), if_neg hz]; rfl
    rw [ei_f b0, if_neg (by decide), if_neg b0]
    by_cases b1 : b = -1
    · rw [ei_t b1, if_pos rfl, if_pos b1, if_pos (by omega)]; rfl
    · rw [ei_f b1, if_neg (by decide), if_neg b1, if_pos (by omega)]; rfl
  have hm : ∀ b : Int, ¬ (b < 0 ∨ 63 < b) → min b.toNat IntKind.i64.bits = b.toNat := fun b h => Nat.min_eq_left (show b.toNat ≤ 64 by omega)
  clear hx
  simp only [List.mem_cons, List.not_mem_nil, or_false] at hs
  rcases hs with rfl | rfl | rfl | rfl | rfl | rfl | rfl | rfl | rfl | rfl | rfl | rfl | rfl | rfl | rfl | rfl
  · rw [hC _ rfl rfl rfl rfl (by decide)]; rfl
  · rw [hC _ rfl rfl rfl rfl (by decide)]; rfl
  · rw [hC _ rfl rfl rfl rfl (by decide)]; rfl
  · rw [hC _ rfl rfl rfl rfl (by decide)]; rfl
  · rw [hC _ rfl rfl rfl rfl (by decide)]; rfl
  · rw [hC _ rfl rfl rfl rfl (by decide)]; rfl
  · rw [hC _ rfl rfl rfl rfl (by decide)]; rfl
  · rw [hC _ rfl rfl rfl rfl (by decide)]; rfl
  · rw [hC _ rfl rfl rfl rfl (by decide)]; rfl
  · rw [hC _ rfl rfl rfl rfl (by decide), show opV [43] a b = .inl (IntKind.i64.wrap (a + b)) from rfl, ← w64]; rfl
  · rw [hC _ rfl rfl rfl rfl (by decide), show opV [45] a b = .inl (IntKind.i64.wrap (a - b)) from rfl, ← w64]; rfl
  · rw [hC _ rfl rfl rfl rfl (by decide), show opV [42] a b = .inl (IntKind.i64.wrap (a * b)) from rfl, ← w64]; rfl
  · rw [es_t rfl, if_pos rfl, hS true [60, 60] rfl, show opV [60, 60] a b = (if b < 0 ∨ 63 < b then .inr 3 else .inl (IntKind.i64.wrap (a * 2 ^ (min b.toNat IntKind.i64.bits)))) from rfl]
    by_cases hb : b < 0 ∨ 63 < b
    · rw [if_pos hb, if_pos hb]
    · rw [if_neg hb, if_neg hb, if_pos rfl, hm b hb, shl_eq _ _ ha]
  · rw [es_f (by decide), if_neg (by decide), es_t rfl, hS false [62, 62] rfl, show opV [62, 62] a b = (if b < 0 ∨ 63 < b then .inr 3 else .inl (Int.fdiv a (2 ^ (min b.toNat IntKind.i64.bits)))) from rfl]
    by_cases hb : b < 0 ∨ 63 < b
    · rw [if_pos hb, if_pos hb]
    · rw [if_neg hb, if_neg hb, if_neg (by decide), hm b hb, shr_eq]
  · rw [es_f (by decide), if_neg (by decide), es_f (by decide), preref4_C_Op_j1, if_neg (by decide), es_t rfl, if_pos rfl, hD _ (by decide),
      show opV [47] a b = (if b = 0 then .inr 13 else if b = -1 then .inl (IntKind.i64.wrap (0 - a)) else .inl (IntKind.i64.wrap (Int.tdiv a b))) from rfl, ← w64, Int.zero_sub]
    rfl
  · rw [es_f (by decide), if_neg (by decide), es_f (by decide), preref4_C_Op_j1, if_neg (by decide), es_f (by decide), if_neg (by decide), es_t rfl, hD _ (by decide)]
    rfl
def Rg (r : Res) : Prop := ∀ v j, r = .ok v j → inR v
theorem Rg.then {r : Res} {f : Int → Nat → Res} (hr : Rg r) (hf : ∀ v j, inR v → Rg (f v j)) : Rg (r.then f) := by
  cases r with
  | er e f p => intro v j h; cases h
  | ok v j => exact hf v j (hr v j rfl)
theorem Rg.mk {v : Int} {j : Nat} (h : inR v) : Rg (.ok v j) := fun _ _ q => by cases q; exact h
theorem Rg.bad {e f p : Int} : Rg (.er e f p) := fun _ _ q => by cases q
theorem lop_rg {l : List Token} {bin : Nat → Nat → Nat → Nat → Res} (least : Nat) : ∀ (k : Nat) (a : Int) (i d z : Nat), inR a → Rg (lopV bin l least k a i d z)
  | 0, _, _, _, _, _ => Rg.bad
  | k + 1, a, i, d, z, ha => by
    rw [lopV]
    split
    · exact Rg.mk ha
    · cases bin (tightV (signAt l i) + 1) (i + 1) d (if skipV (signAt l i) a = true then z + 1 else z) with
      | er e f p => exact Rg.bad
      | ok b j =>
        show Rg (match combV (signAt l i) a b z with | .inl v => _ | .inr e => _)
        cases hc : combV (signAt l i) a b z with
        | inl v => exact lop_rg least k v j d z (combV_in ha hc)
        | inr e => exact Rg.bad
theorem parse_in {B : Nat} {u : List UInt8} {n : Int} (h : parseI B u = some n) : inR n := by
  have hp : ∀ q, posI q = some n → inR n := by
    intro q hq
    unfold posI at hq
    repeat' split at hq
    all_goals first | cases hq; done | skip
    all_goals (cases hq; unfold inR; omega)
  have hn : ∀ q, negI q = some n → inR n := by
    intro q hq
    unfold negI at hq
    repeat' split at hq
    all_goals first | cases hq; done | skip
    all_goals (cases hq; unfold inR; omega)
  unfold parseI at h
  repeat' split at h
  all_goals first | exact hp _ h | exact hn _ h | cases h
theorem num_in (t : List UInt8) : inR (numV t).1 := by
  have z : inR 0 := ⟨by decide, by decide⟩
  have hF : ∀ B u, inR (numF B u).1 := by
    intro B u
    unfold numF
    cases h : parseI B u with
    | none => exact z
    | some n =>
      dsimp only
      repeat' split
      · exact z
      · exact z
      · exact parse_in h
  unfold numV numT
  repeat' split
  all_goals exact hF _ _
theorem char_in (t : List UInt8) : inR (charF t).1 := by
  have z : inR 0 := ⟨by decide, by decide⟩
  have he : ∀ c : UInt8, inR (esc c).1 := by
    intro c
    unfold esc
    repeat' split
    all_goals exact ⟨by decide, by decide⟩
  unfold charF
  repeat' split
  all_goals first | exact z | exact he _ | skip
  all_goals (rename_i b _ _ _; have := b.toNat_lt; unfold inR; simp only []; omega)
theorem rg_all (l : List Token) : ∀ n : Nat, (∀ i d z, Rg ((pV l n).1 i d z)) ∧ (∀ t i d z, Rg ((pV l n).2.1 t i d z)) ∧ ∀ i d z, Rg ((pV l n).2.2 i d z)
  | 0 => ⟨fun _ _ _ => Rg.bad, fun _ _ _ _ => Rg.bad, fun _ _ _ => Rg.bad⟩
  | n + 1 => by
    obtain ⟨h1, h2, h3⟩ := rg_all l n
    refine ⟨fun i d z => ?_, fun t i d z => ?_, fun i d z => ?_⟩
    · show Rg (choV (pV l n).1 (pV l n).2.1 l i d z)
      unfold choV
      refine (h2 1 i d z).then fun a j ha => ?_
      split
      · refine (h1 _ _ _).then fun x k hx => ?_
        split
        · refine (h1 _ _ _).then fun y m hy => Rg.mk ?_
          split
          · exact hy
          · exact hx
        · exact Rg.bad
      · exact Rg.mk ha
    · show Rg (binV (pV l n).2.1 (pV l n).2.2 l t i d z)
      exact (h3 _ _ _).then fun a j ha => lop_rg _ _ _ _ _ _ ha
    · show Rg (atoV (pV l n).1 (pV l n).2.2 l i d z)
      unfold atoV
      repeat' split
      all_goals first | exact Rg.bad | skip
      · exact Rg.mk ⟨by decide, by decide⟩
      · exact Rg.mk (num_in _)
      · exact Rg.mk (char_in _)
      · refine (h1 _ _ _).then fun v j hv => ?_
        split
        · exact Rg.mk hv
        · exact Rg.bad
      · exact (h3 _ _ _).then fun v j hv => Rg.mk (inR_wrap _)
      · exact (h3 _ _ _).then fun v j hv => Rg.mk hv
      · exact (h3 _ _ _).then fun v j hv => Rg.mk (inR_wrap _)
      · exact (h3 _ _ _).then fun v j hv => Rg.mk (inR_one _)
end Go.Proofs.YtghmojcecefgjaaDoor
