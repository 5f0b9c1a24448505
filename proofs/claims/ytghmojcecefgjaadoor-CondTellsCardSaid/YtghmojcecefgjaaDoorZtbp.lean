/- The document's levels are the program's tightness. Plain. -/
import Derived.Test.YtghmojcecefgjaaDoorZtba
import Derived.Test.YtghmojcecefgjaaDoorZtbd
import Derived.Test.YtghmojcecefgjaaDoorZtbo
set_option linter.unusedVariables false
set_option linter.unusedSimpArgs false
namespace Go.Proofs.YtghmojcecefgjaaDoor
open Go.RowKit
def lvL : List (List (List UInt8)) := [[[124, 124]], [[38, 38]], [[124]], [[94]], [[38]], [[61, 61], [33, 61]], [[60], [62], [60, 61], [62, 61]], [[60, 60], [62, 62]], [[43], [45]], [[42], [47], [37]]]
theorem lv_any (s : List UInt8) : (∀ n < 10, (lvL.getD n []).any (fun x => decide (s = x)) = decide (tightV s = n + 1)) ∧
    (tightV s ≠ 0 → s ≠ [38, 38] → s ≠ [124, 124] → s ∈ [[124], [94], [38], [61, 61], [33, 61], [60], [62], [60, 61], [62, 61], [43], [45], [42], [60, 60], [62, 62], [47], [37]]) := by
  by_cases h0 : s = [124, 124]
  · subst h0; exact ⟨by decide, by decide⟩
  by_cases h1 : s = [38, 38]
  · subst h1; exact ⟨by decide, by decide⟩
  by_cases h2 : s = [124]
  · subst h2; exact ⟨by decide, by decide⟩
  by_cases h3 : s = [94]
  · subst h3; exact ⟨by decide, by decide⟩
  by_cases h4 : s = [38]
  · subst h4; exact ⟨by decide, by decide⟩
  by_cases h5 : s = [61, 61]
  · subst h5; exact ⟨by decide, by decide⟩
  by_cases h6 : s = [33, 61]
  · subst h6; exact ⟨by decide, by decide⟩
  by_cases h7 : s = [60]
  · subst h7; exact ⟨by decide, by decide⟩
  by_cases h8 : s = [62]
  · subst h8; exact ⟨by decide, by decide⟩
  by_cases h9 : s = [60, 61]
  · subst h9; exact ⟨by decide, by decide⟩
  by_cases h10 : s = [62, 61]
  · subst h10; exact ⟨by decide, by decide⟩
  by_cases h11 : s = [60, 60]
  · subst h11; exact ⟨by decide, by decide⟩
  by_cases h12 : s = [62, 62]
  · subst h12; exact ⟨by decide, by decide⟩
  by_cases h13 : s = [43]
  · subst h13; exact ⟨by decide, by decide⟩
  by_cases h14 : s = [45]
  · subst h14; exact ⟨by decide, by decide⟩
  by_cases h15 : s = [42]
  · subst h15; exact ⟨by decide, by decide⟩
  by_cases h16 : s = [47]
  · subst h16; exact ⟨by decide, by decide⟩
  by_cases h17 : s = [37]
  · subst h17; exact ⟨by decide, by decide⟩
  have h0' : tightV s = 0 := by
    unfold tightV
    rw [if_neg h0, if_neg h1, if_neg h2, if_neg h3, if_neg h4, if_neg h5, if_neg h6, if_neg h7, if_neg h8, if_neg h9, if_neg h10, if_neg h11, if_neg h12, if_neg h13, if_neg h14, if_neg h15, if_neg h16, if_neg h17]
  refine ⟨?_, fun h => absurd h0' h⟩
  intro n hn
  rw [h0', decide_eq_false (show ¬ 0 = n + 1 by omega)]
  match n, hn with
  | 0, _ | 1, _ | 2, _ | 3, _ | 4, _ | 5, _ | 6, _ | 7, _ | 8, _ | 9, _ => simp [lvL, h0, h1, h2, h3, h4, h5, h6, h7, h8, h9, h10, h11, h12, h13, h14, h15, h16, h17]
abbrev T7 := Int × Int × Int × Int × Int × Int × Int
abbrev P1 := Int → List Token → Int → Int → Int → Int → Int → Option T7
abbrev P2 := Int → Int → List Token → Int → Int → Int → Int → Int → Option T7
def IsR (l : List Token) (i d z : Nat) (o : Option T7) : Res → Prop
  | .ok v j => o = some (v, (j : Int), 0, -1, 0, (d : Int), (z : Int))
  | .er e f p => e ≠ 0 ∧ ∃ (v : Int) (j : Nat) (d' z' : Int), o = some (v, (j : Int), e, f, p, d', z') ∧ j + i ≤ 2 * l.length + 2
theorem rone_eq (p : Bool) : preref4_one p = some (oneV p) := by cases p <;> rfl
theorem ris_eq (s : List UInt8) (hs : s ≠ []) (l : List Token) (i : Nat) (b f p d z : Int) : preref4_C_Is (i : Int) s l b f p d z = some (decide (signAt l i = s)) := by
  unfold preref4_C_Is signAt
  by_cases h : i < l.length
  · rw [li_t (show (i : Int) < (l.length : Int) by omega), if_pos rfl, Int.toNat_natCast, if_pos (show (0 : Int) ≤ (i : Int) ∧ i < l.length from ⟨by omega, h⟩)]
    by_cases h5 : (l.getD i default).Kind = 5
    · rw [ei_t h5, if_pos rfl, if_pos (show (0 : Int) ≤ (i : Int) ∧ i < l.length from ⟨by omega, h⟩), if_pos ⟨h, h5⟩]
      rfl
    · rw [ei_f h5, if_neg (by decide), if_neg (fun q => h5 q.2), decide_eq_false (fun q => hs q.symm)]
      rfl
  · rw [li_f (show ¬ (i : Int) < (l.length : Int) by omega), if_neg (by decide), if_neg (fun q => h q.1), decide_eq_false (fun q => hs q.symm)]
    rfl
theorem rat_eq (e : Int) (l : List Token) (hl : l.length < 4611686018427387904) (i : Nat) : preref4_At l (i : Int) e = some ⟨e, (faultAt l i).1, (faultAt l i).2⟩ := by
  unfold preref4_At faultAt
  simp only [ltI, decide_eq_true_eq, Int.toNat_natCast]
  by_cases h : i < l.length
  · have e1 : (0 : Int) ≤ (i : Int) ∧ i < l.length := ⟨by omega, h⟩
    rw [if_pos (show (i : Int) < (l.length : Int) by omega), if_pos e1, if_pos e1, if_pos h]
  · rw [if_neg (show ¬ (i : Int) < (l.length : Int) by omega), if_neg h]
    by_cases h0 : 0 < l.length
    · obtain ⟨k, hk⟩ : ∃ k, l.length = k + 1 := ⟨l.length - 1, by omega⟩
      have e2 : IntKind.i64.wrap ((l.length : Int) - 1) = (k : Int) := by rw [hk]; exact wm1 k (by omega)
      have e3 : l.length - 1 = k := by omega
      have e1 : (0 : Int) ≤ (k : Int) ∧ k < l.length := ⟨by omega, by omega⟩
      rw [if_pos (show (0 : Int) < (l.length : Int) by omega), if_pos h0, e2, e3]
      simp only [Int.toNat_natCast]
      rw [if_pos e1]
    · rw [if_neg (show ¬ (0 : Int) < (l.length : Int) by omega), if_neg h0]
theorem rstop0 (e : Int) (l : List Token) (hl : l.length < 4611686018427387904) (i : Nat) (f p d z : Int) : preref4_C_Stop (i : Int) e l 0 f p d z = some (e, (faultAt l i).1, (faultAt l i).2) := by
  unfold preref4_C_Stop
  rw [ei_t rfl, if_neg (by decide), rat_eq e l hl i]
  rfl
theorem rstop1 (i e : Int) (l : List Token) (b f p d z : Int) (hb : b ≠ 0) : preref4_C_Stop i e l b f p d z = some (b, f, p) := by
  unfold preref4_C_Stop
  rw [ei_f hb, if_pos (by decide)]
theorem not_eq (v : Int) : IntKind.i64.wrap ((-1) - v) = IntKind.i64.wrap ((BitVec.ofInt IntKind.i64.bits (-1)) ^^^ (BitVec.ofInt IntKind.i64.bits v)).toNat := by
  have e : (BitVec.ofInt IntKind.i64.bits (-1)) ^^^ (BitVec.ofInt IntKind.i64.bits v) = ~~~ (BitVec.ofInt IntKind.i64.bits v) := by
    show (BitVec.ofInt 64 (-1)) ^^^ (BitVec.ofInt 64 v) = ~~~ (BitVec.ofInt 64 v)
    rw [show BitVec.ofInt 64 (-1) = BitVec.allOnes 64 by decide, BitVec.allOnes_xor]
  rw [e]
  show IntKind.i64.wrap ((-1) - v) = IntKind.i64.wrap ((~~~ (BitVec.ofInt 64 v)).toNat : Int)
  rw [BitVec.toNat_not, BitVec.toNat_ofInt, IntKind.wrap_i64, IntKind.wrap_i64]
  have h1 : (2 : Int) ^ 64 = 18446744073709551616 := by decide
  have h2 : (2 : Nat) ^ 64 = 18446744073709551616 := by decide
  omega
noncomputable abbrev RCh := rec_preref4_C_Choice
theorem rlev : preref4_Levels = some lvL := rfl
theorem lvlen : (lvL.length : Int) = 10 := rfl
section
variable {l : List Token} {e f p : Int} (he : e ≠ 0)
include he
theorem ato_bad (n : Nat) (i d z : Int) : (rec_preref4_C_Choice (n + 1)).2.2 i l e f p d z = some (0, i, e, f, p, d, z) := by
  show preref4_C_Atom_s (RCh n).1 (RCh n).2.1 (RCh n).2.2 i l e f p d z = _
  unfold preref4_C_Atom_s
  rw [ei_f he, if_pos (by decide)]
theorem lev_bad : ∀ (k n : Nat), k ≤ 10 → ∀ i d z : Int, (rec_preref4_C_Choice (n + k + 2)).2.1 ((10 - k : Nat) : Int) i l e f p d z = some (0, i, e, f, p, d, z)
  | 0, n, _, i, d, z => by
    show preref4_C_Level_s (RCh (n + 1)).1 (RCh (n + 1)).2.1 (RCh (n + 1)).2.2 ((10 : Nat) : Int) i l e f p d z = _
    unfold preref4_C_Level_s
    rw [rlev, Option.bind_some, lvlen, ei_t (show ((10 : Nat) : Int) = 10 from rfl), if_pos rfl, ato_bad he]
    rfl
  | k + 1, n, hk, i, d, z => by
    have ih := lev_bad k n (by omega) i d z
    show preref4_C_Level_s (RCh (n + (k + 1) + 1)).1 (RCh (n + (k + 1) + 1)).2.1 (RCh (n + (k + 1) + 1)).2.2 ((10 - (k + 1) : Nat) : Int) i l e f p d z = _
    unfold preref4_C_Level_s
    rw [rlev, Option.bind_some, lvlen, ei_f (show ¬ ((10 - (k + 1) : Nat) : Int) = 10 by omega), if_neg (by decide), w1 _ (by omega), show 10 - (k + 1) + 1 = 10 - k by omega]
    rw [show n + (k + 1) + 1 = n + k + 2 by omega, ih, Option.bind_some, loopO_eq]
    dsimp only
    rw [preref4_C_Level_b2, ei_f he, if_neg (by decide)]
    rfl
theorem cho_bad (n : Nat) (h : 13 ≤ n) (i d z : Int) : (rec_preref4_C_Choice n).1 i l e f p d z = some (0, i, e, f, p, d, z) := by
  obtain ⟨n, rfl⟩ : ∃ m, n = m + 10 + 2 + 1 := ⟨n - 13, by omega⟩
  show preref4_C_Choice_s (RCh (n + 10 + 2)).1 (RCh (n + 10 + 2)).2.1 (RCh (n + 10 + 2)).2.2 i l e f p d z = _
  unfold preref4_C_Choice_s
  have := lev_bad (l := l) (f := f) (p := p) he 10 n (by omega) i d z
  rw [show (rec_preref4_C_Choice (n + 10 + 2)).2.1 0 i l e f p d z = some (0, i, e, f, p, d, z) from this, Option.bind_some]
  dsimp only
  rw [ei_f he, if_pos (by decide), preref4_C_Choice_j1, if_pos rfl]
end
end Go.Proofs.YtghmojcecefgjaaDoor
