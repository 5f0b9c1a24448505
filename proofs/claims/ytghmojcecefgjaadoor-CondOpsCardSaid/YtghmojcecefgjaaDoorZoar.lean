/- What tokens come to, as functions of lists and numbers: the small parts. Plain. -/
import Derived.Test.YtghmojcecefgjaaDoorZoam
import Derived.Test.YtghmojcecefgjaaDoorZoaq
set_option linter.unusedVariables false
set_option linter.unusedSimpArgs false
namespace Go.Proofs.YtghmojcecefgjaaDoor
open Go.RowKit
theorem w1 (i : Nat) (h : i < 4611686018427387904) : IntKind.i64.wrap ((i : Int) + 1) = ((i + 1 : Nat) : Int) := by rw [wr _ (by omega)]; omega
theorem wm1 (i : Nat) (h : i < 4611686018427387904) : IntKind.i64.wrap (((i + 1 : Nat) : Int) - 1) = (i : Int) := by rw [wr _ (by omega)]; omega
theorem es_t {a b : List UInt8} (h : a = b) : eqS a b = true := decide_eq_true h
theorem es_f {a b : List UInt8} (h : ¬ a = b) : eqS a b = false := decide_eq_false h
theorem ei_t {a b : Int} (h : a = b) : eqI a b = true := decide_eq_true h
theorem ei_f {a b : Int} (h : ¬ a = b) : eqI a b = false := decide_eq_false h
theorem li_t {a b : Int} (h : a < b) : ltI a b = true := decide_eq_true h
theorem li_f {a b : Int} (h : ¬ a < b) : ltI a b = false := decide_eq_false h
def signAt (l : List Token) (i : Nat) : List UInt8 := if i < l.length ∧ (l.getD i default).Kind = 5 then (l.getD i default).Text else []
def faultAt (l : List Token) (i : Nat) : Int × Int :=
  if i < l.length then ((l.getD i default).File, (l.getD i default).At)
  else if 0 < l.length then ((l.getD (l.length - 1) default).File, (l.getD (l.length - 1) default).End) else (-1, 0)
theorem peek_eq (l : List Token) (i : Nat) (d z : Int) : cond_parser_peek l (i : Int) d z = some (signAt l i) := by
  unfold cond_parser_peek signAt
  simp only [cond_parser_peek_j1, ltI, eqI, decide_eq_true_eq, Int.toNat_natCast]
  by_cases h : i < l.length
  · rw [if_pos (show (i : Int) < (l.length : Int) by omega), if_pos (show (0 : Int) ≤ (i : Int) ∧ i < l.length from ⟨by omega, h⟩)]
    by_cases h5 : (l.getD i default).Kind = 5
    · rw [if_pos h5, if_pos (show (0 : Int) ≤ (i : Int) ∧ i < l.length from ⟨by omega, h⟩), if_pos ⟨h, h5⟩]
    · rw [if_neg h5, if_neg (fun q => h5 q.2)]
  · rw [if_neg (show ¬ (i : Int) < (l.length : Int) by omega), if_neg (by decide), if_neg (fun q => h q.1)]
theorem eat_eq (s : List UInt8) (l : List Token) (i : Nat) (h : i < 4611686018427387904) (d z : Int) :
    cond_parser_eat s l (i : Int) d z = some (decide (signAt l i = s), ((if signAt l i = s then i + 1 else i : Nat) : Int)) := by
  unfold cond_parser_eat
  rw [peek_eq]
  simp only [Option.bind_some]
  by_cases hs : signAt l i = s
  · rw [es_t hs, if_neg (by decide), w1 i h, if_pos hs, decide_eq_true hs]
  · rw [es_f hs, if_pos (by decide), if_neg hs, decide_eq_false hs]
theorem fail_eq (e : Int) (l : List Token) (hl : l.length < 4611686018427387904) (i : Nat) (d z : Int) : cond_parser_fail e l (i : Int) d z = some (faultAt l i) := by
  unfold cond_parser_fail faultAt
  simp only [cond_parser_fail_j1, ltI, decide_eq_true_eq, Int.toNat_natCast]
  by_cases h : i < l.length
  · have e1 : (0 : Int) ≤ (i : Int) ∧ i < l.length := ⟨by omega, h⟩
    rw [if_pos (show (i : Int) < (l.length : Int) by omega), if_pos e1, if_pos e1, if_pos h]
  · rw [if_neg (show ¬ (i : Int) < (l.length : Int) by omega), if_neg h]
    by_cases h0 : 0 < l.length
    · obtain ⟨k, hk⟩ : ∃ k, l.length = k + 1 := ⟨l.length - 1, by omega⟩
      have e2 : IntKind.i64.wrap ((l.length : Int) - 1) = (k : Int) := by rw [hk]; exact wm1 k (by omega)
      have e3 : l.length - 1 = k := by omega
      have e1 : (0 : Int) ≤ (k : Int) ∧ k < l.length := ⟨by omega, by omega⟩
      rw [if_pos (show (0 : Int) < (l.length : Int) by omega), if_pos h0, e2, e3]
      simp only [Int.toNat_natCast]
      rw [if_pos e1, if_pos e1]
    · rw [if_neg (show ¬ (0 : Int) < (l.length : Int) by omega), if_neg h0]
def tightV (s : List UInt8) : Nat :=
  if s = [124, 124] then 1 else if s = [38, 38] then 2 else if s = [124] then 3 else if s = [94] then 4 else if s = [38] then 5
  else if s = [61, 61] then 6 else if s = [33, 61] then 6 else if s = [60] then 7 else if s = [62] then 7 else if s = [60, 61] then 7 else if s = [62, 61] then 7
  else if s = [60, 60] then 8 else if s = [62, 62] then 8 else if s = [43] then 9 else if s = [45] then 9 else if s = [42] then 10 else if s = [47] then 10 else if s = [37] then 10 else 0
theorem tightV_le (s : List UInt8) : tightV s ≤ 10 := by
  by_cases h0 : s = [124, 124]
  · subst h0; decide
  by_cases h1 : s = [38, 38]
  · subst h1; decide
  by_cases h2 : s = [124]
  · subst h2; decide
  by_cases h3 : s = [94]
  · subst h3; decide
  by_cases h4 : s = [38]
  · subst h4; decide
  by_cases h5 : s = [61, 61]
  · subst h5; decide
  by_cases h6 : s = [33, 61]
  · subst h6; decide
  by_cases h7 : s = [60]
  · subst h7; decide
  by_cases h8 : s = [62]
  · subst h8; decide
  by_cases h9 : s = [60, 61]
  · subst h9; decide
  by_cases h10 : s = [62, 61]
  · subst h10; decide
  by_cases h11 : s = [60, 60]
  · subst h11; decide
  by_cases h12 : s = [62, 62]
  · subst h12; decide
  by_cases h13 : s = [43]
  · subst h13; decide
  by_cases h14 : s = [45]
  · subst h14; decide
  by_cases h15 : s = [42]
  · subst h15; decide
  by_cases h16 : s = [47]
  · subst h16; decide
  by_cases h17 : s = [37]
  · subst h17; decide
  unfold tightV
  rw [if_neg h0, if_neg h1, if_neg h2, if_neg h3, if_neg h4, if_neg h5, if_neg h6, if_neg h7, if_neg h8, if_neg h9, if_neg h10, if_neg h11, if_neg h12, if_neg h13, if_neg h14, if_neg h15, if_neg h16, if_neg h17]
  decide
theorem tight_eq (s : List UInt8) : cond_tight s = some (tightV s : Int) := by
  by_cases h0 : s = [124, 124]
  · subst h0; rfl
  by_cases h1 : s = [38, 38]
  · subst h1; rfl
  by_cases h2 : s = [124]
  · subst h2; rfl
  by_cases h3 : s = [94]
  · subst h3; rfl
  by_cases h4 : s = [38]
  · subst h4; rfl
  by_cases h5 : s = [61, 61]
  · subst h5; rfl
  by_cases h6 : s = [33, 61]
  · subst h6; rfl
  by_cases h7 : s = [60]
  · subst h7; rfl
  by_cases h8 : s = [62]
  · subst h8; rfl
  by_cases h9 : s = [60, 61]
  · subst h9; rfl
  by_cases h10 : s = [62, 61]
  · subst h10; rfl
  by_cases h11 : s = [60, 60]
  · subst h11; rfl
  by_cases h12 : s = [62, 62]
  · subst h12; rfl
  by_cases h13 : s = [43]
  · subst h13; rfl
  by_cases h14 : s = [45]
  · subst h14; rfl
  by_cases h15 : s = [42]
  · subst h15; rfl
  by_cases h16 : s = [47]
  · subst h16; rfl
  by_cases h17 : s = [37]
  · subst h17; rfl
  unfold tightV
  rw [if_neg h0, if_neg h1, if_neg h2, if_neg h3, if_neg h4, if_neg h5, if_neg h6, if_neg h7, if_neg h8, if_neg h9, if_neg h10, if_neg h11, if_neg h12, if_neg h13, if_neg h14, if_neg h15, if_neg h16, if_neg h17]
  simp only [cond_tight, cond_tight_j1, cond_tight_j2, cond_tight_j3, cond_tight_j4, cond_tight_j5, es_f h0, es_f h1, es_f h2, es_f h3, es_f h4, es_f h5, es_f h6, es_f h7, es_f h8, es_f h9, es_f h10, es_f h11, es_f h12, es_f h13, es_f h14, es_f h15, es_f h16, es_f h17, Bool.false_eq_true, if_false]
  rfl
def oneV (p : Bool) : Int := if p = true then 1 else 0
theorem one_eq (p : Bool) : cond_one p = some (oneV p) := by cases p <;> rfl
def opV (s : List UInt8) (a b : Int) : Int ⊕ Int :=
  if s = [124] then .inl (IntKind.i64.wrap ((BitVec.ofInt IntKind.i64.bits a) ||| (BitVec.ofInt IntKind.i64.bits b)).toNat)
  else if s = [94] then .inl (IntKind.i64.wrap ((BitVec.ofInt IntKind.i64.bits a) ^^^ (BitVec.ofInt IntKind.i64.bits b)).toNat)
  else if s = [38] then .inl (IntKind.i64.wrap ((BitVec.ofInt IntKind.i64.bits a) &&& (BitVec.ofInt IntKind.i64.bits b)).toNat)
  else if s = [61, 61] then .inl (oneV (decide (a = b)))
  else if s = [33, 61] then .inl (oneV (!decide (a = b)))
  else if s = [60] then .inl (oneV (decide (a < b)))
  else if s = [62] then .inl (oneV (decide (b < a)))
  else if s = [60, 61] then .inl (oneV (decide (a ≤ b)))
  else if s = [62, 61] then .inl (oneV (decide (b ≤ a)))
  else if s = [43] then .inl (IntKind.i64.wrap (a + b))
  else if s = [45] then .inl (IntKind.i64.wrap (a - b))
  else if s = [42] then .inl (IntKind.i64.wrap (a * b))
  else if s = [60, 60] then (if b < 0 ∨ 63 < b then .inr 3 else .inl (IntKind.i64.wrap (a * 2 ^ (min b.toNat IntKind.i64.bits))))
  else if s = [62, 62] then (if b < 0 ∨ 63 < b then .inr 3 else .inl (Int.fdiv a (2 ^ (min b.toNat IntKind.i64.bits))))
  else if b = 0 then .inr 13
  else if b = -1 then (if s = [47] then .inl (IntKind.i64.wrap (0 - a)) else .inl 0)
  else if s = [47] then .inl (IntKind.i64.wrap (Int.tdiv a b)) else .inl (Int.tmod a b)
theorem bad_eq (e : Int) (i : Nat) (l : List Token) (hl : l.length < 4611686018427387904) (x d : Int) (z : Nat) :
    cond_parser_bad e (i : Int) l x d (z : Int) = some (if z = 0 then .er ((faultAt l i).1, (faultAt l i).2) else .ok ()) := by
  unfold cond_parser_bad
  simp only [eqI, decide_eq_true_eq]
  by_cases h : z = 0
  · rw [if_pos (show (z : Int) = 0 by omega), fail_eq _ _ hl, if_pos h]; rfl
  · rw [if_neg (show ¬ (z : Int) = 0 by omega), if_neg h]
def opR (l : List Token) (i z : Nat) : Int ⊕ Int → GR (Int × Int × Int) Int
  | .inl v => .ok v
  | .inr e => if z = 0 then .er (e, (faultAt l i).1, (faultAt l i).2) else .ok 0
set_option maxRecDepth 4000 in
theorem op_eq (s : List UInt8) (a b : Int) (i : Nat) (l : List Token) (hl : l.length < 4611686018427387904) (x d : Int) (z : Nat) :
    cond_parser_op s a b (i : Int) l x d (z : Int) = some (opR l i z (opV s a b)) := by
  have hb : ∀ e : Int, grB (cond_parser_bad e (i : Int) l x d (z : Int)) (fun r7 => some (.ok 0)) (fun e1 => some (.er (e, e1.1, e1.2))) = some (opR l i z (.inr e)) := by
    intro e
    rw [bad_eq e i l hl]
    show _ = some (if z = 0 then GR.er (e, (faultAt l i).1, (faultAt l i).2) else GR.ok 0)
    by_cases h : z = 0
    · rw [if_pos h, if_pos h]; rfl
    · rw [if_neg h, if_neg h]; rfl
  have hj2 : ∀ p : Bool, (p = false → 0 ≤ b) → cond_parser_op_j2 s a b i l x d z p = some (opR l i z (if p = true then .inr 3 else if s = [60, 60] then .inl (IntKind.i64.wrap (a * 2 ^ (min b.toNat IntKind.i64.bits))) else .inl (Int.fdiv a (2 ^ (min b.toNat IntKind.i64.bits))))) := by
    intro p hp
    simp only [cond_parser_op_j2, eqS, decide_eq_true_eq]
    cases p with
    | true => rw [if_pos rfl, if_pos rfl]; exact hb 3
    | false =>
      have := hp rfl
      simp only [Bool.false_eq_true, if_false]
      by_cases h : s = [60, 60]
      · rw [if_pos h, if_pos h, if_pos this]; rfl
      · rw [if_neg h, if_neg h, if_pos this]; rfl
  unfold cond_parser_op opV
  simp only [eqS, decide_eq_true_eq, one_eq, Option.bind_some, eqI, ltI, leI]
  by_cases h1 : s = [124]
  · rw [if_pos h1, if_pos h1]; rfl
  rw [if_neg h1, if_neg h1]
  by_cases h2 : s = [94]
  · rw [if_pos h2, if_pos h2]; rfl
  rw [if_neg h2, if_neg h2]
  by_cases h3 : s = [38]
  · rw [if_pos h3, if_pos h3]; rfl
  rw [if_neg h3, if_neg h3]
  by_cases h4 : s = [61, 61]
  · rw [if_pos h4, if_pos h4]; rfl
  rw [if_neg h4, if_neg h4]
  by_cases h5 : s = [33, 61]
  · rw [if_pos h5, if_pos h5]; rfl
  rw [if_neg h5, if_neg h5]
  by_cases h6 : s = [60]
  · rw [if_pos h6, if_pos h6]; rfl
  rw [if_neg h6, if_neg h6]
  by_cases h7 : s = [62]
  · rw [if_pos h7, if_pos h7]; rfl
  rw [if_neg h7, if_neg h7]
  by_cases h8 : s = [60, 61]
  · rw [if_pos h8, if_pos h8]; rfl
  rw [if_neg h8, if_neg h8]
  by_cases h9 : s = [62, 61]
  · rw [if_pos h9, if_pos h9]; rfl
  rw [if_neg h9, if_neg h9]
  by_cases h10 : s = [43]
  · rw [if_pos h10, if_pos h10]; rfl
  rw [if_neg h10, if_neg h10]
  by_cases h11 : s = [45]
  · rw [if_pos h11, if_pos h11]; rfl
  rw [if_neg h11, if_neg h11]
  by_cases h12 : s = [42]
  · rw [if_pos h12, if_pos h12]; rfl
  rw [if_neg h12, if_neg h12]
  have hsh : ∀ q : s = [60, 60] ∨ s = [62, 62], cond_parser_op_j1 s a b i l x d z true = some (opR l i z (if b < 0 ∨ 63 < b then .inr 3 else if s = [60, 60] then .inl (IntKind.i64.wrap (a * 2 ^ (min b.toNat IntKind.i64.bits))) else .inl (Int.fdiv a (2 ^ (min b.toNat IntKind.i64.bits))))) := by
    intro q
    simp only [cond_parser_op_j1, ltI, decide_eq_true_eq, if_true]
    by_cases hb0 : b < 0
    · rw [if_pos hb0, hj2 true (by simp), if_pos rfl, if_pos (Or.inl hb0)]
    · rw [if_neg hb0, hj2 _ (fun _ => by omega)]
      by_cases h63 : 63 < b
      · rw [if_pos (decide_eq_true h63), if_pos (Or.inr h63)]
      · rw [if_neg (show ¬ decide (63 < b) = true by simp [h63]), if_neg (show ¬ (b < 0 ∨ 63 < b) by omega)]
  by_cases h13 : s = [60, 60]
  · rw [if_pos h13, if_pos h13, hsh (Or.inl h13)]
    simp only [if_pos h13]
  rw [if_neg h13, if_neg h13]
  by_cases h14 : s = [62, 62]
  · rw [decide_eq_true h14, if_pos h14, hsh (Or.inr h14)]
    simp only [if_neg h13]
  rw [decide_eq_false h14, if_neg h14]
  simp only [cond_parser_op_j1, eqI, eqS, decide_eq_true_eq, Bool.false_eq_true, if_false]
  by_cases b0 : b = 0
  · rw [if_pos b0, if_pos b0]; exact hb 13
  rw [if_neg b0, if_neg b0]
  by_cases b1 : b = -1
  · rw [if_pos b1, if_pos b1]
    by_cases h15 : s = [47]
    · rw [if_pos h15, if_pos h15]; rfl
    · rw [if_neg h15, if_neg h15]; rfl
  rw [if_neg b1, if_neg b1]
  by_cases h15 : s = [47]
  · rw [if_pos h15, if_pos h15, if_pos b0]; rfl
  · rw [if_neg h15, if_neg h15, if_pos b0]; rfl
end Go.Proofs.YtghmojcecefgjaaDoor
