/- lex: what its functions answer, as lists. Plain. -/
import Derived.Test.YtgkacglpjmndbaaRb
import Derived.Test.YtgkacglpjmndbaaQp
namespace Go.Proofs.Ytgkacglpjmndbaa
open Go.RowKit

def isLet (c : UInt8) : Bool := (decide (97 ≤ c.toNat) && decide (c.toNat ≤ 122)) || ((decide (65 ≤ c.toNat) && decide (c.toNat ≤ 90)) || decide (c.toNat = 95))
def isDig (c : UInt8) : Bool := decide (48 ≤ c.toNat) && decide (c.toNat ≤ 57)
def isWd (c : UInt8) : Bool := isLet c || isDig c
def runN (p : UInt8 → Bool) (l : List UInt8) : Nat := (l.takeWhile p).length
/-- A number's letters; the first argument: the letter ahead. -/
def inNum (pr c : UInt8) : Bool := ((decide (c = 43) || decide (c = 45)) && (decide (pr = 101) || decide (pr = 69))) || (decide (c = 46) || isWd c)
def numN : UInt8 → List UInt8 → Nat
  | _, [] => 0
  | pr, c :: r => if inNum pr c = true then numN c r + 1 else 0
/-- What stands in quotes, behind the first one: how many letters, the last quote with them. -/
def quoN (q : UInt8) : List UInt8 → Option Nat
  | [] => none
  | c :: r => if c = 10 then none else if c = q then some 1 else if c = 92 then (match r with | [] => none | d :: r' => if d = 10 then none else (quoN q r').map (· + 2)) else (quoN q r).map (· + 1)
def pathN (l : List UInt8) : Option Nat := if (l.drop (runN (fun c => decide (c ≠ 62) && decide (c ≠ 10)) l)).head? = some 62 then some (runN (fun c => decide (c ≠ 62) && decide (c ≠ 10)) l + 1) else none
def signs3 : List (List UInt8) := [[46, 46, 46], [60, 60, 61], [62, 62, 61]]
def signs2 : List (List UInt8) := [[45, 62], [43, 43], [45, 45], [60, 60], [62, 62], [60, 61], [62, 61], [61, 61], [33, 61], [38, 38], [124, 124], [43, 61], [45, 61], [42, 61], [47, 61], [37, 61], [38, 61], [124, 61], [94, 61], [35, 35]]
def signs1 : List (List UInt8) := [[91], [93], [40], [41], [123], [125], [46], [38], [42], [43], [45], [126], [33], [47], [37], [60], [62], [94], [124], [63], [58], [59], [61], [44], [35]]
def signsL : List (List UInt8) := signs3 ++ signs2 ++ signs1
def signN (l : List UInt8) : Nat := if signs3.contains (l.take 3) = true then 3 else if signs2.contains (l.take 2) = true then 2 else if signs1.contains (l.take 1) = true then 1 else 0
/-- A token that stands first: its kind, and how many letters; none: it has no end. -/
def piece (l : List UInt8) (path : Bool) : Int × Option Nat :=
  match l with
  | [] => (6, none)
  | c :: r =>
    if isLet c = true then (1, some (runN isWd (c :: r)))
    else if (isDig c || (decide (c = 46) && (r.head?.map isDig).getD false)) = true then (2, some (numN 0 (c :: r)))
    else if c = 34 then (4, (quoN 34 r).map (· + 1))
    else if c = 39 then (3, (quoN 39 r).map (· + 1))
    else if c = 60 ∧ path = true ∧ (pathN r).isSome = true then (7, (pathN r).map (· + 1))
    else if 0 < signN (c :: r) then (5, some (signN (c :: r)))
    else (6, some 1)
def isBl (c : UInt8) : Bool := decide (c = 32) || (decide (c = 9) || (decide (c = 10) || decide (c = 13)))
def lineL (l : List UInt8) : Nat := runN (fun c => decide (c ≠ 10)) l
def endC : List UInt8 → Option Nat
  | [] => none
  | c :: r => if c = 42 ∧ r.head? = some 47 then some 0 else (endC r).map (· + 1)
/-- What is blank: how much, whether there is a line feed, whether each note has an end (if not: where it begins). -/
def skF : Nat → List UInt8 → Nat × Bool × Bool
  | 0, _ => (0, false, true)
  | _ + 1, [] => (0, false, true)
  | n + 1, c :: r =>
    if isBl c = true then ((skF n r).1 + 1, decide (c = 10) || (skF n r).2.1, (skF n r).2.2)
    else if c = 47 ∧ r.head? = some 47 then ((skF n ((c :: r).drop (lineL (c :: r)))).1 + lineL (c :: r), (skF n ((c :: r).drop (lineL (c :: r)))).2)
    else if c = 47 ∧ r.head? = some 42 then
      match endC (r.drop 1) with
      | none => (0, false, false)
      | some j => ((skF n (r.drop (j + 3))).1 + (j + 4), (skF n (r.drop (j + 3))).2)
    else (0, false, true)
def skip (l : List UInt8) : Nat × Bool × Bool := skF l.length l

theorem endC_lt : ∀ {l : List UInt8} {j : Nat}, endC l = some j → j + 2 ≤ l.length
  | [], j, h => by cases h
  | c :: r, j, h => by
    simp only [endC] at h
    split at h
    · rename_i hc
      cases r with
      | nil => simp at hc
      | cons d r => cases h; simp
    · cases he : endC r with
      | none => rw [he] at h; cases h
      | some k =>
        rw [he] at h
        simp only [Option.map_some, Option.some.injEq] at h
        have := endC_lt he
        simp only [List.length_cons]; omega
theorem lineL_pos {c : UInt8} {r : List UInt8} (h : c ≠ 10) : 0 < lineL (c :: r) := by simp [lineL, runN, List.takeWhile_cons, h]
theorem runN_le (p : UInt8 → Bool) (l : List UInt8) : runN p l ≤ l.length := by
  unfold runN
  have := (List.takeWhile_sublist p (l := l)).length_le
  exact this

theorem skF_enough : ∀ (n m : Nat) (l : List UInt8), l.length ≤ n → l.length ≤ m → skF n l = skF m l
  | n, m, [], _, _ => by cases n <;> cases m <;> rfl
  | 0, _, c :: r, h, _ => by simp at h
  | _, 0, c :: r, _, h => by simp at h
  | n + 1, m + 1, c :: r, h1, h2 => by
    simp only [List.length_cons] at h1 h2
    have e1 : skF n r = skF m r := skF_enough n m r (by omega) (by omega)
    simp only [skF, e1]
    split
    · rfl
    · split
      · rename_i hc
        have hp := lineL_pos (c := c) (r := r) (by rw [hc.1]; decide)
        have e2 : skF n ((c :: r).drop (lineL (c :: r))) = skF m ((c :: r).drop (lineL (c :: r))) := skF_enough n m _ (by simp; omega) (by simp; omega)
        rw [e2]
      · split
        · split
          · rfl
          · rename_i j hj
            have e3 : skF n (r.drop (j + 3)) = skF m (r.drop (j + 3)) := skF_enough n m _ (by simp; omega) (by simp; omega)
            rw [e3]
        · rfl
theorem skip_nil : skip [] = (0, false, true) := rfl
theorem skip_bl {c : UInt8} {r : List UInt8} (h : isBl c = true) : skip (c :: r) = ((skip r).1 + 1, decide (c = 10) || (skip r).2.1, (skip r).2.2) := by
  unfold skip
  simp only [List.length_cons, skF, h, if_true]
theorem skip_line {r : List UInt8} (h : r.head? = some 47) : skip (47 :: r) = ((skip ((47 :: r).drop (lineL (47 :: r)))).1 + lineL (47 :: r), (skip ((47 :: r).drop (lineL (47 :: r)))).2) := by
  have hp := lineL_pos (c := 47) (r := r) (by decide)
  have e : skF r.length ((47 :: r).drop (lineL (47 :: r))) = skip ((47 :: r).drop (lineL (47 :: r))) := skF_enough _ _ _ (by simp; omega) (Nat.le_refl _)
  conv => lhs; unfold skip
  simp only [List.length_cons, skF, h, and_self, if_true, e]
  rfl
theorem skip_note {r : List UInt8} {j : Nat} (h : r.head? = some 42) (hj : endC (r.drop 1) = some j) : skip (47 :: r) = ((skip (r.drop (j + 3))).1 + (j + 4), (skip (r.drop (j + 3))).2) := by
  have e : skF r.length (r.drop (j + 3)) = skip (r.drop (j + 3)) := skF_enough _ _ _ (by simp) (Nat.le_refl _)
  conv => lhs; unfold skip
  simp only [List.length_cons, skF, h, hj, e]
  rfl
theorem skip_open {r : List UInt8} (h : r.head? = some 42) (hj : endC (r.drop 1) = none) : skip (47 :: r) = (0, false, false) := by
  conv => lhs; unfold skip
  simp only [List.length_cons, skF, h, hj]
  rfl
theorem skip_stop {c : UInt8} {r : List UInt8} (h : isBl c = false) (h1 : ¬ (c = 47 ∧ r.head? = some 47)) (h2 : ¬ (c = 47 ∧ r.head? = some 42)) : skip (c :: r) = (0, false, true) := by
  unfold skip
  simp only [List.length_cons, skF, h, h1, h2, if_false, Bool.false_eq_true]
theorem skip_le : ∀ (n : Nat) (l : List UInt8), l.length ≤ n → (skip l).1 ≤ l.length
  | _, [], _ => by simp [skip_nil]
  | 0, c :: r, h => by simp at h
  | n + 1, c :: r, h => by
    simp only [List.length_cons] at h
    by_cases hb : isBl c = true
    · rw [skip_bl hb]
      have := skip_le n r (by omega)
      simp only [List.length_cons]; omega
    · by_cases h1 : c = 47 ∧ r.head? = some 47
      · obtain ⟨rfl, h1⟩ := h1
        rw [skip_line h1]
        have hp := lineL_pos (c := 47) (r := r) (by decide)
        have hl := runN_le (fun c => decide (c ≠ 10)) (47 :: r)
        have := skip_le n ((47 :: r).drop (lineL (47 :: r))) (by simp; omega)
        simp only [List.length_drop, List.length_cons] at this hl ⊢
        unfold lineL at *
        omega
      · by_cases h2 : c = 47 ∧ r.head? = some 42
        · obtain ⟨rfl, h2⟩ := h2
          cases hj : endC (r.drop 1) with
          | none => rw [skip_open h2 hj]; simp
          | some j =>
            rw [skip_note h2 hj]
            have hl := endC_lt hj
            have := skip_le n (r.drop (j + 3)) (by simp; omega)
            simp only [List.length_drop, List.length_cons] at this hl ⊢
            omega
        · rw [skip_stop (by simpa using hb) h1 h2]; simp

structure Raw where
  kind : Int
  pos : Nat
  len : Nat
  sp : Bool
  fst : Bool
  txt : List UInt8
  deriving DecidableEq
def incT : List UInt8 := [105, 110, 99, 108, 117, 100, 101]
/-- 1: a line's first token was #; 2: include stands behind that. -/
def nextP (st : Nat) (txt : List UInt8) (fst : Bool) : Nat := if fst = true ∧ txt = [35] then 1 else if st = 1 ∧ fst = false ∧ txt = incT then 2 else 0
/-- Tokens; and where something begins that has no end. -/
def lxF : Nat → List UInt8 → Nat → Nat → Bool → List Raw × Option Nat
  | 0, _, _, _, _ => ([], none)
  | n + 1, l, i, st, f0 =>
    if (skip l).2.2 = false then ([], some (i + (skip l).1)) else
    if l.drop (skip l).1 = [] then ([], none) else
    match piece (l.drop (skip l).1) (!(f0 || (skip l).2.1) && decide (st = 2)) with
    | (_, none) => ([], some (i + (skip l).1))
    | (kind, some m) =>
      let t := (l.drop (skip l).1).take m
      let x := lxF n ((l.drop (skip l).1).drop m) (i + (skip l).1 + m) (nextP st t (f0 || (skip l).2.1)) false
      (⟨kind, i + (skip l).1, m, decide (0 < (skip l).1), f0 || (skip l).2.1, t⟩ :: x.1, x.2)

theorem signN_pos_le (l : List UInt8) : signN l ≤ l.length := by
  have key : ∀ (S : List (List UInt8)) (k : Nat), (∀ s ∈ S, s.length = k) → S.contains (l.take k) = true → k ≤ l.length := fun S k hS hc => by
    have hm : l.take k ∈ S := by simpa using hc
    have := hS _ hm
    simp at this; omega
  unfold signN
  split
  · exact key signs3 3 (by decide) (by assumption)
  · split
    · exact key signs2 2 (by decide) (by assumption)
    · split
      · exact key signs1 1 (by decide) (by assumption)
      · omega
theorem numN_le : ∀ (pr : UInt8) (l : List UInt8), numN pr l ≤ l.length
  | _, [] => by simp [numN]
  | pr, c :: r => by
    simp only [numN]
    split
    · have := numN_le c r; simp; omega
    · simp
theorem quoN_le (q : UInt8) : ∀ (n : Nat) (l : List UInt8), l.length ≤ n → ∀ m, quoN q l = some m → 0 < m ∧ m ≤ l.length
  | _, [], _, m, h => by simp [quoN] at h
  | 0, c :: r, h, _, _ => by simp at h
  | n + 1, c :: r, hn, m, h => by
    simp only [List.length_cons] at hn
    unfold quoN at h
    split at h
    · cases h
    split at h
    · cases h; simp
    split at h
    · cases r with
      | nil => cases h
      | cons d r' =>
        simp only at h
        split at h
        · cases h
        · cases hq : quoN q r' with
          | none => rw [hq] at h; cases h
          | some k =>
            rw [hq] at h
            cases h
            simp only [List.length_cons] at hn
            have := quoN_le q n r' (by omega) k hq
            simp; omega
    · cases hq : quoN q r with
      | none => rw [hq] at h; cases h
      | some k =>
        rw [hq] at h
        cases h
        have := quoN_le q n r (by omega) k hq
        simp; omega
theorem pathN_le {l : List UInt8} {m : Nat} (h : pathN l = some m) : 0 < m ∧ m ≤ l.length := by
  unfold pathN at h
  split at h
  · rename_i hh
    cases h
    refine ⟨by omega, ?_⟩
    have hlt : runN (fun c => decide (c ≠ 62) && decide (c ≠ 10)) l < l.length := by
      rcases Nat.lt_or_ge (runN (fun c => decide (c ≠ 62) && decide (c ≠ 10)) l) l.length with h | h
      · exact h
      · rw [List.drop_of_length_le h] at hh; cases hh
    omega
  · cases h
theorem piece_le {l : List UInt8} {path : Bool} {k : Int} {m : Nat} (h : piece l path = (k, some m)) : 0 < m ∧ m ≤ l.length := by
  unfold piece at h
  split at h
  · cases h
  · rename_i c r
    split at h
    · rename_i hc
      cases h
      refine ⟨?_, runN_le _ _⟩
      simp [runN, List.takeWhile_cons, isWd, hc]
    split at h
    · rename_i hc
      cases h
      refine ⟨?_, numN_le _ _⟩
      have : inNum 0 c = true := by
        simp only [Bool.or_eq_true, Bool.and_eq_true, decide_eq_true_eq] at hc
        unfold inNum isWd
        rcases hc with hc | ⟨hc, _⟩ <;> simp [hc]
      simp [numN, this]
    split at h
    · simp only [Prod.mk.injEq] at h
      cases hq : quoN 34 r with
      | none => rw [hq] at h; cases h.2
      | some j =>
        rw [hq] at h
        have := quoN_le 34 r.length r (Nat.le_refl _) j hq
        obtain ⟨_, h⟩ := h
        cases h
        simp; omega
    split at h
    · simp only [Prod.mk.injEq] at h
      cases hq : quoN 39 r with
      | none => rw [hq] at h; cases h.2
      | some j =>
        rw [hq] at h
        have := quoN_le 39 r.length r (Nat.le_refl _) j hq
        obtain ⟨_, h⟩ := h
        cases h
        simp; omega
    split at h
    · simp only [Prod.mk.injEq] at h
      cases hq : pathN r with
      | none => rw [hq] at h; cases h.2
      | some j =>
        rw [hq] at h
        have := pathN_le hq
        obtain ⟨_, h⟩ := h
        cases h
        simp; omega
    split at h
    · cases h
      exact ⟨by assumption, signN_pos_le _⟩
    · cases h; simp

/-- A token of a file. -/
def tokOf (file : Int) (text : List UInt8) (r : Raw) : Token :=
  ⟨r.kind, r.txt, r.sp, r.fst, file, (((spPos text).getD r.pos 0 : Nat) : Int), (((spPos text).getD (r.pos + r.len - 1) 0 + 1 : Nat) : Int), ((lineN text ((spPos text).getD r.pos 0) : Nat) : Int), [], [], 0⟩
def raws (text : List UInt8) : List Raw × Option Nat := lxF ((spText text).length + 1) (spText text) 0 0 true
def toksV (file : Int) (text : List UInt8) : List Token × Fault :=
  if 3000 < text.length then ([], ⟨4, file, 0⟩) else
  match raws text with
  | (ts, none) => (ts.map (tokOf file text), ⟨0, -1, 0⟩)
  | (_, some p) => ([], ⟨9, file, (((spPos text).getD p 0 : Nat) : Int)⟩)
end Go.Proofs.Ytgkacglpjmndbaa
