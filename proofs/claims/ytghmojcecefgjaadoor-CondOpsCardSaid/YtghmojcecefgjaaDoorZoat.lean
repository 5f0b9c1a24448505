/- A number's text, as a function of lists. Plain. -/
import Derived.Test.YtghmojcecefgjaaDoorZoar
set_option linter.unusedVariables false
set_option linter.unusedSimpArgs false
namespace Go.Proofs.YtghmojcecefgjaaDoor
open Go.RowKit
def isUL (c : UInt8) : Bool := decide (c = 76) || (decide (c = 85) || (decide (c = 108) || decide (c = 117)))
def stripR : List UInt8 → List UInt8
  | [] => []
  | [c] => [c]
  | c :: d :: r => if isUL c = true then stripR (d :: r) else c :: d :: r
def strip (l : List UInt8) : List UInt8 := (stripR l.reverse).reverse
def numF (B : Nat) (u : List UInt8) : Int × Bool := match parseI B u with
  | none => (0, false)
  | some n => if u.getD 0 0 = 43 then (0, false) else if u.getD 0 0 = 45 then (0, false) else (n, true)
def numT (q : List UInt8) : Int × Bool :=
  if 2 < q.length ∧ (q.take 2 = [48, 120] ∨ q.take 2 = [48, 88]) then numF 16 (q.drop 2)
  else if 1 < q.length ∧ q.getD 0 0 = 48 then numF 8 (q.drop 1) else numF 10 q
def numV (l : List UInt8) : Int × Bool := numT (strip l)
theorem c8 (c : UInt8) (n : Nat) (h : n < 256) : eqI (c.toNat : Int) (n : Int) = decide (c = UInt8.ofNat n) := by
  unfold eqI
  exact decide_eq_decide.2 (u8i c n h)
theorem c43 (c : UInt8) : eqI (c.toNat : Int) 43 = decide (c = 43) := c8 c 43 (by decide)
theorem c45 (c : UInt8) : eqI (c.toNat : Int) 45 = decide (c = 45) := c8 c 45 (by decide)
theorem c48 (c : UInt8) : eqI (c.toNat : Int) 48 = decide (c = 48) := c8 c 48 (by decide)
theorem c76 (c : UInt8) : eqI (c.toNat : Int) 76 = decide (c = 76) := c8 c 76 (by decide)
theorem c85 (c : UInt8) : eqI (c.toNat : Int) 85 = decide (c = 85) := c8 c 85 (by decide)
theorem c108 (c : UInt8) : eqI (c.toNat : Int) 108 = decide (c = 108) := c8 c 108 (by decide)
theorem c117 (c : UInt8) : eqI (c.toNat : Int) 117 = decide (c = 117) := c8 c 117 (by decide)
theorem parseI_ne {B : Nat} {u : List UInt8} {n : Int} (h : parseI B u = some n) : 0 < u.length := by
  cases u with
  | nil => cases h
  | cons c r => simp
theorem num_j3 (u : List UInt8) (B : Nat) (hB : B = 8 ∨ B = 10 ∨ B = 16) (hu : u.length ≤ 281474976710656) : cond_Num_j3 (u, (B : Int)) = some (numF B u) := by
  have e1 : strconv_ParseInt u (B : Int) 64 = some ((parseI B u).getD (errI B u), (parseI B u).isSome) := by
    unfold strconv_ParseInt
    rw [if_pos ⟨hu, by omega, rfl⟩, Int.toNat_natCast]
  unfold numF
  simp only [cond_Num_j3, e1, Option.bind_some]
  cases h : parseI B u with
  | none => rfl
  | some n =>
    have h0 := parseI_ne h
    simp only [Option.isSome_some, Bool.not_true, Bool.false_eq_true, if_false, Option.getD_some]
    rw [if_pos h0, if_pos h0, c43, c45]
    by_cases h1 : u.getD 0 0 = 43
    · rw [if_pos (decide_eq_true h1), if_pos h1]; rfl
    · rw [if_neg (show ¬ decide (u.getD 0 0 = 43) = true by simpa using h1), if_neg h1]
      by_cases h2 : u.getD 0 0 = 45
      · rw [decide_eq_true (show u.getD 0 0 = 45 from h2), if_pos h2]; rfl
      · rw [decide_eq_false (show ¬ u.getD 0 0 = 45 from h2), if_neg h2]; rfl
theorem num_j6 (q : List UInt8) (hq : q.length ≤ 281474976710656) (h1 : 1 < q.length) (p : Bool) : cond_Num_j6 q p = some (if p = true then numF 8 (q.drop 1) else numF 10 q) := by
  cases p with
  | true =>
    simp only [cond_Num_j6, if_true]
    rw [if_pos (show (0 : Int) ≤ 1 ∧ 1 ≤ (q.length : Int) ∧ (q.length : Int) ≤ (q.length : Int) by omega)]
    exact num_j3 _ 8 (by omega) (by simp; omega)
  | false =>
    simp only [cond_Num_j6, Bool.false_eq_true, if_false]
    exact num_j3 _ 10 (by omega) hq
theorem num_j5 (q : List UInt8) (hq : q.length ≤ 281474976710656) (p : Bool) (hp : p = true → 2 < q.length) :
    cond_Num_j5 q p = some (if p = true then numF 16 (q.drop 2) else if 1 < q.length ∧ q.getD 0 0 = 48 then numF 8 (q.drop 1) else numF 10 q) := by
  cases p with
  | true =>
    have := hp rfl
    simp only [cond_Num_j5, if_true]
    rw [if_pos (show (0 : Int) ≤ 2 ∧ 2 ≤ (q.length : Int) ∧ (q.length : Int) ≤ (q.length : Int) by omega)]
    exact num_j3 _ 16 (by omega) (by simp; omega)
  | false =>
    simp only [cond_Num_j5, Bool.false_eq_true, if_false]
    by_cases h1 : 1 < q.length
    · rw [li_t (show (1 : Int) < (q.length : Int) by omega), if_pos rfl, if_pos (show 0 < q.length by omega), num_j6 q hq h1, c48]
      by_cases h2 : q.getD 0 0 = 48
      · rw [if_pos (decide_eq_true h2), if_pos ⟨h1, h2⟩]
      · rw [if_neg (show ¬ decide (q.getD 0 0 = 48) = true by simpa using h2), if_neg (fun z => h2 z.2)]
    · rw [li_f (show ¬ (1 : Int) < (q.length : Int) by omega), if_neg (by decide), if_neg (fun z => h1 z.1)]
      simp only [cond_Num_j6, Bool.false_eq_true, if_false]
      exact num_j3 _ 10 (by omega) hq
theorem num_j2f (q : List UInt8) (hq : q.length ≤ 281474976710656) : cond_Num_j2 q false = some (.inr (numT q)) := by
  rw [cond_Num_j2, if_neg (by decide)]
  unfold numT inrO
  by_cases h2 : 2 < q.length
  · have e : (0 : Int) ≤ 0 ∧ 0 ≤ 2 ∧ 2 ≤ (q.length : Int) := by omega
    rw [li_t (show (2 : Int) < (q.length : Int) by omega), if_pos rfl, if_pos e]
    by_cases ha : q.take 2 = [48, 120]
    · rw [es_t ha, if_pos rfl, num_j5 q hq true (fun _ => h2), if_pos rfl, if_pos ⟨h2, Or.inl ha⟩]; rfl
    · rw [es_f ha, if_neg (by decide), if_pos e]
      by_cases hb : q.take 2 = [48, 88]
      · rw [es_t hb, num_j5 q hq true (fun _ => h2), if_pos rfl, if_pos ⟨h2, Or.inr hb⟩]; rfl
      · rw [es_f hb, num_j5 q hq false (by simp), if_neg (by decide), if_neg (show ¬ (2 < q.length ∧ (q.take 2 = [48, 120] ∨ q.take 2 = [48, 88])) from fun z => z.2.elim ha hb)]; rfl
  · rw [li_f (show ¬ (2 : Int) < (q.length : Int) by omega), if_neg (by decide), num_j5 q hq false (by simp), if_neg (by decide), if_neg (show ¬ (2 < q.length ∧ (q.take 2 = [48, 120] ∨ q.take 2 = [48, 88])) from fun z => h2 z.1)]; rfl
theorem cnum_loop : ∀ (n : Nat) (q : List UInt8), q.length ≤ n → q.length ≤ 281474976710656 → loopO cond_Num_b1 q = some (numT (strip q)) := by
  intro n
  induction n with
  | zero =>
    intro q h hq
    obtain rfl : q = [] := List.eq_nil_of_length_eq_zero (by omega)
    rw [loopO_eq, show cond_Num_b1 [] = cond_Num_j2 [] false from rfl, num_j2f [] hq]
    rfl
  | succ n ih =>
    intro q h hq
    rw [loopO_eq]
    cases hr : q.reverse with
    | nil =>
      obtain rfl : q = [] := List.reverse_eq_nil_iff.1 hr
      rw [show cond_Num_b1 [] = cond_Num_j2 [] false from rfl, num_j2f [] hq]
      rfl
    | cons c t =>
      have hqe : q = t.reverse ++ [c] := by rw [← List.reverse_reverse q, hr, List.reverse_cons]
      have hlen : q.length = t.length + 1 := by rw [hqe]; simp
      by_cases h1 : 1 < q.length
      · have ew : IntKind.i64.wrap ((q.length : Int) - 1) = (t.length : Int) := by rw [hlen]; exact wm1 _ (by omega)
        have eg : q.getD t.length 0 = c := by rw [hqe]; simp [List.getD_eq_getElem?_getD]
        have e0 : (0 : Int) ≤ (t.length : Int) ∧ t.length < q.length := by omega
        have et : q.take t.length = t.reverse := by rw [hqe, show t.length = t.reverse.length by simp, List.take_left]
        have hb : cond_Num_b1 q = cond_Num_j2 q (isUL c) := by
          unfold isUL
          rw [cond_Num_b1, li_t (show (1 : Int) < (q.length : Int) by omega), if_pos rfl, ew, Int.toNat_natCast, if_pos e0, eg]
          rw [c76, c85, c108, c117, if_pos e0, if_pos e0, if_pos e0]
          show (if decide (c = 76) = true then cond_Num_j2 q true else if decide (c = 85) = true then cond_Num_j2 q true else if decide (c = 108) = true then cond_Num_j2 q true else cond_Num_j2 q (decide (c = 117))) = _
          by_cases a1 : c = 76
          · simp [a1]
          by_cases a2 : c = 85
          · simp [a2]
          by_cases a3 : c = 108
          · simp [a3]
          simp [a1, a2, a3]
        rw [hb]
        cases hu : isUL c with
        | true =>
          simp only [cond_Num_j2, if_true]
          rw [ew, if_pos (show (0 : Int) ≤ 0 ∧ (0 : Int) ≤ (t.length : Int) ∧ (t.length : Int) ≤ (q.length : Int) by omega), Int.toNat_natCast, et]
          show loopO cond_Num_b1 t.reverse = _
          rw [ih t.reverse (by simp; omega) (by simp; omega)]
          have : strip q = strip t.reverse := by
            unfold strip
            rw [hr, List.reverse_reverse]
            cases t with
            | nil => simp at hlen; omega
            | cons d r => rw [stripR, if_pos hu]
          rw [this]
        | false =>
          rw [num_j2f q hq]
          have : strip q = q := by
            unfold strip
            rw [hr]
            cases t with
            | nil => simp at hlen; omega
            | cons d r => rw [stripR, if_neg (by simp [hu]), ← hr, List.reverse_reverse]
          rw [this]
      · have hb : cond_Num_b1 q = cond_Num_j2 q false := by
          rw [cond_Num_b1, li_f (show ¬ (1 : Int) < (q.length : Int) by omega), if_neg (by decide)]
        rw [hb, num_j2f q hq]
        have : strip q = q := by
          unfold strip
          rw [hr]
          cases t with
          | nil => rw [stripR, ← hr, List.reverse_reverse]
          | cons d r => simp at hlen; omega
        rw [this]
theorem num_eq (l : List UInt8) (h : l.length ≤ 281474976710656) : cond_Num l = some (numV l) := cnum_loop l.length l (Nat.le_refl _) h
end Go.Proofs.YtghmojcecefgjaaDoor
