/- splice: what its functions of data answer. Plain. -/
import Derived.Test.YtfkhlbhjhdpkoaaGreatDoorZcao
import Derived.Test.YtfkhlbhjhdpkoaaGreatDoorZcaw
import Derived.IntWalk
set_option linter.unusedVariables false
set_option linter.unusedSimpArgs false
namespace Go.Proofs.YtfkhlbhjhdpkoaaGreatDoor
open Go.RowKit
theorem wr (x : Int) (h : -9223372036854775808 ≤ x ∧ x ≤ 9223372036854775807) : IntKind.i64.wrap x = x := IntWalk.i64_in _ h
theorem tk_len {α : Type} {n : Nat} {l m : List α} (h : l.take n = m) : m.length ≤ l.length := by
 rw [← h]; simp; omega
theorem u8i (c : UInt8) (n : Nat) (h : n < 256) : ((c.toNat : Int) = (n : Int)) ↔ c = UInt8.ofNat n := by
 constructor
 ·intro h1
  have : c.toNat = n := by omega
  rw [← this]; simp
 rintro rfl; simp; omega
def joinsN (l : List UInt8) : Nat := if l.take 2 = [92, 10] then 2 else if l.take 3 = [92, 13, 10] then 3 else 0
theorem joins_eq (l : List UInt8) : XR l = some (joinsN l : Int) := by
 have a1 : l.take 2 = [92, 10] → 2 ≤ l.length := fun h => tk_len h
 have a2 : l.take 3 = [92, 13, 10] → 3 ≤ l.length := fun h => tk_len h
 unfold XR joinsN
 simp only [Zr, ZC, leI, eqS, decide_eq_true_eq]
 by_cases h2 : l.take 2 = [92, 10]
 ·have : (2 : Int) ≤ (l.length : Int) := by have := a1 h2; omega
  simp [h2, this]
 by_cases h3 : l.take 3 = [92, 13, 10]
 ·have h5 : (3 : Int) ≤ (l.length : Int) := by have := a2 h3; omega
  have h4 : (2 : Int) ≤ (l.length : Int) := by omega
  simp [h2, h3, h5, h4]
 by_cases h4 : (2 : Int) ≤ (l.length : Int) <;> by_cases h5 : (3 : Int) ≤ (l.length : Int) <;> simp [h2, h3, h4, h5]
def sp : Nat → Nat → List UInt8 → List (UInt8 × Nat)
 | _, _, [] => []
 | k + 1, i, _ :: r => sp k (i + 1) r
 | 0, i, c :: r => if joinsN (c :: r) > 0 then sp (joinsN (c :: r) - 1) (i + 1) r else if c = 13 ∧ r.head? = some 10 then sp 0 (i + 1) r else (c, i) :: sp 0 (i + 1) r
def spAt (l : List UInt8) (i : Nat) : List (UInt8 × Nat) := sp 0 i (l.drop i)
theorem sp_skip : ∀ (k i : Nat) (l : List UInt8), k ≤ l.length → sp k i l = sp 0 (i + k) (l.drop k)
 | 0, i, l, _ => by simp
 | k + 1, i, [], h => by simp at h
 | k + 1, i, _ :: r, h => by
  simp only [sp, List.drop_succ_cons]
  rw [sp_skip k (i + 1) r (by simpa using h)]
  congr 1; omega
theorem joinsN_le (l : List UInt8) : joinsN l ≤ l.length := by
 have a1 : l.take 2 = [92, 10] → 2 ≤ l.length := fun h => tk_len h
 have a2 : l.take 3 = [92, 13, 10] → 3 ≤ l.length := fun h => tk_len h
 unfold joinsN
 split
 ·exact a1 (by assumption)
 split
 ·exact a2 (by assumption)
 omega
theorem drop_cons (l : List UInt8) (i : Nat) (h : i < l.length) : l.drop i = l.getD i 0 :: l.drop (i + 1) := by
 rw [List.drop_eq_getElem_cons h]; simp [List.getD_eq_getElem?_getD, List.getElem?_eq_getElem h]
theorem spAt_join (l : List UInt8) (i : Nat) (h : 0 < joinsN (l.drop i)) : spAt l i = spAt l (i + joinsN (l.drop i)) := by
 have hle := joinsN_le (l.drop i)
 simp at hle
 have hi : i < l.length := by omega
 unfold spAt
 generalize hj : joinsN (l.drop i) = j at h hle ⊢
 rw [drop_cons l i hi] at hj ⊢
 simp only [sp, hj, gt_iff_lt, h, if_true]
 rw [sp_skip _ _ _ (by simp; omega), List.drop_drop]
 congr 1
 ·omega
 congr 1; omega
theorem spAt_cr (l : List UInt8) (i : Nat) (h : joinsN (l.drop i) = 0) (h1 : l.getD i 0 = 13) (h2 : i + 1 < l.length) (h3 : l.getD (i + 1) 0 = 10) : spAt l i = spAt l (i + 1) := by
 have hi : i < l.length := by omega
 unfold spAt
 rw [drop_cons l i hi] at h ⊢
 have h4 : (l.drop (i + 1)).head? = some 10 := by rw [drop_cons l (i + 1) h2, h3]; rfl
 rw [h1] at h ⊢
 simp only [sp, h, h4, and_self, if_true, gt_iff_lt, Nat.lt_irrefl, if_false]
theorem spAt_step (l : List UInt8) (i : Nat) (hi : i < l.length) (h : joinsN (l.drop i) = 0) (h1 : ¬ (l.getD i 0 = 13 ∧ i + 1 < l.length ∧ l.getD (i + 1) 0 = 10)) : spAt l i = (l.getD i 0, i) :: spAt l (i + 1) := by
 unfold spAt
 rw [drop_cons l i hi] at h ⊢
 have h2 : ¬ (l.getD i 0 = 13 ∧ (l.drop (i + 1)).head? = some 10) := by
  rintro ⟨a, b⟩
  refine h1 ⟨a, ?_⟩
  by_cases h3 : i + 1 < l.length
  ·rw [drop_cons l (i + 1) h3] at b
   simp at b
   exact ⟨h3, by simpa [List.getD_eq_getElem?_getD] using b⟩
  rw [List.drop_of_length_le (by omega)] at b
  cases b
 simp only [sp, h, h2, gt_iff_lt, Nat.lt_irrefl, if_false]
theorem spAt_end (l : List UInt8) (i : Nat) (h : l.length ≤ i) : spAt l i = [] := by
 unfold spAt; rw [List.drop_of_length_le h]; rfl
def spText (l : List UInt8) : List UInt8 := (spAt l 0).map (·.1)
def spPos (l : List UInt8) : List Nat := (spAt l 0).map (·.2) ++ [l.length]
def ints (l : List Nat) : List Int := l.map fun (n : Nat) => (n : Int)
theorem ints_length (l : List Nat) : (ints l).length = l.length := by simp [ints]
theorem ints_snoc (l : List Nat) (n : Nat) : ints l ++ [(n : Int)] = ints (l ++ [n]) := by simp [ints]
def spS (l : List UInt8) : Spliced := ⟨spText l, ints (spPos l)⟩
def textI (l : List UInt8) (s : List UInt8 × List Int × Int × List UInt8) : Prop := ∃ (i : Nat) (T : List UInt8) (A : List Nat), s = (T, ints A, (i : Int), []) ∧ i ≤ l.length ∧ spAt l 0 = T.zip A ++ spAt l i ∧ T.length = A.length ∧ T.length ≤ i
theorem text_eq (l : List UInt8) (hl : l.length ≤ 1099511627776) : JaA l = some (spS l) := by
 unfold JaA
 obtain ⟨r, h1, h2⟩ := loopO_rule (b := Z4 l)
  (textI l)
  (fun s => l.length - s.2.2.1.toNat) (fun r => r = spS l) (by
   rintro _ ⟨i, T, A, rfl, hi, hsp, hTA, hTi⟩
   have hj := joinsN_le (l.drop i)
   rw [List.length_drop] at hj
   simp only [Z4, ltI, decide_eq_true_eq, Int.toNat_natCast, joins_eq, Option.bind_some]
   by_cases hil : i < l.length
   ·rw [if_pos (by omega), if_pos (by omega)]
    by_cases hj0 : 0 < joinsN (l.drop i)
    ·rw [if_pos (by omega), if_pos (by omega), wr _ (by omega)]
     refine ⟨_, rfl, ⟨i + joinsN (l.drop i), T, A, ?_, by omega, by rw [hsp, spAt_join l i hj0], hTA, by omega⟩, ?_⟩
     ·simp
     simp; omega
    rw [if_neg (by omega), if_pos (by omega)]
    have hj0 : joinsN (l.drop i) = 0 := by omega
    have w1 : IntKind.i64.wrap ((i : Int) + 1) = ((i + 1 : Nat) : Int) := by rw [wr _ (by omega)]; simp
    have step : (¬ (l.getD i 0 = 13 ∧ i + 1 < l.length ∧ l.getD (i + 1) 0 = 10)) → textI l (T ++ [l.getD i 0], ints A ++ [(i : Int)], ((i + 1 : Nat) : Int), []) := fun hn =>
     ⟨i + 1, T ++ [l.getD i 0], A ++ [i], by rw [ints_snoc], by omega, by rw [hsp, spAt_step l i hil hj0 hn, List.zip_append hTA]; simp, by simp [hTA], by simp; omega⟩
    simp only [XP, w1, Int.toNat_natCast, eqI, decide_eq_true_eq]
    clear w1
    have c13 : ((l.getD i 0).toNat : Int) = 13 ↔ l.getD i 0 = 13 := u8i _ 13 (by decide)
    have c10 : ((l.getD (i + 1) 0).toNat : Int) = 10 ↔ l.getD (i + 1) 0 = 10 := u8i _ 10 (by decide)
    have b1 : (T.length + [l.getD i 0].length) * 1 ≤ 140737488355328 := by simp; omega
    have b2 : ((ints A).length + [(i : Int)].length) * 8 ≤ 140737488355328 := by simp [ints_length]; omega
    by_cases h13 : l.getD i 0 = 13
    ·rw [if_pos (c13.2 h13)]
     by_cases hil1 : i + 1 < l.length
     ·rw [if_pos (by omega), if_pos (by omega)]
      by_cases h10 : l.getD (i + 1) 0 = 10
      ·rw [if_pos (c10.2 h10)]
       exact ⟨_, rfl, ⟨i + 1, T, A, rfl, by omega, by rw [hsp, spAt_cr l i hj0 h13 hil1 h10], hTA, by omega⟩, by simp; omega⟩
      rw [if_neg (fun h => h10 (c10.1 h)), if_pos (by omega), if_pos b1, if_pos b2]
      exact ⟨_, rfl, step (fun h => h10 h.2.2), by simp; omega⟩
     rw [if_neg (by omega)]
     simp only [Bool.false_eq_true, if_false]
     rw [if_pos (by omega), if_pos b1, if_pos b2]
     exact ⟨_, rfl, step (fun h => hil1 h.2.1), by simp; omega⟩
    rw [if_neg (fun h => h13 (c13.1 h))]
    simp only [Bool.false_eq_true, if_false]
    rw [if_pos (by omega), if_pos b1, if_pos b2]
    exact ⟨_, rfl, step (fun h => h13 h.1), by simp; omega⟩
   have hil : i = l.length := by omega
   rw [spAt_end l i (by omega), List.append_nil] at hsp
   rw [if_neg (by omega)]
   have e1 : spText l = T := by unfold spText; rw [hsp]; simp [List.map_fst_zip, hTA]
   have e2 : spPos l = A ++ [l.length] := by unfold spPos; rw [hsp]; simp [List.map_snd_zip, hTA]
   have b2 : ((ints A).length + [(l.length : Int)].length) * 8 ≤ 140737488355328 := by simp [ints_length]; omega
   rw [if_pos b2]
   refine ⟨_, rfl, ?_⟩
   simp [spS, e1, e2, ints]) ([], [], 0, []) ⟨0, [], [], by simp [ints], by omega, by simp, rfl, by simp⟩
 rw [h1, h2]
end Go.Proofs.YtfkhlbhjhdpkoaaGreatDoor
namespace Go.Proofs.YtfkhlbhjhdpkoaaGreatDoor
open Go.RowKit
def lineN (l : List UInt8) (k : Nat) : Nat := 1 + ((l.take k).filter (· = 10)).length
theorem lineN_succ (l : List UInt8) (k : Nat) (h : k < l.length) : lineN l (k + 1) = lineN l k + if l.getD k 0 = 10 then 1 else 0 := by
 unfold lineN
 rw [List.take_succ_eq_append_getElem h, List.filter_append]
 have : l.getD k 0 = l[k] := by simp [List.getD_eq_getElem?_getD, List.getElem?_eq_getElem h]
 rw [this]
 by_cases h10 : l[k] = 10 <;> simp [h10]; omega
theorem lineN_le (l : List UInt8) (k : Nat) : lineN l k ≤ 1 + k := by
 unfold lineN
 have h1 := List.length_filter_le (fun c : UInt8 => decide (c = 10)) (l.take k)
 have h2 := List.length_take_le k l
 omega
def kAt (l : List UInt8) (n : Int) : Nat := min n.toNat l.length
theorem lines_eq (l : List UInt8) (n : Int) (hl : l.length ≤ 1099511627776) : ZU l n = some (lineN l (kAt l n) : Int) := by
 unfold ZU
 have e0 : (if (l.length : Int) < (if 0 > n then 0 else n) then (l.length : Int) else (if 0 > n then 0 else n)) = (kAt l n : Int) := by
  unfold kAt
  split <;> split <;> omega
 rw [e0]
 have hk : kAt l n ≤ l.length := by unfold kAt; omega
 generalize kAt l n = k at hk
 obtain ⟨r, h1, h2⟩ := loopO_rule (b := Zo l) (fun s => ∃ i : Nat, s = ((lineN l i : Int), (k : Int), (i : Int)) ∧ i ≤ k) (fun s => k - s.2.2.toNat) (fun r => r = (lineN l k : Int)) (by
  rintro _ ⟨i, rfl, hi⟩
  simp only [Zo, ltI, decide_eq_true_eq, Int.toNat_natCast]
  have hn := lineN_le l i
  by_cases hik : i < k
  ·rw [if_pos (by omega), if_pos (by omega)]
   have hs := lineN_succ l i (by omega)
   have c10 : ((l.getD i 0).toNat : Int) = 10 ↔ l.getD i 0 = 10 := u8i _ 10 (by decide)
   simp only [eqI, decide_eq_true_eq, ZD]
   rw [wr ((i : Int) + 1) (by omega)]
   by_cases h10 : l.getD i 0 = 10
   ·rw [if_pos (c10.2 h10), wr _ (by omega)]
    rw [if_pos h10] at hs
    exact ⟨_, rfl, ⟨i + 1, by rw [hs]; simp, by omega⟩, by simp; omega⟩
   rw [if_neg (fun h => h10 (c10.1 h))]
   rw [if_neg h10] at hs
   exact ⟨_, rfl, ⟨i + 1, by rw [hs]; simp, by omega⟩, by simp; omega⟩
  rw [if_neg (by omega)]
  have : i = k := by omega
  subst this
  exact ⟨_, rfl, rfl⟩) (1, (k : Int), 0) ⟨0, by simp [lineN], by omega⟩
 rw [h1, h2]
theorem ints_getD (A : List Nat) (k : Nat) (h : k < A.length) (d : Int) : (ints A).getD k d = ((A.getD k 0 : Nat) : Int) := by
 simp [ints, List.getD_eq_getElem?_getD, List.getElem?_eq_getElem h]
def whereN (A : List Nat) (n : Int) : Int := if n < 0 ∨ (A.length : Int) ≤ n then -1 else ((A.getD n.toNat 0 : Nat) : Int)
theorem where_eq (T : List UInt8) (A : List Nat) (n : Int) : KN ⟨T, ints A⟩ n = some (whereN A n) := by
 unfold KN whereN
 simp only [Zs, ltI, leI, decide_eq_true_eq, ints_length]
 by_cases h1 : n < 0
 ·simp [h1]
 by_cases h2 : (A.length : Int) ≤ n
 ·simp [h1, h2]
 rw [if_neg h1, if_neg h2, if_pos (by omega), if_neg (by omega), ints_getD A _ (by omega)]
theorem sp_facts : ∀ (l : List UInt8) (k i : Nat), (∀ p ∈ sp k i l, i ≤ p.2 ∧ p.2 < i + l.length) ∧ ((sp k i l).map (·.2)).Pairwise (· < ·) ∧ (sp k i l).length ≤ l.length
 | [], k, i => by
  cases k <;> simp [sp]
 | c :: r, k, i => by
  have ih := fun k => sp_facts r k (i + 1)
  have up : ∀ k, (∀ p ∈ sp k (i + 1) r, i ≤ p.2 ∧ p.2 < i + (c :: r).length) ∧ ((sp k (i + 1) r).map (·.2)).Pairwise (· < ·) ∧ (sp k (i + 1) r).length ≤ (c :: r).length := fun k => by
   obtain ⟨h1, h2, h3⟩ := ih k
   refine ⟨fun p hp => ?_, h2, by simp; omega⟩
   have := h1 p hp
   simp; omega
  cases k with
  | succ k => simp only [sp]; exact up k
  | zero =>
   simp only [sp]
   split
   ·exact up _
   split
   ·exact up _
   obtain ⟨h1, h2, h3⟩ := ih 0
   refine ⟨fun p hp => ?_, ?_, by simp; omega⟩
   ·rcases List.mem_cons.1 hp with rfl | hp
    ·simp
    have := h1 p hp
    simp; omega
   rw [List.map_cons, List.pairwise_cons]
   refine ⟨fun q hq => ?_, h2⟩
   obtain ⟨p, hp, rfl⟩ := List.mem_map.1 hq
   have := h1 p hp
   show i < p.2
   omega
theorem spPos_le (l : List UInt8) : ∀ a ∈ spPos l, a ≤ l.length := by
 obtain ⟨h1, _, _⟩ := sp_facts l 0 0
 unfold spPos spAt
 rw [List.drop_zero]
 intro a ha
 rcases List.mem_append.1 ha with ha | ha
 ·obtain ⟨p, hp, rfl⟩ := List.mem_map.1 ha
  have := h1 p hp
  omega
 simp only [List.mem_singleton] at ha
 omega
theorem spPos_length (l : List UInt8) : (spPos l).length = (spText l).length + 1 := by
 simp [spPos, spText]
end Go.Proofs.YtfkhlbhjhdpkoaaGreatDoor
namespace Go.Proofs.YtfkhlbhjhdpkoaaGreatDoor
open Go.RowKit
def isLet (c : UInt8) : Bool := (decide (97 ≤ c.toNat) && decide (c.toNat ≤ 122)) || ((decide (65 ≤ c.toNat) && decide (c.toNat ≤ 90)) || decide (c.toNat = 95))
def isDig (c : UInt8) : Bool := decide (48 ≤ c.toNat) && decide (c.toNat ≤ 57)
def isWd (c : UInt8) : Bool := isLet c || isDig c
def runN (p : UInt8 → Bool) (l : List UInt8) : Nat := (l.takeWhile p).length
def inNum (pr c : UInt8) : Bool := ((decide (c = 43) || decide (c = 45)) && (decide (pr = 101) || decide (pr = 69))) || (decide (c = 46) || isWd c)
def numN : UInt8 → List UInt8 → Nat
 | _, [] => 0
 | pr, c :: r => if inNum pr c = true then numN c r + 1 else 0
def quoN (q : UInt8) : List UInt8 → Option Nat
 | [] => none
 | c :: r => if c = 10 then none else if c = q then some 1 else if c = 92 then (match r with | [] => none | d :: r' => if d = 10 then none else (quoN q r').map (· + 2)) else (quoN q r).map (· + 1)
def pathN (l : List UInt8) : Option Nat := if (l.drop (runN (fun c => decide (c ≠ 62) && decide (c ≠ 10)) l)).head? = some 62 then some (runN (fun c => decide (c ≠ 62) && decide (c ≠ 10)) l + 1) else none
def signs3 : List (List UInt8) := [[46, 46, 46], [60, 60, 61], [62, 62, 61]]
def signs2 : List (List UInt8) := [[45, 62], [43, 43], [45, 45], [60, 60], [62, 62], [60, 61], [62, 61], [61, 61], [33, 61], [38, 38], [124, 124], [43, 61], [45, 61], [42, 61], [47, 61], [37, 61], [38, 61], [124, 61], [94, 61], [35, 35]]
def signs1 : List (List UInt8) := [[91], [93], [40], [41], [123], [125], [46], [38], [42], [43], [45], [126], [33], [47], [37], [60], [62], [94], [124], [63], [58], [59], [61], [44], [35]]
def signsL : List (List UInt8) := signs3 ++ signs2 ++ signs1
def signN (l : List UInt8) : Nat := if signs3.contains (l.take 3) = true then 3 else if signs2.contains (l.take 2) = true then 2 else if signs1.contains (l.take 1) = true then 1 else 0
def piece (l : List UInt8) (path : Bool) : Int × Option Nat :=
 match l with
 | [] => (6, none)
 | c :: r =>
  if isLet c = true then (1, some (runN isWd (c :: r)))
  else if (isDig c || (decide (c = 46) && (r.head?.map isDig).getD false)) = true then (2, some (numN 0 (c :: r)))
  else if c = 34 then (4, (quoN 34 r).map (· + 1))
  else if c = 39 then (3, (quoN 39 r).map (· + 1))
  else if c = 60 ∧ path = true ∧ (pathN r).isSome = true then (7, (pathN r).map (· + 1))
  else if 0 < signN (c :: r) then (5, some (signN (c :: r)))
  else (6, some 1)
def isBl (c : UInt8) : Bool := decide (c = 32) || (decide (c = 9) || (decide (c = 10) || decide (c = 13)))
def lineL (l : List UInt8) : Nat := runN (fun c => decide (c ≠ 10)) l
def endC : List UInt8 → Option Nat
 | [] => none
 | c :: r => if c = 42 ∧ r.head? = some 47 then some 0 else (endC r).map (· + 1)
def skF : Nat → List UInt8 → Nat × Bool × Bool
 | 0, _ => (0, false, true)
 | _ + 1, [] => (0, false, true)
 | n + 1, c :: r =>
  if isBl c = true then ((skF n r).1 + 1, decide (c = 10) || (skF n r).2.1, (skF n r).2.2)
  else if c = 47 ∧ r.head? = some 47 then ((skF n ((c :: r).drop (lineL (c :: r)))).1 + lineL (c :: r), (skF n ((c :: r).drop (lineL (c :: r)))).2)
  else if c = 47 ∧ r.head? = some 42 then
   match endC (r.drop 1) with
   | none => (0, false, false)
   | some j => ((skF n (r.drop (j + 3))).1 + (j + 4), (skF n (r.drop (j + 3))).2)
  else (0, false, true)
def skip (l : List UInt8) : Nat × Bool × Bool := skF l.length l
theorem endC_lt : ∀ {l : List UInt8} {j : Nat}, endC l = some j → j + 2 ≤ l.length
 | [], j, h => by cases h
 | c :: r, j, h => by
  simp only [endC] at h
  split at h
  ·rename_i hc
   cases r with
   | nil => simp at hc
   | cons d r => cases h; simp
  cases he : endC r with
  | none => rw [he] at h; cases h
  | some k =>
   rw [he] at h
   simp only [Option.map_some, Option.some.injEq] at h
   have := endC_lt he
   simp only [List.length_cons]; omega
theorem lineL_pos {c : UInt8} {r : List UInt8} (h : c ≠ 10) : 0 < lineL (c :: r) := by simp [lineL, runN, List.takeWhile_cons, h]
theorem runN_le (p : UInt8 → Bool) (l : List UInt8) : runN p l ≤ l.length := by
 unfold runN
 have := (List.takeWhile_sublist p (l := l)).length_le
 exact this
theorem skF_enough : ∀ (n m : Nat) (l : List UInt8), l.length ≤ n → l.length ≤ m → skF n l = skF m l
 | n, m, [], _, _ => by cases n <;> cases m <;> rfl
 | 0, _, c :: r, h, _ => by simp at h
 | _, 0, c :: r, _, h => by simp at h
 | n + 1, m + 1, c :: r, h1, h2 => by
  simp only [List.length_cons] at h1 h2
  have e1 : skF n r = skF m r := skF_enough n m r (by omega) (by omega)
  simp only [skF, e1]
  split
  ·rfl
  split
  ·rename_i hc
   have hp := lineL_pos (c := c) (r := r) (by rw [hc.1]; decide)
   have e2 : skF n ((c :: r).drop (lineL (c :: r))) = skF m ((c :: r).drop (lineL (c :: r))) := skF_enough n m _ (by simp; omega) (by simp; omega)
   rw [e2]
  split
  ·split
   ·rfl
   rename_i j hj
   have e3 : skF n (r.drop (j + 3)) = skF m (r.drop (j + 3)) := skF_enough n m _ (by simp; omega) (by simp; omega)
   rw [e3]
  rfl
theorem skip_nil : skip [] = (0, false, true) := rfl
theorem skip_bl {c : UInt8} {r : List UInt8} (h : isBl c = true) : skip (c :: r) = ((skip r).1 + 1, decide (c = 10) || (skip r).2.1, (skip r).2.2) := by
 unfold skip
 simp only [List.length_cons, skF, h, if_true]
theorem skip_line {r : List UInt8} (h : r.head? = some 47) : skip (47 :: r) = ((skip ((47 :: r).drop (lineL (47 :: r)))).1 + lineL (47 :: r), (skip ((47 :: r).drop (lineL (47 :: r)))).2) := by
 have hp := lineL_pos (c := 47) (r := r) (by decide)
 have e : skF r.length ((47 :: r).drop (lineL (47 :: r))) = skip ((47 :: r).drop (lineL (47 :: r))) := skF_enough _ _ _ (by simp; omega) (Nat.le_refl _)
 conv => lhs; unfold skip
 simp only [List.length_cons, skF, h, and_self, if_true, e]
 rfl
theorem skip_note {r : List UInt8} {j : Nat} (h : r.head? = some 42) (hj : endC (r.drop 1) = some j) : skip (47 :: r) = ((skip (r.drop (j + 3))).1 + (j + 4), (skip (r.drop (j + 3))).2) := by
 have e : skF r.length (r.drop (j + 3)) = skip (r.drop (j + 3)) := skF_enough _ _ _ (by simp) (Nat.le_refl _)
 conv => lhs; unfold skip
 simp only [List.length_cons, skF, h, hj, e]
 rfl
theorem skip_open {r : List UInt8} (h : r.head? = some 42) (hj : endC (r.drop 1) = none) : skip (47 :: r) = (0, false, false) := by
 conv => lhs; unfold skip
 simp only [List.length_cons, skF, h, hj]
 rfl
theorem skip_stop {c : UInt8} {r : List UInt8} (h : isBl c = false) (h1 : ¬ (c = 47 ∧ r.head? = some 47)) (h2 : ¬ (c = 47 ∧ r.head? = some 42)) : skip (c :: r) = (0, false, true) := by
 unfold skip
 simp only [List.length_cons, skF, h, h1, h2, if_false, Bool.false_eq_true]
theorem skip_le : ∀ (n : Nat) (l : List UInt8), l.length ≤ n → (skip l).1 ≤ l.length
 | _, [], _ => by simp [skip_nil]
 | 0, c :: r, h => by simp at h
 | n + 1, c :: r, h => by
  simp only [List.length_cons] at h
  by_cases hb : isBl c = true
  ·rw [skip_bl hb]
   have := skip_le n r (by omega)
   simp only [List.length_cons]; omega
  by_cases h1 : c = 47 ∧ r.head? = some 47
  ·obtain ⟨rfl, h1⟩ := h1
   rw [skip_line h1]
   have hp := lineL_pos (c := 47) (r := r) (by decide)
   have hl := runN_le (fun c => decide (c ≠ 10)) (47 :: r)
   have := skip_le n ((47 :: r).drop (lineL (47 :: r))) (by simp; omega)
   simp only [List.length_drop, List.length_cons] at this hl ⊢
   unfold lineL at *
   omega
  by_cases h2 : c = 47 ∧ r.head? = some 42
  ·obtain ⟨rfl, h2⟩ := h2
   cases hj : endC (r.drop 1) with
   | none => rw [skip_open h2 hj]; simp
   | some j =>
    rw [skip_note h2 hj]
    have hl := endC_lt hj
    have := skip_le n (r.drop (j + 3)) (by simp; omega)
    simp only [List.length_drop, List.length_cons] at this hl ⊢
    omega
  rw [skip_stop (by simpa using hb) h1 h2]; simp
structure Raw where
 kind : Int
 pos : Nat
 len : Nat
 sp : Bool
 fst : Bool
 txt : List UInt8
 deriving DecidableEq
def incT : List UInt8 := [105, 110, 99, 108, 117, 100, 101]
def nextP (st : Nat) (txt : List UInt8) (fst : Bool) : Nat := if fst = true ∧ txt = [35] then 1 else if st = 1 ∧ fst = false ∧ txt = incT then 2 else 0
def lxF : Nat → List UInt8 → Nat → Nat → Bool → List Raw × Option Nat
 | 0, _, _, _, _ => ([], none)
 | n + 1, l, i, st, f0 =>
  if (skip l).2.2 = false then ([], some (i + (skip l).1)) else
  if l.drop (skip l).1 = [] then ([], none) else
  match piece (l.drop (skip l).1) (!(f0 || (skip l).2.1) && decide (st = 2)) with
  | (_, none) => ([], some (i + (skip l).1))
  | (kind, some m) =>
   let t := (l.drop (skip l).1).take m
   let x := lxF n ((l.drop (skip l).1).drop m) (i + (skip l).1 + m) (nextP st t (f0 || (skip l).2.1)) false
   (⟨kind, i + (skip l).1, m, decide (0 < (skip l).1), f0 || (skip l).2.1, t⟩ :: x.1, x.2)
theorem signN_pos_le (l : List UInt8) : signN l ≤ l.length := by
 have key : ∀ (S : List (List UInt8)) (k : Nat), (∀ s ∈ S, s.length = k) → S.contains (l.take k) = true → k ≤ l.length := fun S k hS hc => by
  have hm : l.take k ∈ S := by simpa using hc
  have := hS _ hm
  simp at this; omega
 unfold signN
 split
 ·exact key signs3 3 (by decide) (by assumption)
 split
 ·exact key signs2 2 (by decide) (by assumption)
 split
 ·exact key signs1 1 (by decide) (by assumption)
 omega
theorem numN_le : ∀ (pr : UInt8) (l : List UInt8), numN pr l ≤ l.length
 | _, [] => by simp [numN]
 | pr, c :: r => by
  simp only [numN]
  split
  ·have := numN_le c r; simp; omega
  simp
theorem quoN_le (q : UInt8) : ∀ (n : Nat) (l : List UInt8), l.length ≤ n → ∀ m, quoN q l = some m → 0 < m ∧ m ≤ l.length
 | _, [], _, m, h => by simp [quoN] at h
 | 0, c :: r, h, _, _ => by simp at h
 | n + 1, c :: r, hn, m, h => by
  simp only [List.length_cons] at hn
  unfold quoN at h
  split at h
  ·cases h
  split at h
  ·cases h; simp
  split at h
  ·cases r with
   | nil => cases h
   | cons d r' =>
    simp only at h
    split at h
    ·cases h
    cases hq : quoN q r' with
    | none => rw [hq] at h; cases h
    | some k =>
     rw [hq] at h
     cases h
     simp only [List.length_cons] at hn
     have := quoN_le q n r' (by omega) k hq
     simp; omega
  cases hq : quoN q r with
  | none => rw [hq] at h; cases h
  | some k =>
   rw [hq] at h
   cases h
   have := quoN_le q n r (by omega) k hq
   simp; omega
theorem pathN_le {l : List UInt8} {m : Nat} (h : pathN l = some m) : 0 < m ∧ m ≤ l.length := by
 unfold pathN at h
 split at h
 ·rename_i hh
  cases h
  refine ⟨by omega, ?_⟩
  have hlt : runN (fun c => decide (c ≠ 62) && decide (c ≠ 10)) l < l.length := by
   rcases Nat.lt_or_ge (runN (fun c => decide (c ≠ 62) && decide (c ≠ 10)) l) l.length with h | h
   ·exact h
   rw [List.drop_of_length_le h] at hh; cases hh
  omega
 cases h
theorem piece_le {l : List UInt8} {path : Bool} {k : Int} {m : Nat} (h : piece l path = (k, some m)) : 0 < m ∧ m ≤ l.length := by
 unfold piece at h
 split at h
 ·cases h
 rename_i c r
 split at h
 ·rename_i hc
  cases h
  refine ⟨?_, runN_le _ _⟩
  simp [runN, List.takeWhile_cons, isWd, hc]
 split at h
 ·rename_i hc
  cases h
  refine ⟨?_, numN_le _ _⟩
  have : inNum 0 c = true := by
   simp only [Bool.or_eq_true, Bool.and_eq_true, decide_eq_true_eq] at hc
   unfold inNum isWd
   rcases hc with hc | ⟨hc, _⟩ <;> simp [hc]
  simp [numN, this]
 split at h
 ·simp only [Prod.mk.injEq] at h
  cases hq : quoN 34 r with
  | none => rw [hq] at h; cases h.2
  | some j =>
   rw [hq] at h
   have := quoN_le 34 r.length r (Nat.le_refl _) j hq
   obtain ⟨_, h⟩ := h
   cases h
   simp; omega
 split at h
 ·simp only [Prod.mk.injEq] at h
  cases hq : quoN 39 r with
  | none => rw [hq] at h; cases h.2
  | some j =>
   rw [hq] at h
   have := quoN_le 39 r.length r (Nat.le_refl _) j hq
   obtain ⟨_, h⟩ := h
   cases h
   simp; omega
 split at h
 ·simp only [Prod.mk.injEq] at h
  cases hq : pathN r with
  | none => rw [hq] at h; cases h.2
  | some j =>
   rw [hq] at h
   have := pathN_le hq
   obtain ⟨_, h⟩ := h
   cases h
   simp; omega
 split at h
 ·cases h
  exact ⟨by assumption, signN_pos_le _⟩
 cases h; simp
def tokOf (file : Int) (text : List UInt8) (r : Raw) : Token :=
 ⟨r.kind, r.txt, r.sp, r.fst, file, (((spPos text).getD r.pos 0 : Nat) : Int), (((spPos text).getD (r.pos + r.len - 1) 0 + 1 : Nat) : Int), ((lineN text ((spPos text).getD r.pos 0) : Nat) : Int), [], [], 0⟩
def raws (text : List UInt8) : List Raw × Option Nat := lxF ((spText text).length + 1) (spText text) 0 0 true
def toksV (file : Int) (text : List UInt8) : List Token × Fault :=
 if 3000 < text.length then ([], ⟨4, file, 0⟩) else
 match raws text with
 | (ts, none) => (ts.map (tokOf file text), ⟨0, -1, 0⟩)
 | (_, some p) => ([], ⟨9, file, (((spPos text).getD p 0 : Nat) : Int)⟩)
end Go.Proofs.YtfkhlbhjhdpkoaaGreatDoor
namespace Go.Proofs.YtfkhlbhjhdpkoaaGreatDoor
open Go.RowKit
theorem chr (c m : UInt8) (n : Int) (h : (m.toNat : Int) = n) : eqI (c.toNat : Int) n = decide (c = m) := by
 unfold eqI
 by_cases hc : c = m
 ·subst hc; simp [h]
 have : ¬ (c.toNat : Int) = n := fun h2 => hc (UInt8.toNat_inj.1 (by omega))
 simp [hc, this]
theorem chr2 (c m : UInt8) : eqI (c.toNat : Int) (m.toNat : Int) = decide (c = m) := chr c m _ rfl
theorem wN1 (k : Nat) (h : k ≤ 4611686018427387904) : IntKind.i64.wrap ((k : Int) + 1) = ((k + 1 : Nat) : Int) := by rw [wr _ (by omega)]; omega
theorem wN2 (k : Nat) (h : k ≤ 4611686018427387904) : IntKind.i64.wrap ((k : Int) + 2) = ((k + 2 : Nat) : Int) := by rw [wr _ (by omega)]; omega
theorem wNm (k : Nat) (h : 0 < k ∧ k ≤ 4611686018427387904) : IntKind.i64.wrap ((k : Int) - 1) = ((k - 1 : Nat) : Int) := by rw [wr _ (by omega)]; omega
theorem letter_eq (c : UInt8) : ZA c = some (isLet c) := by
 unfold ZA isLet
 simp only [J8, leI, eqI, decide_eq_true_eq]
 repeat' split
 all_goals (simp only [Option.some.injEq]; rw [Bool.eq_iff_iff]; simp; try omega)
theorem digit_eq (c : UInt8) : ZB c = some (isDig c) := by
 unfold ZB isDig
 simp only [JaX, leI, decide_eq_true_eq]
 repeat' split
 all_goals (simp only [Option.some.injEq]; rw [Bool.eq_iff_iff]; simp; try omega)
theorem wd_eq (c : UInt8) : Xc c = some (isWd c) := by
 unfold Xc isWd
 simp only [letter_eq, digit_eq, Option.bind_some, VT]
 by_cases h : isLet c = true <;> simp [h]
theorem while_loop {R : Type} {b : Int → Option (Int ⊕ R)} (u : List UInt8) (p : UInt8 → Bool) (f : Nat → R)
  (hb : ∀ k : Nat, k ≤ u.length → b (k : Int) = if k < u.length ∧ p (u.getD k 0) = true then some (.inl ((k + 1 : Nat) : Int)) else some (.inr (f k))) :
  ∀ (n k : Nat), k ≤ u.length → u.length - k ≤ n → loopO b (k : Int) = some (f (k + runN p (u.drop k)))
 | 0, k, hk, hn => by
  have : k = u.length := by omega
  subst this
  rw [loopO_eq, hb _ hk, if_neg (by simp)]
  simp [runN]
 | n + 1, k, hk, hn => by
  rw [loopO_eq, hb k hk]
  by_cases h : k < u.length
  ·rw [drop_cons u k h]
   by_cases hp : p (u.getD k 0) = true
   ·rw [if_pos ⟨h, hp⟩]
    simp only
    rw [while_loop u p f hb n (k + 1) (by omega) (by omega)]
    simp only [runN, List.takeWhile_cons, hp, if_true, List.length_cons]
    congr 2; omega
   rw [if_neg (fun h => hp h.2)]
   simp only [runN, List.takeWhile_cons, hp, if_false, List.length_nil, Nat.add_zero, Bool.false_eq_true]
  rw [if_neg (fun h' => h h'.1), List.drop_of_length_le (by omega)]
  simp [runN]
theorem find_loop {A R : Type} [Inhabited A] {b : Int × Int → Option ((Int × Int) ⊕ R)} (l : List A) (p : A → Bool) (f : A → R) (d : R)
  (hb : ∀ j : Nat, j ≤ l.length → b ((l.length : Int), (j : Int)) = if j < l.length then (if p (l.getD j default) = true then some (.inr (f (l.getD j default))) else some (.inl ((l.length : Int), ((j + 1 : Nat) : Int)))) else some (.inr d)) :
  ∀ (n j : Nat), j ≤ l.length → l.length - j ≤ n → loopO b ((l.length : Int), (j : Int)) = some (((l.drop j).find? p).elim d f)
 | 0, j, hj, hn => by
  have : j = l.length := by omega
  subst this
  rw [loopO_eq, hb _ hj, if_neg (by simp)]
  simp
 | n + 1, j, hj, hn => by
  rw [loopO_eq, hb j hj]
  by_cases h : j < l.length
  ·have e : l.drop j = l.getD j default :: l.drop (j + 1) := by rw [List.drop_eq_getElem_cons h]; simp [List.getD_eq_getElem?_getD, List.getElem?_eq_getElem h]
   rw [if_pos h, e, List.find?_cons]
   by_cases hp : p (l.getD j default) = true
   ·rw [if_pos hp, hp]; rfl
   rw [if_neg hp]
   simp only
   rw [find_loop l p f d hb n (j + 1) (by omega) (by omega)]
   have hp : p (l.getD j default) = false := by simpa using hp
   rw [hp]
  rw [if_neg h, List.drop_of_length_le (by omega)]
  rfl
section
variable (x : Spliced) (txt : List UInt8) (file : Int) (out : List Token)
theorem while81_eq (a : Int) (hx : x.Text.length ≤ 1099511627776) (k : Nat) (hk : k ≤ x.Text.length) : VQ (k : Int) x.Text x.At txt file a out = some ((k + runN isWd (x.Text.drop k) : Nat) : Int) := by
 unfold VQ
 refine while_loop x.Text isWd (fun k => ((k : Nat) : Int)) (fun k hk => ?_) _ k hk (Nat.le_refl _)
 simp only [Xb, Kx, ltI, decide_eq_true_eq, Int.toNat_natCast, wd_eq, Option.bind_some, inrO]
 by_cases h : k < x.Text.length
 ·rw [if_pos (by omega), if_pos (by omega), wN1 k (by omega)]
  by_cases hp : isWd (x.Text.getD k 0) = true <;> simp [h, hp]
 rw [if_neg (by omega)]; simp [h]
theorem while80_eq (a : Int) (hx : x.Text.length ≤ 1099511627776) (k : Nat) (hk : k ≤ x.Text.length) : Zu (k : Int) x.Text x.At txt file a out = some ((k + lineL (x.Text.drop k) : Nat) : Int) := by
 unfold Zu
 refine while_loop x.Text (fun c => decide (c ≠ 10)) (fun k => ((k : Nat) : Int)) (fun k hk => ?_) _ k hk (Nat.le_refl _)
 simp only [Zw, VN, Xp, ltI, decide_eq_true_eq, Int.toNat_natCast, Option.bind_some, inrO, chr _ 10 10 rfl]
 by_cases h : k < x.Text.length
 ·rw [if_pos (by omega), if_pos (by omega), wN1 k (by omega)]
  generalize x.Text.getD k 0 = c
  by_cases hp : c = 10
  ·rw [hp]; simp
  simp [hp, h]
 rw [if_neg (by omega)]; simp [h]
theorem while109_eq (a : Int) (hx : x.Text.length ≤ 1099511627776) (k : Nat) (hk : k ≤ x.Text.length) : VK (k : Int) x.Text x.At txt file a out = some ((k + runN (fun c => decide (c ≠ 62) && decide (c ≠ 10)) (x.Text.drop k) : Nat) : Int) := by
 unfold VK
 refine while_loop x.Text (fun c => decide (c ≠ 62) && decide (c ≠ 10)) (fun k => ((k : Nat) : Int)) (fun k hk => ?_) _ k hk (Nat.le_refl _)
 simp only [V8, Kz, XS, Vm, ltI, decide_eq_true_eq, Int.toNat_natCast, inrO, chr _ 10 10 rfl, chr _ 62 62 rfl]
 by_cases h : k < x.Text.length
 ·rw [if_pos (by omega), if_pos (by omega), wN1 k (by omega)]
  generalize x.Text.getD k 0 = c
  by_cases hp : c = 10
  ·rw [hp]; simp
  by_cases hq : c = 62
  ·rw [hq]; simp
  simp [hp, hq, h]
 rw [if_neg (by omega)]; simp [h]
def optI (k : Nat) : Option Nat → Int
 | none => -1
 | some m => ((k + m : Nat) : Int)
def prevC (u : List UInt8) (i k : Nat) : UInt8 := if i < k then u.getD (k - 1) 0 else 0
theorem num_loop {R : Type} {b : Int → Option (Int ⊕ R)} (u : List UInt8) (i : Nat) (f : Nat → R)
  (hb : ∀ k : Nat, i ≤ k → k ≤ u.length → b (k : Int) = if k < u.length ∧ inNum (prevC u i k) (u.getD k 0) = true then some (.inl ((k + 1 : Nat) : Int)) else some (.inr (f k))) :
  ∀ (n k : Nat), i ≤ k → k ≤ u.length → u.length - k ≤ n → loopO b (k : Int) = some (f (k + numN (prevC u i k) (u.drop k)))
 | 0, k, hi, hk, hn => by
  have : k = u.length := by omega
  subst this
  rw [loopO_eq, hb _ hi hk, if_neg (by simp)]
  simp [numN]
 | n + 1, k, hi, hk, hn => by
  rw [loopO_eq, hb k hi hk]
  by_cases h : k < u.length
  ·rw [drop_cons u k h]
   by_cases hp : inNum (prevC u i k) (u.getD k 0) = true
   ·rw [if_pos ⟨h, hp⟩]
    simp only
    rw [num_loop u i f hb n (k + 1) (by omega) (by omega) (by omega)]
    have e : prevC u i (k + 1) = u.getD k 0 := by unfold prevC; rw [if_pos (by omega)]; rfl
    simp only [numN, hp, if_true, e]
    congr 2; omega
   rw [if_neg (fun h => hp h.2)]
   simp only [numN, hp, if_false, Nat.add_zero, Bool.false_eq_true]
  rw [if_neg (fun h' => h h'.1), List.drop_of_length_le (by omega)]
  simp [numN]
theorem number_eq (hx : x.Text.length ≤ 1099511627776) (i : Nat) (hi : i ≤ x.Text.length) : XV x.Text x.At txt file (i : Int) out = some ((i + numN 0 (x.Text.drop i) : Nat) : Int) := by
 unfold XV
 have := num_loop (b := Vj x.Text (i : Int)) x.Text i (fun k => ((k : Nat) : Int)) (fun k hik hk => ?_) _ i (Nat.le_refl _) hi (Nat.le_refl _)
 ·rw [this]; simp [prevC]
 simp only [Vj, Vo, Jk, Ke, ltI, decide_eq_true_eq, Int.toNat_natCast, inrO, letter_eq, digit_eq, Option.bind_some, chr _ 43 43 rfl, chr _ 45 45 rfl, chr _ 46 46 rfl]
 by_cases h : k < x.Text.length
 ·rw [if_pos (by omega), if_pos (by omega), wN1 k (by omega)]
  have hk1 : i < k → (0 : Int) ≤ ((k - 1 : Nat) : Int) ∧ k - 1 < x.Text.length := fun _ => by omega
  unfold prevC
  generalize x.Text.getD k 0 = c
  by_cases hik2 : i < k
  ·simp only [wNm k (by omega), Int.toNat_natCast, chr _ 101 101 rfl, chr _ 69 69 rfl, decide_eq_true_eq]
   rw [if_pos (show (i : Int) < (k : Int) by omega), if_pos (hk1 hik2), if_pos (hk1 hik2), if_pos hik2]
   unfold inNum isWd
   generalize x.Text.getD (k - 1) 0 = pr
   generalize isLet c = e
   generalize isDig c = g
   generalize hd : decide (c = 46) = d
   by_cases h43 : c = 43
   ·have : d = false := by rw [← hd, h43]; rfl
    subst this
    by_cases h101 : pr = 101 <;> by_cases h69 : pr = 69 <;> cases e <;> cases g <;> simp [h, h43, h101, h69]
   by_cases h45 : c = 45
   ·have : d = false := by rw [← hd, h45]; rfl
    subst this
    by_cases h101 : pr = 101 <;> by_cases h69 : pr = 69 <;> cases e <;> cases g <;> simp [h, h43, h45, h101, h69]
   clear hd
   cases d <;> cases e <;> cases g <;> simp [h, h43, h45]
  rw [if_neg (show ¬ (i : Int) < (k : Int) by omega), if_neg hik2]
  unfold inNum isWd
  generalize isLet c = e
  generalize isDig c = g
  generalize hd : decide (c = 46) = d
  by_cases h43 : c = 43
  ·have : d = false := by rw [← hd, h43]; rfl
   subst this
   cases e <;> cases g <;> simp [h, h43]
  by_cases h45 : c = 45
  ·have : d = false := by rw [← hd, h45]; rfl
   subst this
   cases e <;> cases g <;> simp [h, h43, h45]
  clear hd
  cases d <;> cases e <;> cases g <;> simp [h, h43, h45]
 rw [if_neg (by omega)]; simp [h]
end
end Go.Proofs.YtfkhlbhjhdpkoaaGreatDoor
namespace Go.Proofs.YtfkhlbhjhdpkoaaGreatDoor
open Go.RowKit
theorem drop_head {u : List UInt8} {k : Nat} (h : k < u.length) : (u.drop k).head? = some (u.getD k 0) := by rw [drop_cons u k h]; rfl
theorem drop_nil {u : List UInt8} {k : Nat} (h : ¬ k < u.length) : u.drop k = [] := List.drop_of_length_le (by omega)
theorem quoN_cons (q c : UInt8) (r : List UInt8) : quoN q (c :: r) = if c = 10 then none else if c = q then some 1 else if c = 92 then (match r with | [] => none | d :: r' => if d = 10 then none else (quoN q r').map (· + 2)) else (quoN q r).map (· + 1) := by
 conv => lhs; unfold quoN
 all_goals rfl
theorem quo_loop {R : Type} {b : (UInt8 × Int) → Option ((UInt8 × Int) ⊕ R)} (u : List UInt8) (q : UInt8) (f : Option Nat → R)
  (hb : ∀ k : Nat, k ≤ u.length → b (q, (k : Int)) = if k < u.length ∧ u.getD k 0 ≠ 10 then (if u.getD k 0 = q then some (.inr (f (some (k + 1)))) else if u.getD k 0 = 92 ∧ k + 1 < u.length ∧ u.getD (k + 1) 0 ≠ 10 then some (.inl (q, ((k + 2 : Nat) : Int))) else some (.inl (q, ((k + 1 : Nat) : Int)))) else some (.inr (f none))) :
  ∀ (n k : Nat), k ≤ u.length → u.length - k ≤ n → loopO b (q, (k : Int)) = some (f ((quoN q (u.drop k)).map (k + ·)))
 | n, k, hk, hn => by
  rw [loopO_eq, hb k hk]
  by_cases h : k < u.length
  ·rw [drop_cons u k h, quoN_cons]
   by_cases h10 : u.getD k 0 = 10
   ·rw [if_neg (fun hh => hh.2 h10), if_pos h10]
    rfl
   rw [if_pos ⟨h, h10⟩, if_neg h10]
   by_cases hq : u.getD k 0 = q
   ·rw [if_pos hq, if_pos hq]
    rfl
   rw [if_neg hq, if_neg hq]
   cases n with
   | zero => omega
   | succ n =>
    by_cases h92 : u.getD k 0 = 92
    ·rw [if_pos h92]
     by_cases h2 : k + 1 < u.length ∧ u.getD (k + 1) 0 ≠ 10
     ·rw [if_pos ⟨h92, h2⟩]
      simp only
      rw [quo_loop u q f hb n (k + 2) (by omega) (by omega)]
      rw [drop_cons u (k + 1) h2.1]
      simp only
      rw [if_neg h2.2]
      cases quoN q (u.drop (k + 1 + 1)) with
      | none => rfl
      | some a => simp only [Option.map_some]; rw [show k + 2 + a = k + (a + 2) by omega]
     rw [if_neg (fun hh => h2 hh.2)]
     simp only
     rw [quo_loop u q f hb n (k + 1) (by omega) (by omega)]
     by_cases h3 : k + 1 < u.length
     ·have h4 : u.getD (k + 1) 0 = 10 := by
       by_cases h5 : u.getD (k + 1) 0 = 10
       ·exact h5
       exact absurd ⟨h3, h5⟩ h2
      rw [drop_cons u (k + 1) h3, quoN_cons, if_pos h4]
      simp only
      rw [if_pos h4]
      rfl
     rw [drop_nil h3]; rfl
    rw [if_neg (fun hh => h92 hh.1), if_neg h92]
    simp only
    rw [quo_loop u q f hb n (k + 1) (by omega) (by omega)]
    cases quoN q (u.drop (k + 1)) with
    | none => rfl
    | some a => simp only [Option.map_some]; rw [show k + 1 + a = k + (a + 1) by omega]
  rw [if_neg (fun hh => h hh.1), drop_nil h]
  rfl
section
variable (x : Spliced) (txt : List UInt8) (file : Int) (out : List Token)
theorem optI_map (i j : Nat) (o : Option Nat) : optI i (o.map (j + ·)) = optI (i + j) o := by
 cases o <;> simp [optI]; omega
theorem quoted_eq (hx : x.Text.length ≤ 1099511627776) (i : Nat) (hi : i < x.Text.length) (q : UInt8) : Vq q x.Text x.At txt file (i : Int) out = some (optI i ((quoN q (x.Text.drop (i + 1))).map (· + 1))) := by
 unfold Vq
 rw [wN1 i (by omega)]
 have := quo_loop (b := Vk x.Text) x.Text q (optI 0) (fun k hk => ?_) _ (i + 1) (by omega) (Nat.le_refl _)
 ·rw [this, optI_map]
  cases quoN q (x.Text.drop (i + 1)) <;> simp [optI]
  omega
 simp only [Vk, Vi, Kf, Vn, ltI, decide_eq_true_eq, Int.toNat_natCast, inrO, chr _ 10 10 rfl, chr _ 92 92 rfl, chr2]
 by_cases h : k < x.Text.length
 ·rw [if_pos (show (k : Int) < x.Text.length by omega), if_pos (show (0 : Int) ≤ k ∧ k < x.Text.length by omega)]
  simp only [wN1 k (by omega), Int.toNat_natCast]
  generalize x.Text.getD k 0 = c
  by_cases h10 : c = 10
  ·simp [h10, optI]
  rw [if_pos (show (!decide (c = 10)) = true by simp [h10]), if_pos (show (0 : Int) ≤ k ∧ k < x.Text.length by omega), if_pos (show k < x.Text.length ∧ c ≠ 10 from ⟨h, h10⟩)]
  by_cases hq : c = q
  ·simp [hq, optI]
  rw [if_neg hq, if_neg hq]
  by_cases h92 : c = 92
  ·by_cases h3 : k + 1 < x.Text.length
   ·rw [if_pos h92, if_pos (show ((k + 1 : Nat) : Int) < x.Text.length by omega), if_pos (show (0 : Int) ≤ ((k + 1 : Nat) : Int) ∧ k + 1 < x.Text.length by omega)]
    generalize x.Text.getD (k + 1) 0 = d
    by_cases hd : d = 10
    ·simp [h92, hd]
    rw [if_pos (show (!decide (d = 10)) = true by simp [hd]), if_pos (show c = 92 ∧ k + 1 < x.Text.length ∧ d ≠ 10 from ⟨h92, h3, hd⟩), wN1 (k + 1) (by omega)]
   rw [if_pos h92, if_neg (show ¬ ((k + 1 : Nat) : Int) < x.Text.length by omega), if_neg (show ¬ (c = 92 ∧ k + 1 < x.Text.length ∧ x.Text.getD (k + 1) 0 ≠ 10) by omega)]
   simp
  simp [h92]
 rw [if_neg (show ¬ (k : Int) < x.Text.length by omega)]
 simp [h, optI]
def pathOk (out : List Token) : Bool :=
 match out.reverse with
 | b :: a :: _ => decide (b.Text = incT) && (!b.First && (a.First && decide (a.Text = [35])))
 | _ => false
theorem last_two (out : List Token) (h : 2 ≤ out.length) : ∃ l a b, out = l ++ [a, b] ∧ out.getD (out.length - 1) default = b ∧ out.getD (out.length - 2) default = a ∧ pathOk out = (decide (b.Text = incT) && (!b.First && (a.First && decide (a.Text = [35])))) := by
 rcases List.eq_nil_or_concat out with rfl | ⟨l1, b, rfl⟩
 ·simp at h
 rcases List.eq_nil_or_concat l1 with rfl | ⟨l, a, rfl⟩
 ·simp at h
 refine ⟨l, a, b, by simp, ?_, ?_, ?_⟩
 ·simp [List.getD_eq_getElem?_getD]
 ·simp [List.getD_eq_getElem?_getD]
 simp [pathOk]
theorem path_eq (hx : x.Text.length ≤ 1099511627776) (ho : out.length ≤ 1099511627776) (i : Nat) (hi : i < x.Text.length) : XN x.Text x.At txt file (i : Int) out = some (if pathOk out = true then optI i ((pathN (x.Text.drop (i + 1))).map (· + 1)) else -1) := by
 have key : Ji x.Text x.At txt file (i : Int) out false = some (optI i ((pathN (x.Text.drop (i + 1))).map (· + 1))) := by
  simp only [Ji, Bool.false_eq_true, if_false]
  rw [wN1 i (by omega), while109_eq x txt file out _ hx (i + 1) (by omega)]
  simp only [Option.bind_some, pathN]
  have hr := runN_le (fun c => decide (c ≠ 62) && decide (c ≠ 10)) (x.Text.drop (i + 1))
  generalize runN (fun c => decide (c ≠ 62) && decide (c ≠ 10)) (x.Text.drop (i + 1)) = r at hr
  rw [List.length_drop] at hr
  rw [List.drop_drop]
  simp only [ltI, decide_eq_true_eq, Int.toNat_natCast, Xi, chr _ 62 62 rfl]
  by_cases h : i + 1 + r < x.Text.length
  ·rw [if_pos (by omega), if_pos (by omega), drop_head h, wN1 (i + 1 + r) (by omega)]
   simp only [Option.some.injEq]
   by_cases h62 : x.Text.getD (i + 1 + r) 0 = 62
   ·rw [if_pos h62, if_pos h62]
    simp [optI]; omega
   rw [if_neg h62, if_neg h62]; rfl
  rw [if_neg (by omega), drop_nil h]
  simp [optI]
 unfold XN
 simp only [ltI, decide_eq_true_eq]
 by_cases h2 : out.length < 2
 ·rw [if_pos (by omega)]
  have : pathOk out = false := by
   match out, h2 with
   | [], _ => rfl
   | [_], _ => rfl
   | _ :: _ :: _, h => simp at h; omega
  simp [Ji, this]
 obtain ⟨l, a, b, ho2, hb, ha, hp⟩ := last_two out (by omega)
 have e1 : IntKind.i64.wrap ((out.length : Int) - 1) = ((out.length - 1 : Nat) : Int) := wNm _ (by omega)
 have e2 : IntKind.i64.wrap ((out.length : Int) - 2) = ((out.length - 2 : Nat) : Int) := by rw [wr _ (by omega)]; omega
 rw [if_neg (by omega)]
 simp only [e1, e2, Int.toNat_natCast, hb, ha]
 have g1 : (0 : Int) ≤ ((out.length - 1 : Nat) : Int) ∧ out.length - 1 < out.length := by omega
 have g2 : (0 : Int) ≤ ((out.length - 2 : Nat) : Int) ∧ out.length - 2 < out.length := by omega
 rw [if_pos g1, if_pos g1, if_pos g2, if_pos g2, hp]
 simp only [eqS, incT]
 have kt : Ji x.Text x.At txt file (i : Int) out true = some (-1) := by simp [Ji]
 by_cases q1 : b.Text = [105, 110, 99, 108, 117, 100, 101]
 ·cases hb1 : b.First
  ·cases ha1 : a.First
   ·simp [q1, kt]
   by_cases q2 : a.Text = [35]
   ·simp [q1, q2, key]
   simp [q1, q2, kt]
  simp [q1, kt]
 simp [q1, kt]
theorem find_len (S : List (List UInt8)) (k : Nat) (hS : ∀ s ∈ S, s.length = k) (l : List UInt8) : S.find? (fun s => decide (l.take s.length = s)) = if S.contains (l.take k) = true then some (l.take k) else none := by
 induction S with
 | nil => simp
 | cons s S ih =>
  have h1 := hS s (by simp)
  rw [List.find?_cons, ih (fun s hs => hS s (by simp [hs])), h1]
  by_cases h : l.take k = s
  ·simp [h]
  have h' : ¬ s = l.take k := fun e => h e.symm
  simp [h, h']
theorem find_signs (l : List UInt8) : signsL.find? (fun s => decide (l.take s.length = s)) = if 0 < signN l then some (l.take (signN l)) else none := by
 unfold signsL
 rw [List.find?_append, List.find?_append, find_len signs3 3 (by decide), find_len signs2 2 (by decide), find_len signs1 1 (by decide)]
 unfold signN
 split
 ·simp
 split
 ·simp
 split <;> simp
theorem lsigns : JcF = some signsL := rfl
theorem sign_eq (hx : x.Text.length ≤ 1099511627776) (i : Nat) (hi : i < x.Text.length) : XO x.Text x.At txt file (i : Int) out = some (if 0 < signN (x.Text.drop i) then ((i + signN (x.Text.drop i) : Nat) : Int) else -1) := by
 unfold XO
 rw [lsigns]
 simp only [Option.bind_some]
 have hlen : ∀ s ∈ signsL, s.length ≤ 3 := by decide
 have := find_loop (b := Xk x.Text (i : Int) signsL) signsL (fun s => decide ((x.Text.drop i).take s.length = s)) (fun s => ((i + s.length : Nat) : Int)) (-1) (fun j hj => ?_) _ 0 (Nat.zero_le _) (Nat.le_refl _)
 ·rw [show ((0 : Nat) : Int) = 0 from rfl] at this
  rw [this, List.drop_zero, find_signs]
  have hl := signN_pos_le (x.Text.drop i)
  by_cases h : 0 < signN (x.Text.drop i)
  ·rw [if_pos h, if_pos h]
   simp only [Option.elim_some, List.length_take]
   rw [Nat.min_eq_left hl]
  rw [if_neg h, if_neg h]
  rfl
 have hs48 : signsL.length = 47 + 1 := rfl
 simp only [Xk, Xm, ltI, leI, eqS, decide_eq_true_eq, Int.toNat_natCast, inrO]
 by_cases h : j < signsL.length
 ·rw [if_pos (by omega), if_pos (by omega), if_pos h, wN1 j (by omega)]
  have h3 : (signsL.getD j default).length ≤ 3 := hlen _ (by simp [List.getD_eq_getElem?_getD, List.getElem?_eq_getElem h])
  generalize signsL.getD j default = s at h3
  rw [show IntKind.i64.wrap ((x.Text.length : Int) - (i : Int)) = ((x.Text.length - i : Nat) : Int) by rw [wr _ (by omega)]; omega,
   show IntKind.i64.wrap ((i : Int) + (s.length : Int)) = ((i + s.length : Nat) : Int) by rw [wr _ (by omega)]; omega]
  by_cases hl : s.length ≤ x.Text.length - i
  ·rw [if_pos (by omega), if_pos (by omega)]
   simp only [Int.toNat_natCast, show i + s.length - i = s.length by omega]
   by_cases ht : (x.Text.drop i).take s.length = s
   ·simp [ht]
   simp [ht]
  rw [if_neg (by omega)]
  have ht : ¬ (x.Text.drop i).take s.length = s := fun e => by
   have := congrArg List.length e
   simp at this; omega
  simp [ht]
 rw [if_neg (by omega), if_neg h]; simp
theorem piece_cons (c : UInt8) (r : List UInt8) (path : Bool) : piece (c :: r) path = (if isLet c = true then (1, some (runN isWd (c :: r)))
  else if (isDig c || (decide (c = 46) && (r.head?.map isDig).getD false)) = true then (2, some (numN 0 (c :: r)))
  else if c = 34 then (4, (quoN 34 r).map (· + 1))
  else if c = 39 then (3, (quoN 39 r).map (· + 1))
  else if c = 60 ∧ path = true ∧ (pathN r).isSome = true then (7, (pathN r).map (· + 1))
  else if 0 < signN (c :: r) then (5, some (signN (c :: r)))
  else (6, some 1)) := rfl
theorem one_eq (hx : x.Text.length ≤ 1099511627776) (ho : out.length ≤ 1099511627776) (i : Nat) (hi : i < x.Text.length) (first : Bool) :
  Zh first x.Text x.At txt file (i : Int) out = some ((piece (x.Text.drop i) (!first && pathOk out)).1, optI i (piece (x.Text.drop i) (!first && pathOk out)).2) := by
 have hd := drop_cons x.Text i hi
 have e1 := while81_eq x txt file out (i : Int) hx i (by omega)
 have e2 := number_eq x txt file out hx i (by omega)
 have e3 := quoted_eq x txt file out hx i hi
 have e4 := path_eq x txt file out hx ho i hi
 have e5 := sign_eq x txt file out hx i hi
 have e6 : (x.Text.drop (i + 1)).head? = if i + 1 < x.Text.length then some (x.Text.getD (i + 1) 0) else none := by
  by_cases h : i + 1 < x.Text.length
  ·rw [if_pos h, drop_head h]
  rw [if_neg h, drop_nil h]; rfl
 unfold Zh
 simp only [Int.toNat_natCast, letter_eq, digit_eq, Option.bind_some]
 rw [if_pos (show (0 : Int) ≤ (i : Int) ∧ i < x.Text.length by omega), e1, wN1 i (by omega)]
 simp only [Option.bind_some, Int.toNat_natCast, ltI, decide_eq_true_eq, chr _ 46 46 rfl]
 rw [hd] at e1 e2 e5 ⊢
 generalize x.Text.getD i 0 = c at *
 generalize x.Text.drop (i + 1) = r at *
 -- behind what is no letter
 have j2 : ∀ p : Bool, p = (decide (c = 60) && (!first && pathOk out) && (pathN r).isSome) → isLet c = false → (isDig c || (decide (c = 46) && ((r.head?.map isDig).getD false))) = false → c ≠ 34 → c ≠ 39 →
   Ks x.Text x.At txt file (i : Int) out p = some ((piece (c :: r) (!first && pathOk out)).1, optI i (piece (c :: r) (!first && pathOk out)).2) := fun p hp h1 h2 h3 h4 => by
  simp only [Ks, e4, e5, Option.bind_some]
  have hpc : piece (c :: r) (!first && pathOk out) = (if c = 60 ∧ (!first && pathOk out) = true ∧ (pathN r).isSome = true then (7, (pathN r).map (· + 1)) else if 0 < signN (c :: r) then (5, some (signN (c :: r))) else (6, some 1)) := by
   rw [piece_cons, h1, h2, if_neg (by decide), if_neg (by decide), if_neg h3, if_neg h4]
  rw [hpc]
  cases hpp : p
  ·rw [hpp] at hp
   have hn : ¬ (c = 60 ∧ (!first && pathOk out) = true ∧ (pathN r).isSome = true) := fun ⟨a, b, d⟩ => by rw [a, b, d] at hp; exact absurd hp (by decide)
   rw [if_neg hn, if_neg (by decide)]
   simp only [ltI, decide_eq_true_eq]
   by_cases hs : 0 < signN (c :: r)
   ·rw [if_pos hs, if_pos hs, if_pos (by omega)]; rfl
   rw [if_neg hs, if_neg hs, if_neg (by omega)]; rw [wN1 i (by omega)]; rfl
  rw [hpp] at hp
  have hp := hp.symm
  simp only [Bool.and_eq_true, decide_eq_true_eq] at hp
  rw [if_pos rfl, if_pos (show c = 60 ∧ (!first && pathOk out) = true ∧ (pathN r).isSome = true from ⟨hp.1.1, by simp [hp.1.2], hp.2⟩), if_pos hp.1.2.2]
 have j1 : ∀ p : Bool, p = (isDig c || (decide (c = 46) && ((r.head?.map isDig).getD false))) → isLet c = false →
   J7 first x.Text x.At txt file (i : Int) out (c, p) = some ((piece (c :: r) (!first && pathOk out)).1, optI i (piece (c :: r) (!first && pathOk out)).2) := fun p hp h1 => by
  simp only [J7, e2, e3, chr _ 34 34 rfl, chr _ 39 39 rfl, chr _ 60 60 rfl, decide_eq_true_eq, Option.bind_some]
  cases hpp : p
  ·rw [hpp] at hp
   have hp := hp.symm
   rw [if_neg (by decide)]
   by_cases h34 : c = 34
   ·rw [if_pos h34, piece_cons, h1, hp, if_neg (by decide), if_neg (by decide), if_pos h34, h34]
   rw [if_neg h34]
   by_cases h39 : c = 39
   ·rw [if_pos h39, piece_cons, h1, hp, if_neg (by decide), if_neg (by decide), if_neg h34, if_pos h39, h39]
   rw [if_neg h39]
   by_cases h60 : c = 60
   ·rw [if_pos h60]
    cases hf : first
    ·rw [if_pos (by decide)]
     simp only [e4, Option.bind_some]
     have := j2 (ltI 0 (if pathOk out = true then optI i ((pathN r).map (· + 1)) else -1)) (by
      rw [hf]
      cases hpo : pathOk out
      ·simp [ltI]
      cases hpn : pathN r <;> simp [ltI, optI, h60]
      omega) h1 hp h34 h39
     rw [hf] at this
     exact this
    have := j2 false (by rw [hf]; simp) h1 hp h34 h39
    rw [hf] at this
    rw [if_neg (by decide)]
    exact this
   rw [if_neg h60]
   exact j2 false (by simp [h60]) h1 hp h34 h39
  rw [hpp] at hp
  have hp := hp.symm
  rw [if_pos rfl, piece_cons, h1, hp, if_neg (by decide), if_pos rfl]
  rfl
 by_cases h1 : isLet c = true
 ·rw [if_pos h1, piece_cons, if_pos h1]
  rfl
 have h1 : isLet c = false := by simpa using h1
 rw [h1, if_neg (by decide)]
 by_cases h2 : isDig c = true
 ·rw [if_pos h2]
  exact j1 true (by simp [h2]) h1
 have h2 : isDig c = false := by simpa using h2
 rw [h2, if_neg (by decide)]
 by_cases h46 : c = 46
 ·rw [if_pos h46]
  by_cases h3 : i + 1 < x.Text.length
  ·rw [if_pos (by omega), if_pos (by omega)]
   exact j1 _ (by rw [h2, h46, e6, if_pos h3]; simp) h1
  rw [if_neg (by omega)]
  exact j1 _ (by rw [h2, e6, if_neg h3]; simp) h1
 rw [if_neg h46]
 exact j1 _ (by rw [h2]; simp [h46]) h1
end
end Go.Proofs.YtfkhlbhjhdpkoaaGreatDoor
namespace Go.Proofs.YtfkhlbhjhdpkoaaGreatDoor
open Go.RowKit
theorem note_loop {R : Type} {b : Int → Option (Int ⊕ R)} (u : List UInt8) (f : Option Nat → R)
  (hb : ∀ k : Nat, k ≤ u.length → b (k : Int) = if k + 1 < u.length ∧ ¬ (u.getD k 0 = 42 ∧ u.getD (k + 1) 0 = 47) then some (.inl ((k + 1 : Nat) : Int)) else some (.inr (f (if k + 1 < u.length then some k else none)))) :
  ∀ (n k : Nat), k ≤ u.length → u.length - k ≤ n → loopO b (k : Int) = some (f ((endC (u.drop k)).map (k + ·)))
 | n, k, hk, hn => by
  rw [loopO_eq, hb k hk]
  by_cases h : k + 1 < u.length
  ·have e := drop_cons u k (by omega)
   have e2 := drop_cons u (k + 1) h
   rw [e]
   by_cases h2 : u.getD k 0 = 42 ∧ u.getD (k + 1) 0 = 47
   ·rw [if_neg (fun hh => hh.2 h2), if_pos h]
    rw [e2]
    simp only [endC, List.head?_cons, h2, and_self, if_true, Option.map_some, Nat.add_zero]
   rw [if_pos ⟨h, h2⟩]
   cases n with
   | zero => omega
   | succ n =>
    simp only
    rw [note_loop u f hb n (k + 1) (by omega) (by omega)]
    have : ¬ (u.getD k 0 = 42 ∧ (u.drop (k + 1)).head? = some 47) := by
     rw [drop_head h]; simpa using h2
    rw [endC, if_neg this]
    cases endC (u.drop (k + 1)) with
    | none => rfl
    | some a => simp only [Option.map_some]; rw [show k + 1 + a = k + (a + 1) by omega]
  rw [if_neg (fun hh => h hh.1), if_neg h]
  have : endC (u.drop k) = none := by
   cases he : endC (u.drop k) with
   | none => rfl
   | some j => have := endC_lt he; simp at this; omega
  rw [this]
  rfl
def skRes (u : List UInt8) (k : Nat) (feed : Bool) : Nat × Bool × Bool := (k + (skip (u.drop k)).1, feed || (skip (u.drop k)).2.1, (skip (u.drop k)).2.2)
theorem skRes_bl {u : List UInt8} {k : Nat} (h : k < u.length) (hb : isBl (u.getD k 0) = true) (feed : Bool) : skRes u k feed = skRes u (k + 1) (feed || decide (u.getD k 0 = 10)) := by
 unfold skRes
 rw [drop_cons u k h, skip_bl hb, Bool.or_assoc]
 simp only [Prod.mk.injEq, and_true]
 omega
theorem skRes_line {u : List UInt8} {k : Nat} (h : k + 1 < u.length) (h1 : u.getD k 0 = 47) (h2 : u.getD (k + 1) 0 = 47) (feed : Bool) : skRes u k feed = skRes u (k + lineL (u.drop k)) feed := by
 unfold skRes
 have e := drop_cons u k (by omega)
 rw [e, h1, skip_line (by rw [drop_head h, h2]), ← h1, ← e, List.drop_drop]
 simp only [Prod.mk.injEq, and_true]
 omega
theorem skRes_note {u : List UInt8} {k j : Nat} (h : k + 1 < u.length) (h1 : u.getD k 0 = 47) (h2 : u.getD (k + 1) 0 = 42) (hj : endC (u.drop (k + 2)) = some j) (feed : Bool) : skRes u k feed = skRes u (k + 2 + j + 2) feed := by
 unfold skRes
 have e := drop_cons u k (by omega)
 rw [e, h1, skip_note (j := j) (by rw [drop_head h, h2]) (by rw [List.drop_drop]; exact hj), List.drop_drop]
 rw [show k + 1 + (j + 3) = k + 2 + j + 2 by omega]
 simp only [Prod.mk.injEq, and_true]
 omega
theorem skRes_open {u : List UInt8} {k : Nat} (h : k + 1 < u.length) (h1 : u.getD k 0 = 47) (h2 : u.getD (k + 1) 0 = 42) (hj : endC (u.drop (k + 2)) = none) (feed : Bool) : skRes u k feed = (k, feed, false) := by
 unfold skRes
 have e := drop_cons u k (by omega)
 rw [e, h1, skip_open (by rw [drop_head h, h2]) (by rw [List.drop_drop]; exact hj)]
 simp
theorem skRes_stop {u : List UInt8} {k : Nat} (h : k < u.length) (hb : isBl (u.getD k 0) = false) (h1 : ¬ (u.getD k 0 = 47 ∧ k + 1 < u.length ∧ u.getD (k + 1) 0 = 47)) (h2 : ¬ (u.getD k 0 = 47 ∧ k + 1 < u.length ∧ u.getD (k + 1) 0 = 42)) (feed : Bool) : skRes u k feed = (k, feed, true) := by
 unfold skRes
 have key : ∀ d, (u.drop (k + 1)).head? = some d → k + 1 < u.length ∧ u.getD (k + 1) 0 = d := fun d hd => by
  by_cases h3 : k + 1 < u.length
  ·rw [drop_head h3] at hd; exact ⟨h3, by simpa using hd⟩
  rw [drop_nil h3] at hd; cases hd
 rw [drop_cons u k h, skip_stop hb (fun ⟨a, b⟩ => h1 ⟨a, key _ b⟩) (fun ⟨a, b⟩ => h2 ⟨a, key _ b⟩)]
 simp
theorem skRes_end {u : List UInt8} {k : Nat} (h : ¬ k < u.length) (feed : Bool) : skRes u k feed = (k, feed, true) := by
 unfold skRes
 rw [drop_nil h]
 simp [skip_nil]
noncomputable def stepO {S R : Type} (b : S → Option (S ⊕ R)) : Option (S ⊕ R) → Option R
 | none => none
 | some (.inl s') => loopO b s'
 | some (.inr r) => some r
theorem loopO_step {S R : Type} (b : S → Option (S ⊕ R)) (s : S) : loopO b s = stepO b (b s) := by
 rw [loopO_eq]
 cases b s with
 | none => rfl
 | some o => cases o <;> rfl
section
variable (x : Spliced) (txt : List UInt8) (file : Int) (out : List Token)
theorem blank_eq (hx : x.Text.length ≤ 1099511627776) (a i : Nat) (hi : i ≤ x.Text.length) :
  ∀ (n k : Nat) (some0 feed : Bool), k ≤ x.Text.length → x.Text.length - k ≤ n → loopO (JH x.Text x.At txt file out) (some0, feed, (k : Int)) =
   some (some0 || decide (k < (skRes x.Text k feed).1), (skRes x.Text k feed).2.1, (skRes x.Text k feed).2.2, ((skRes x.Text k feed).1 : Int))
 | n, k, some0, feed, hk, hn => by
  rw [loopO_step]
  have next : ∀ (k' : Nat) (feed' : Bool), k < k' → k' ≤ x.Text.length → skRes x.Text k feed = skRes x.Text k' feed' → loopO (JH x.Text x.At txt file out) (true, feed', (k' : Int)) =
    some (some0 || decide (k < (skRes x.Text k feed).1), (skRes x.Text k feed).2.1, (skRes x.Text k feed).2.2, ((skRes x.Text k feed).1 : Int)) := fun k' feed' h1 h2 h3 => by
   cases n with
   | zero => omega
   | succ n =>
    rw [blank_eq hx a i hi n k' true feed' h2 (by omega), h3]
    have : k' ≤ (skRes x.Text k' feed').1 := by unfold skRes; simp
    have h4 : decide (k < (skRes x.Text k' feed').1) = true := by simp; omega
    rw [h4]
    simp
  by_cases h : k < x.Text.length
  ·simp only [JH, ltI, decide_eq_true_eq, Int.toNat_natCast, chr _ 32 32 rfl, chr _ 9 9 rfl, chr _ 10 10 rfl, chr _ 13 13 rfl]
   rw [if_pos (show (k : Int) < x.Text.length by omega), if_pos (show (0 : Int) ≤ k ∧ k < x.Text.length by omega)]
   -- blank, or not
   have j3 : ∀ p : Bool, p = isBl (x.Text.getD k 0) → stepO (JH x.Text x.At txt file out) (JG x.Text x.At txt file out some0 feed (k : Int) (x.Text.getD k 0, p)) =
     some (some0 || decide (k < (skRes x.Text k feed).1), (skRes x.Text k feed).2.1, (skRes x.Text k feed).2.2, ((skRes x.Text k feed).1 : Int)) := fun p hp => by
    simp only [JG, VL, KC, Kw, J3, ltI, decide_eq_true_eq, Int.toNat_natCast, chr _ 10 10 rfl, chr _ 47 47 rfl, chr _ 42 42 rfl, wN1 k (by omega), wN2 k (by omega), inrO]
    cases hpp : p
    ·rw [hpp] at hp
     have hp := hp.symm
     rw [if_neg (by decide)]
     have stop : ¬ (x.Text.getD k 0 = 47 ∧ k + 1 < x.Text.length ∧ x.Text.getD (k + 1) 0 = 47) → ¬ (x.Text.getD k 0 = 47 ∧ k + 1 < x.Text.length ∧ x.Text.getD (k + 1) 0 = 42) →
       some (some0, feed, true, (k : Int)) = some (some0 || decide (k < (skRes x.Text k feed).1), (skRes x.Text k feed).2.1, (skRes x.Text k feed).2.2, ((skRes x.Text k feed).1 : Int)) := fun h1 h2 => by
      rw [skRes_stop h hp h1 h2]; simp
     by_cases h47 : x.Text.getD k 0 = 47
     ·by_cases h2 : k + 1 < x.Text.length
      ·by_cases h3 : x.Text.getD (k + 1) 0 = 47
       ·rw [if_pos h47, if_pos (show ((k + 1 : Nat) : Int) < x.Text.length by omega), if_pos (show (0 : Int) ≤ ((k + 1 : Nat) : Int) ∧ k + 1 < x.Text.length by omega), if_pos h3, while80_eq x txt file out _ hx k (by omega)]
        simp only [Option.bind_some, stepO]
        have hl := runN_le (fun c => decide (c ≠ 10)) (x.Text.drop k)
        have hp2 : 0 < lineL (x.Text.drop k) := by rw [drop_cons x.Text k h]; exact lineL_pos (by rw [h47]; decide)
        rw [List.length_drop] at hl
        exact next _ _ (by omega) (by unfold lineL; omega) (skRes_line h2 h47 h3 feed)
       by_cases h4 : x.Text.getD (k + 1) 0 = 42
       ·rw [if_pos h47, if_pos (show ((k + 1 : Nat) : Int) < x.Text.length by omega), if_pos (show (0 : Int) ≤ ((k + 1 : Nat) : Int) ∧ k + 1 < x.Text.length by omega), if_neg h3, if_pos (show ((k + 1 : Nat) : Int) < x.Text.length by omega), if_pos (show (0 : Int) ≤ ((k + 1 : Nat) : Int) ∧ k + 1 < x.Text.length by omega), if_pos h47, if_pos h4]
        have := note_loop (b := VU x.Text some0 feed (k : Int)) x.Text (fun o => match o with | none => Sum.inr (some0, feed, false, (k : Int)) | some e => Sum.inl (true, feed, ((e + 2 : Nat) : Int))) (fun m hm => ?_) _ (k + 2) (by omega) (Nat.le_refl _)
        ·rw [this]
         cases hj : endC (x.Text.drop (k + 2)) with
         | none =>
          simp only [Option.map_none, stepO]
          rw [skRes_open h2 h47 h4 hj]
          simp
         | some j =>
          simp only [Option.map_some, stepO]
          have := endC_lt hj
          rw [List.length_drop] at this
          exact next _ _ (by omega) (by omega) (skRes_note h2 h47 h4 hj feed)
        simp only [VU, VS, J3, ltI, leI, eqS, decide_eq_true_eq, Int.toNat_natCast, wN1 m (by omega), wN2 m (by omega), inrO]
        by_cases hm2 : m + 1 < x.Text.length
        ·rw [if_pos (show ((m + 1 : Nat) : Int) < x.Text.length by omega), if_pos (show (0 : Int) ≤ (m : Int) ∧ (m : Int) ≤ ((m + 2 : Nat) : Int) ∧ ((m + 2 : Nat) : Int) ≤ x.Text.length by omega)]
         rw [show m + 2 - m = 2 by omega, drop_cons x.Text m (by omega), drop_cons x.Text (m + 1) hm2]
         simp only [List.take_succ_cons, List.take_zero]
         generalize x.Text.getD m 0 = c
         generalize x.Text.getD (m + 1) 0 = d
         rw [if_neg (show ¬ (x.Text.length : Int) ≤ ((m + 1 : Nat) : Int) by omega)]
         by_cases hcd : c = 42 ∧ d = 47
         ·obtain ⟨rfl, rfl⟩ := hcd
          simp [hm2]
         have : ¬ [c, d] = [42, 47] := fun hh => hcd (by simpa using hh)
         simp [this, hm2, hcd]
        rw [if_neg (show ¬ ((m + 1 : Nat) : Int) < x.Text.length by omega), if_neg (by decide), if_pos (show (x.Text.length : Int) ≤ ((m + 1 : Nat) : Int) by omega), if_neg (fun hh => hm2 hh.1), if_neg hm2]
        rfl
       rw [if_pos h47, if_pos (show ((k + 1 : Nat) : Int) < x.Text.length by omega), if_pos (show (0 : Int) ≤ ((k + 1 : Nat) : Int) ∧ k + 1 < x.Text.length by omega), if_neg h3, if_pos (show ((k + 1 : Nat) : Int) < x.Text.length by omega), if_pos (show (0 : Int) ≤ ((k + 1 : Nat) : Int) ∧ k + 1 < x.Text.length by omega), if_pos h47, if_neg h4]
       simp only [Option.map_some, stepO]
       exact stop (fun hh => h3 hh.2.2) (fun hh => h4 hh.2.2)
      rw [if_pos h47, if_neg (show ¬ ((k + 1 : Nat) : Int) < x.Text.length by omega), if_neg (by decide), if_pos h47, if_neg (show ¬ ((k + 1 : Nat) : Int) < x.Text.length by omega), if_neg (by decide)]
      simp only [Option.map_some, stepO]
      exact stop (fun hh => h2 hh.2.1) (fun hh => h2 hh.2.1)
     rw [if_neg h47, if_neg (by decide), if_neg h47, if_neg (by decide)]
     simp only [Option.map_some, stepO]
     exact stop (fun hh => h47 hh.1) (fun hh => h47 hh.1)
    rw [hpp] at hp
    have hp := hp.symm
    rw [if_pos rfl]
    have e := skRes_bl h hp feed
    cases feed
    ·rw [if_neg (by decide)]
     exact next (k + 1) _ (by omega) (by omega) (by simpa using e)
    rw [if_pos rfl]
    exact next (k + 1) _ (by omega) (by omega) (by simpa using e)
   unfold isBl at j3
   generalize x.Text.getD k 0 = c at j3 ⊢
   by_cases h32 : c = 32
   ·rw [if_pos h32]; exact j3 true (by simp [h32])
   rw [if_neg h32]
   by_cases h9 : c = 9
   ·rw [if_pos h9]; exact j3 true (by simp [h9])
   rw [if_neg h9]
   by_cases h10 : c = 10
   ·rw [if_pos h10]; exact j3 true (by simp [h10])
   rw [if_neg h10]; exact j3 _ (by simp [h32, h9, h10])
  rw [skRes_end h]
  simp only [JH, ltI, decide_eq_true_eq, inrO]
  rw [if_neg (show ¬ (k : Int) < x.Text.length by omega)]
  simp [stepO]
end
end Go.Proofs.YtfkhlbhjhdpkoaaGreatDoor
namespace Go.Proofs.YtfkhlbhjhdpkoaaGreatDoor
open Go.RowKit
def isHash (t : Token) : Bool := t.First && decide (t.Text = [35])
def stOf (out : List Token) : Nat :=
 match out.reverse with
 | [] => 0
 | b :: rest => if isHash b = true then 1 else if ((rest.head?.map isHash).getD false && (!b.First && decide (b.Text = incT))) = true then 2 else 0
theorem pathOk_st (out : List Token) : pathOk out = decide (stOf out = 2) := by
 rw [Bool.eq_iff_iff, decide_eq_true_iff]
 unfold pathOk stOf
 cases out.reverse with
 | nil => simp
 | cons b rest =>
  cases rest with
  | nil =>
   show (false : Bool) = true ↔ (if isHash b = true then 1 else if (false && (!b.First && decide (b.Text = incT))) = true then 2 else 0) = 2
   by_cases hb : isHash b = true <;> simp [hb]
  | cons a rest =>
   show _ ↔ (if isHash b = true then 1 else if (isHash a && (!b.First && decide (b.Text = incT))) = true then 2 else 0) = 2
   by_cases h1 : b.Text = incT
   ·have hb : isHash b = false := by unfold isHash; rw [h1]; simp [incT]
    rw [hb]
    unfold isHash
    cases hbf : b.First <;> cases haf : a.First <;> simp [h1, hbf, haf]
   by_cases hb : isHash b = true <;> simp [h1, hb]
theorem stOf_snoc (out : List Token) (t : Token) : stOf (out ++ [t]) = nextP (stOf out) t.Text t.First := by
 have e : stOf (out ++ [t]) = if isHash t = true then 1 else if ((out.reverse.head?.map isHash).getD false && (!t.First && decide (t.Text = incT))) = true then 2 else 0 := by
  unfold stOf
  rw [List.reverse_append]
  rfl
 have e1 : (out.reverse.head?.map isHash).getD false = true ↔ stOf out = 1 := by
  unfold stOf
  cases out.reverse with
  | nil => simp
  | cons a rest =>
   show isHash a = true ↔ (if isHash a = true then 1 else if ((rest.head?.map isHash).getD false && (!a.First && decide (a.Text = incT))) = true then 2 else 0) = 1
   by_cases ha : isHash a = true
   ·simp [ha]
   simp only [ha, if_false, Bool.false_eq_true, false_iff]
   split <;> simp
 rw [e]
 unfold nextP
 by_cases ht : t.First = true ∧ t.Text = [35]
 ·have : isHash t = true := by unfold isHash; simp [ht]
  rw [if_pos this, if_pos ht]
 have : ¬ isHash t = true := by
  unfold isHash
  intro h
  simp only [Bool.and_eq_true, decide_eq_true_eq] at h
  exact ht h
 rw [if_neg this, if_neg ht]
 by_cases h : stOf out = 1 ∧ t.First = false ∧ t.Text = incT
 ·rw [if_pos h, if_pos (by rw [e1.2 h.1]; simp [h.2])]
 rw [if_neg h, if_neg]
 intro hh
 simp only [Bool.and_eq_true, Bool.not_eq_true', decide_eq_true_eq] at hh
 exact h ⟨e1.1 hh.1, hh.2⟩
def finV (file : Int) (text : List UInt8) (out : List Token) : List Raw × Option Nat → List Token × Fault
 | (ts, none) => (out ++ ts.map (tokOf file text), ⟨0, -1, 0⟩)
 | (_, some p) => ([], ⟨9, file, (((spPos text).getD p 0 : Nat) : Int)⟩)
theorem finV_cons (file : Int) (text : List UInt8) (out : List Token) (t : Raw) (x : List Raw × Option Nat) : finV file text (out ++ [tokOf file text t]) x = finV file text out (t :: x.1, x.2) := by
 obtain ⟨ts, _ | p⟩ := x <;> simp [finV]
theorem whereN_in (A : List Nat) (p : Nat) (h : p < A.length) : whereN A (p : Int) = ((A.getD p 0 : Nat) : Int) := by
 unfold whereN
 rw [if_neg (by omega)]; simp
theorem posAt_le (text : List UInt8) (p : Nat) (h : p < (spPos text).length) : (spPos text).getD p 0 ≤ text.length := by
 have : (spPos text).getD p 0 ∈ spPos text := by simp [List.getD_eq_getElem?_getD, List.getElem?_eq_getElem h]
 exact spPos_le text _ this
theorem spText_len (text : List UInt8) : (spText text).length ≤ text.length := by
 have h := (sp_facts text 0 0).2.2
 unfold spText spAt
 simpa using h
theorem tok_loop (file : Int) (text : List UInt8) (ht : text.length ≤ 3000) : ∀ (n i : Nat) (out : List Token), i ≤ (spText text).length → (spText text).length - i < n → out.length + ((spText text).length - i) ≤ 100000 →
  loopO (Zf file text (spS text)) ((i : Int), out) = some (finV file text out (lxF n ((spText text).drop i) i (stOf out) (out.isEmpty)))
 | 0, i, out, _, h, _ => by omega
 | n + 1, i, out, hi, hn, ho => by
  have hu := spText_len text
  have hA := spPos_length text
  have e1 := blank_eq (spS text) text file out (by show (spText text).length ≤ _; omega) i i hi _ i false false hi (Nat.le_refl _)
  have hsk := skip_le _ ((spText text).drop i) (Nat.le_refl _)
  rw [List.length_drop] at hsk
  have hxT : (spS text).Text = spText text := rfl
  have hxA : (spS text).At = ints (spPos text) := rfl
  have hres : skRes (spText text) i false = (i + (skip ((spText text).drop i)).1, (skip ((spText text).drop i)).2.1, (skip ((spText text).drop i)).2.2) := by unfold skRes; simp
  rw [hxT, hres] at e1
  simp only [Bool.false_or] at e1
  have e2 : JaF (spS text).Text (spS text).At text file (i : Int) out = _ := e1
  rw [loopO_step]
  simp only [Zf, e2, Option.bind_some, lxF]
  have hdk : decide (i < i + (skip ((spText text).drop i)).1) = decide (0 < (skip ((spText text).drop i)).1) := by congr 1; simp
  rw [hdk]
  generalize hk : (skip ((spText text).drop i)).1 = k at hsk
  generalize hf : (skip ((spText text).drop i)).2.1 = feed
  generalize hok : (skip ((spText text).drop i)).2.2 = ok
  have hwh : ∀ p : Nat, p < (spPos text).length → KN (spS text) (p : Int) = some (((spPos text).getD p 0 : Nat) : Int) := fun p hp => by
   have := where_eq (spText text) (spPos text) (p : Int)
   rw [whereN_in _ _ hp] at this
   exact this
  cases ok
  ·simp only [Bool.not_false, if_true, inrO]
   rw [hwh _ (by omega)]
   rfl
  simp only [Bool.not_true, Bool.false_eq_true, if_false, eqI, decide_eq_true_eq, Bool.true_eq_false]
  rw [hxT, List.drop_drop]
  by_cases hend : i + k = (spText text).length
  ·rw [if_pos (by omega), if_pos (List.drop_of_length_le (by omega))]
   simp [inrO, stepO, finV]
  have hlt : i + k < (spText text).length := by omega
  rw [if_neg (show ¬ ((i + k : Nat) : Int) = ((spText text).length : Int) by omega), if_neg (show ¬ (spText text).drop (i + k) = [] from fun h => by have := congrArg List.length h; simp at this; omega)]
  have hone := one_eq (spS text) text file out (by rw [hxT]; omega) (by omega) (i + k) (by rw [hxT]; exact hlt)
  rw [hxT] at hone
  have j2 : ∀ first : Bool, first = (out.isEmpty || feed) → stepO (Zf file text (spS text)) (Zg file text (spS text) out (decide (0 < k), feed, true, ((i + k : Nat) : Int)) first) =
    some (finV file text out (match piece ((spText text).drop (i + k)) (!(out.isEmpty || feed) && decide (stOf out = 2)) with
     | (_, none) => ([], some (i + k))
     | (kind, some m) =>
      let t := ((spText text).drop (i + k)).take m
      let x := lxF n (((spText text).drop (i + k)).drop m) (i + k + m) (nextP (stOf out) t (out.isEmpty || feed)) false
      (⟨kind, i + k, m, decide (0 < k), out.isEmpty || feed, t⟩ :: x.1, x.2))) := fun first hfirst => by
   simp only [Zg]
   rw [hwh _ (by omega)]
   simp only [Option.bind_some]
   rw [show Zh first (spS text).Text (spS text).At text file ((i + k : Nat) : Int) out = _ from hone first]
   simp only [Option.bind_some]
   rw [hfirst, pathOk_st]
   generalize hp : piece ((spText text).drop (i + k)) (!(out.isEmpty || feed) && decide (stOf out = 2)) = pc
   obtain ⟨kind, m⟩ := pc
   cases m with
   | none => simp [optI, ltI, inrO, stepO, finV]
   | some m =>
    obtain ⟨m1, m2⟩ := piece_le hp
    rw [List.length_drop] at m2
    have hlt0 : ltI (optI (i + k) (some m)) 0 = false := decide_eq_false (show ¬ (((i + k + m : Nat) : Int) < 0) by omega)
    have hoI : optI (i + k) (some m) = ((i + k + m : Nat) : Int) := rfl
    simp only [hlt0, Bool.false_eq_true, if_false]
    rw [hoI]
    rw [hxT]
    rw [if_pos (show (0 : Int) ≤ ((i + k : Nat) : Int) ∧ ((i + k : Nat) : Int) ≤ ((i + k + m : Nat) : Int) ∧ ((i + k + m : Nat) : Int) ≤ (spText text).length by omega)]
    rw [wNm (i + k + m) (by omega), hwh _ (by omega)]
    simp only [Option.bind_some]
    have hA1 := posAt_le text (i + k) (by omega)
    have hA2 := posAt_le text (i + k + m - 1) (by omega)
    rw [lines_eq text _ (by omega)]
    simp only [Option.bind_some]
    have hkAt : kAt text (((spPos text).getD (i + k) 0 : Nat) : Int) = (spPos text).getD (i + k) 0 := by unfold kAt; rw [Int.toNat_natCast]; omega
    rw [hkAt, if_pos (by simp; omega)]
    rw [wN1 _ (by omega)]
    simp only [Int.toNat_natCast, show i + k + m - (i + k) = m by omega, stepO]
    have htok : (⟨kind, List.take m (List.drop (i + k) (spText text)), decide (0 < k), out.isEmpty || feed, file, (((spPos text).getD (i + k) 0 : Nat) : Int), (((spPos text).getD (i + k + m - 1) 0 + 1 : Nat) : Int), ((lineN text ((spPos text).getD (i + k) 0) : Nat) : Int), [], [], 0⟩ : Token) = tokOf file text ⟨kind, i + k, m, decide (0 < k), out.isEmpty || feed, List.take m (List.drop (i + k) (spText text))⟩ := rfl
    rw [htok, tok_loop file text ht n (i + k + m) _ (by omega) (by omega) (by simp; omega), finV_cons, stOf_snoc, List.drop_drop]
    have hne : (out ++ [tokOf file text ⟨kind, i + k, m, decide (0 < k), out.isEmpty || feed, List.take m (List.drop (i + k) (spText text))⟩]).isEmpty = false := by simp
    rw [hne]
    rfl
  by_cases ho0 : out = []
  ·subst ho0
   rw [if_pos (show ((([] : List Token).length : Nat) : Int) = 0 from rfl)]
   exact j2 true (by simp)
  have hol : ¬ ((out.length : Nat) : Int) = 0 := fun h => ho0 (List.length_eq_zero_iff.1 (by omega))
  rw [if_neg hol]
  exact j2 feed (by cases out with | nil => exact absurd rfl ho0 | cons _ _ => rfl)
theorem ltokens_eq (file : Int) (text : List UInt8) (h : text.length ≤ 1099511627776) : Jo file text = some (toksV file text) := by
 unfold Jo toksV
 simp only [ltI, decide_eq_true_eq]
 by_cases ht : 3000 < text.length
 ·rw [if_pos (by omega), if_pos ht]
 rw [if_neg (by omega), if_neg ht, text_eq text h]
 have := tok_loop file text (by omega) ((spText text).length + 1) 0 [] (Nat.zero_le _) (by omega) (by have := spText_len text; simp; omega)
 simp only [Option.bind_some]
 rw [show ((0 : Int), ([] : List Token)) = (((0 : Nat) : Int), []) from rfl, this]
 unfold raws
 simp only [List.drop_zero]
 rw [show stOf [] = 0 from rfl, show ([] : List Token).isEmpty = true from rfl]
 generalize lxF ((spText text).length + 1) (spText text) 0 0 true = z
 obtain ⟨ts, _ | p⟩ := z <;> simp [finV]
end Go.Proofs.YtfkhlbhjhdpkoaaGreatDoor
