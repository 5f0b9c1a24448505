/- Tokens of texts that are put together: signs, numerals, blanks. Plain. -/
import Derived.Test.YtghmojcecefgjaaDoorZobc
set_option linter.unusedVariables false
set_option linter.unusedSimpArgs false
namespace Go.Proofs.YtghmojcecefgjaaDoor
open Go.RowKit
def LX (l : List UInt8) (ks : List (Int × List UInt8)) : Prop := ∀ (n i : Nat) (f : Bool), l.length < n → ∃ ts, lxF n l i 0 f = (ts, none) ∧ ts.map kx = ks
theorem LX_nil : LX [] [] := fun n i f _ => ⟨[], lxF_nil n i 0 f, rfl⟩
theorem LX_cons {c : UInt8} {r : List UInt8} {kd : Int} {m : Nat} {ks : List (Int × List UInt8)} (hsk : skip (c :: r) = (0, false, true)) (hp : piece (c :: r) false = (kd, some m)) (h35 : (c :: r).take m ≠ [35])
    (H : LX ((c :: r).drop m) ks) : LX (c :: r) ((kd, (c :: r).take m) :: ks) := by
  intro n i f hn
  obtain ⟨n, rfl⟩ : ∃ k, n = k + 1 := ⟨n - 1, by omega⟩
  obtain ⟨h1, h2⟩ := piece_le hp
  obtain ⟨ts, g1, g2⟩ := H n (i + m) false (by simp only [List.length_drop]; simp only [List.length_cons] at hn ⊢; omega)
  have hst : nextP 0 ((c :: r).take m) f = 0 := by
    unfold nextP
    rw [if_neg (fun q => h35 q.2), if_neg (by simp)]
  refine ⟨⟨kd, i, m, false, f, (c :: r).take m⟩ :: ts, ?_, by rw [List.map_cons, g2]; rfl⟩
  rw [lxF, hsk]
  simp [hp, hst, g1]
theorem signN_one (c : UInt8) (r : List UInt8) (h3 : signs3.all (fun s => s.head? != some c) = true) (h2 : signs2.all (fun s => s.head? != some c) = true) (h1 : signs1.contains [c] = true) : signN (c :: r) = 1 := by
  have key : ∀ (S : List (List UInt8)) (k : Nat), S.all (fun s => s.head? != some c) = true → S.contains ((c :: r).take (k + 1)) = false := by
    intro S k hS
    rw [Bool.eq_false_iff]
    intro q
    have hm : (c :: r).take (k + 1) ∈ S := by simpa using q
    have := List.all_eq_true.1 hS _ hm
    simp at this
  unfold signN
  rw [key signs3 2 h3, key signs2 1 h2]
  show (if false = true then 3 else if false = true then 2 else if signs1.contains [c] = true then 1 else 0) = 1
  rw [h1]; rfl
theorem piece_one (c : UInt8) (r : List UInt8) (hl : isLet c = false) (hd : isDig c = false) (hc : c ≠ 46 ∧ c ≠ 34 ∧ c ≠ 39 ∧ c ≠ 60) (hs : signN (c :: r) = 1) (p : Bool) : piece (c :: r) p = (5, some 1) := by
  unfold piece
  simp only [hl, hd, hs]
  simp [hc.1, hc.2.1, hc.2.2.1, hc.2.2.2]
theorem LX_one {c : UInt8} {r : List UInt8} {ks : List (Int × List UInt8)} (h3 : signs3.all (fun s => s.head? != some c) = true) (h2 : signs2.all (fun s => s.head? != some c) = true) (h1 : signs1.contains [c] = true)
    (hl : isLet c = false) (hd : isDig c = false) (hc : c ≠ 46 ∧ c ≠ 34 ∧ c ≠ 39 ∧ c ≠ 60 ∧ c ≠ 47 ∧ c ≠ 35) (hb : isBl c = false) (H : LX r ks) : LX (c :: r) ((5, [c]) :: ks) := by
  refine LX_cons (m := 1) (skip_stop hb (fun q => hc.2.2.2.2.1 q.1) (fun q => hc.2.2.2.2.1 q.1)) (piece_one c r hl hd ⟨hc.1, hc.2.1, hc.2.2.1, hc.2.2.2.1⟩ (signN_one c r h3 h2 h1) false) ?_ H
  intro q
  simp only [List.take_succ_cons, List.take_zero, List.cons.injEq, and_true] at q
  exact hc.2.2.2.2.2 q
theorem numN_dig : ∀ (D : List UInt8) (r : List UInt8) (pr : UInt8), (∀ c ∈ D, 48 ≤ c.toNat ∧ c.toNat ≤ 57) → numN pr (D ++ 41 :: r) = D.length
  | [], r, pr, _ => by simp [numN, inNum41]
  | c :: D, r, pr, h => by
    have hc := h c (by simp)
    have hi : inNum pr c = true := by
      unfold inNum isWd isDig
      rw [decide_eq_true hc.1, decide_eq_true hc.2]
      simp
    rw [List.cons_append, numN, if_pos hi, numN_dig D r c (fun d hd => h d (by simp [hd]))]
    simp
theorem LX_num {D r : List UInt8} {ks : List (Int × List UInt8)} (hD : ∀ c ∈ D, 48 ≤ c.toNat ∧ c.toNat ≤ 57) (h0 : D ≠ []) (H : LX (41 :: r) ks) : LX (D ++ 41 :: r) ((2, D) :: ks) := by
  cases D with
  | nil => exact absurd rfl h0
  | cons c D =>
    have hc := hD c (by simp)
    have hne : ∀ k : UInt8, (k.toNat < 48 ∨ 57 < k.toNat) → c ≠ k := fun k hk q => by rw [q] at hc; omega
    have hl : isLet c = false := by
      unfold isLet
      rw [decide_eq_false (show ¬ 97 ≤ c.toNat by omega), decide_eq_false (show ¬ 65 ≤ c.toNat by omega), decide_eq_false (show ¬ c.toNat = 95 by omega)]; rfl
    have hd : isDig c = true := by
      unfold isDig
      rw [decide_eq_true hc.1, decide_eq_true hc.2]; rfl
    have hb : isBl c = false := by
      unfold isBl
      rw [decide_eq_false (hne 32 (by decide)), decide_eq_false (hne 9 (by decide)), decide_eq_false (hne 10 (by decide)), decide_eq_false (hne 13 (by decide))]; rfl
    have hp : ∀ p : Bool, piece (c :: (D ++ 41 :: r)) p = (2, some (c :: D).length) := by
      intro p
      unfold piece
      have hn := numN_dig (c :: D) r 0 hD
      rw [List.cons_append] at hn
      simp only [hl, hd, Bool.true_or, if_true, hn]
      rfl
    have ht : (c :: (D ++ 41 :: r)).take (c :: D).length = c :: D := by
      rw [show c :: (D ++ 41 :: r) = (c :: D) ++ 41 :: r from rfl, List.take_left]
    have hdr : (c :: (D ++ 41 :: r)).drop (c :: D).length = 41 :: r := by
      rw [show c :: (D ++ 41 :: r) = (c :: D) ++ 41 :: r from rfl, List.drop_left]
    have := LX_cons (skip_stop (r := D ++ 41 :: r) hb (fun q => hne 47 (by decide) q.1) (fun q => hne 47 (by decide) q.1)) (hp false) (by rw [ht]; intro q; simp only [List.cons.injEq] at q; exact hne 35 (by decide) q.1) (by rw [hdr]; exact H)
    rw [ht] at this
    exact this
def litS (a : Int) : List UInt8 := if a < 0 then [40, 126] ++ Lib.decDigits (-1 - a).toNat ++ [41] else [40] ++ Lib.decDigits a.toNat ++ [41]
def litK (a : Int) : List (Int × List UInt8) := if a < 0 then [(5, [40]), (5, [126]), (2, Lib.decDigits (-1 - a).toNat), (5, [41])] else [(5, [40]), (2, Lib.decDigits a.toNat), (5, [41])]
theorem LX_lit (a : Int) {r : List UInt8} {ks : List (Int × List UInt8)} (H : LX r ks) : LX (litS a ++ r) (litK a ++ ks) := by
  have h41 : LX (41 :: r) ((5, [41]) :: ks) := LX_one (by decide) (by decide) (by decide) (by decide) (by decide) (by decide) (by decide) H
  unfold litS litK
  by_cases h : a < 0
  · rw [if_pos h, if_pos h]
    have h1 := LX_num (dec_dig _ _ (Nat.lt_succ_self (-1 - a).toNat)) (dec_ne _) h41
    have h2 : LX (126 :: (Lib.decDigits (-1 - a).toNat ++ 41 :: r)) _ := LX_one (by decide) (by decide) (by decide) (by decide) (by decide) (by decide) (by decide) h1
    have h3 : LX (40 :: 126 :: (Lib.decDigits (-1 - a).toNat ++ 41 :: r)) _ := LX_one (by decide) (by decide) (by decide) (by decide) (by decide) (by decide) (by decide) h2
    simpa using h3
  · rw [if_neg h, if_neg h]
    have h1 := LX_num (dec_dig _ _ (Nat.lt_succ_self a.toNat)) (dec_ne _) h41
    have h3 : LX (40 :: (Lib.decDigits a.toNat ++ 41 :: r)) _ := LX_one (by decide) (by decide) (by decide) (by decide) (by decide) (by decide) (by decide) h1
    simpa using h3
theorem litS_len (a : Int) (h0 : -9223372036854775808 ≤ a) (h1 : a ≤ 9223372036854775807) : (litS a).length ≤ 30 := by
  unfold litS
  by_cases h : a < 0
  · rw [if_pos h]
    have := Lib.nDigits_le20 (-1 - a).toNat (by omega)
    simp only [List.length_append, Lib.decDigits_length, List.length_cons, List.length_nil]
    omega
  · rw [if_neg h]
    have := Lib.nDigits_le20 a.toNat (by omega)
    simp only [List.length_append, Lib.decDigits_length, List.length_cons, List.length_nil]
    omega
theorem litS_plain (a : Int) : ∀ c ∈ litS a, c ≠ 92 ∧ c ≠ 10 := by
  have hd : ∀ u, ∀ c ∈ Lib.decDigits u, c ≠ 92 ∧ c ≠ 10 := fun u c hc => by
    have := dec_dig (u + 1) u (by omega) c hc
    constructor
    · rintro rfl; revert this; decide
    · rintro rfl; revert this; decide
  intro c hc
  unfold litS at hc
  by_cases h : a < 0
  · rw [if_pos h] at hc
    simp only [List.mem_append, List.mem_cons, List.not_mem_nil, or_false] at hc
    rcases hc with ((rfl | rfl) | hc) | rfl
    · decide
    · decide
    · exact hd _ c hc
    · decide
  · rw [if_neg h] at hc
    simp only [List.mem_append, List.mem_cons, List.not_mem_nil, or_false] at hc
    rcases hc with (rfl | hc) | rfl
    · decide
    · exact hd _ c hc
    · decide
theorem toks_of {s : List UInt8} {ks : List (Int × List UInt8)} (hl : s.length ≤ 3000) (hp : ∀ c ∈ s, c ≠ 92 ∧ c ≠ 10) (H : LX s ks) : (toksV 0 s).2.Err = 0 ∧ (toksV 0 s).1.map kwT = ks := by
  unfold toksV raws
  rw [if_neg (by omega), spText_plain s hp]
  obtain ⟨ts, g1, g2⟩ := H (s.length + 1) 0 true (by omega)
  rw [g1]
  refine ⟨rfl, ?_⟩
  show List.map kwT (List.map (tokOf 0 s) ts) = ks
  rw [List.map_map, ← g2]
  rfl
end Go.Proofs.YtghmojcecefgjaaDoor
