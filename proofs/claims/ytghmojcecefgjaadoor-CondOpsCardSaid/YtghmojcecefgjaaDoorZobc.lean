/- Numerals: their letters, and that Num reads them. Plain. -/
import Derived.Test.YtghmojcecefgjaaDoorZobb
import Derived.Lib.ItoaLen
set_option linter.unusedVariables false
set_option linter.unusedSimpArgs false
namespace Go.Proofs.YtghmojcecefgjaaDoor
open Go.RowKit
theorem dec_small (u : Nat) (h : u < 10) : Lib.decDigits u = [UInt8.ofNat (48 + u)] := Lib.decDigits_one h
theorem dec_big (u : Nat) (h : ¬ u < 10) : Lib.decDigits u = Lib.decDigits (u / 10) ++ [UInt8.ofNat (48 + u % 10)] := by
  rw [Lib.decDigits, dif_neg h]
theorem ofNat_dig (k : Nat) (h : k < 10) : (UInt8.ofNat (48 + k)).toNat = 48 + k := by
  rw [UInt8.toNat_ofNat']
  omega
theorem dec_dig : ∀ (n u : Nat), u < n → ∀ c ∈ Lib.decDigits u, 48 ≤ c.toNat ∧ c.toNat ≤ 57 := by
  intro n
  induction n with
  | zero => intro u h; omega
  | succ n ih =>
    intro u h c hc
    by_cases h1 : u < 10
    · rw [dec_small u h1, List.mem_singleton] at hc
      rw [hc, ofNat_dig u h1]; omega
    · rw [dec_big u h1] at hc
      rcases List.mem_append.1 hc with hc | hc
      · exact ih (u / 10) (by omega) c hc
      · rw [List.mem_singleton] at hc
        rw [hc, ofNat_dig (u % 10) (by omega)]; omega
theorem dec_ne (u : Nat) : Lib.decDigits u ≠ [] := by
  by_cases h1 : u < 10
  · rw [dec_small u h1]; simp
  · rw [dec_big u h1]; simp
theorem digB_dec (k : Nat) (h : k < 10) : digB (UInt8.ofNat (48 + k)).toNat = k := by
  rw [ofNat_dig k h]
  unfold digB
  rw [if_pos (by omega)]
  omega
theorem dec_parse : ∀ (n u : Nat), u < n → u < 18446744073709551616 → ∀ r, parseB 10 0 (Lib.decDigits u ++ r) = parseB 10 u r := by
  intro n
  induction n with
  | zero => intro u h; omega
  | succ n ih =>
    intro u h hu r
    by_cases h1 : u < 10
    · rw [dec_small u h1, List.singleton_append, parseB, digB_dec u h1, if_pos h1, if_neg (by omega)]
      congr 1; omega
    · rw [dec_big u h1, List.append_assoc, ih (u / 10) (by omega) (by omega), List.singleton_append, parseB, digB_dec (u % 10) (by omega), if_pos (by omega), if_neg (by omega)]
      congr 1; omega
theorem dec_head : ∀ (n u : Nat), u < n → 1 ≤ u → (Lib.decDigits u).getD 0 0 ≠ 48 := by
  intro n
  induction n with
  | zero => intro u h; omega
  | succ n ih =>
    intro u h h0
    by_cases h1 : u < 10
    · rw [dec_small u h1]
      show UInt8.ofNat (48 + u) ≠ 48
      intro q
      have := congrArg UInt8.toNat q
      rw [ofNat_dig u h1] at this
      have e : (48 : UInt8).toNat = 48 := rfl
      omega
    · rw [dec_big u h1]
      have := ih (u / 10) (by omega) (by omega)
      cases hd : Lib.decDigits (u / 10) with
      | nil => exact absurd hd (dec_ne _)
      | cons c t => rw [hd] at this; exact this
theorem dec_len (u : Nat) (h : 1 < (Lib.decDigits u).length) : 1 ≤ u := by
  by_cases h1 : u < 10
  · rw [dec_small u h1] at h; simp at h
  · omega
theorem strip_dig (q : List UInt8) (h : ∀ c ∈ q, 48 ≤ c.toNat ∧ c.toNat ≤ 57) : strip q = q := by
  unfold strip
  cases hr : q.reverse with
  | nil => rw [List.reverse_eq_nil_iff.1 hr]; rfl
  | cons c t =>
    have hc : isUL c = false := by
      have := h c (by rw [← List.mem_reverse, hr]; simp)
      unfold isUL
      have e : ∀ k : UInt8, 57 < k.toNat → decide (c = k) = false := fun k hk => decide_eq_false fun q => by rw [q] at this; omega
      rw [e 76 (by decide), e 85 (by decide), e 108 (by decide), e 117 (by decide)]; rfl
    cases t with
    | nil => rw [stripR, ← hr, List.reverse_reverse]
    | cons d r => rw [stripR, if_neg (by rw [hc]; decide), ← hr, List.reverse_reverse]
theorem num_dec (u : Nat) (h : u < 9223372036854775808) : numV (Lib.decDigits u) = ((u : Int), true) := by
  have hd := dec_dig (u + 1) u (by omega)
  have hn := dec_ne u
  unfold numV
  rw [strip_dig _ hd]
  have hx : ∀ k : UInt8, 57 < k.toNat → ¬ (Lib.decDigits u).take 2 = [48, k] := by
    intro k hk q
    have hm : k ∈ (Lib.decDigits u).take 2 := by rw [q]; simp
    have := hd k (List.mem_of_mem_take hm)
    omega
  have hp : parseB 10 0 (Lib.decDigits u) = .ok u := by
    have := dec_parse (u + 1) u (by omega) (by omega) []
    rw [List.append_nil] at this
    exact this
  unfold numT
  rw [if_neg (fun z => z.2.elim (hx 120 (by decide)) (hx 88 (by decide))), if_neg (fun z => dec_head (u + 1) u (by omega) (dec_len u z.1) z.2)]
  unfold numF
  have hI : parseI 10 (Lib.decDigits u) = some (u : Int) := by
    cases hl : Lib.decDigits u with
    | nil => exact absurd hl hn
    | cons c t =>
      have hc := hd c (by rw [hl]; simp)
      have n43 : c ≠ 43 := by rintro rfl; revert hc; decide
      have n45 : c ≠ 45 := by rintro rfl; revert hc; decide
      rw [parseI, if_neg n43, if_neg n45]
      unfold parseU
      rw [if_neg (by simp), ← hl, hp]
      exact if_neg (by omega)
  rw [hI]
  have hg : 48 ≤ ((Lib.decDigits u).getD 0 0).toNat := by
    cases hl : Lib.decDigits u with
    | nil => exact absurd hl hn
    | cons c t => exact (hd c (by rw [hl]; simp)).1
  show (if (Lib.decDigits u).getD 0 0 = 43 then _ else if (Lib.decDigits u).getD 0 0 = 45 then _ else _) = _
  rw [if_neg (fun q => by rw [q] at hg; revert hg; decide), if_neg (fun q => by rw [q] at hg; revert hg; decide)]
end Go.Proofs.YtghmojcecefgjaaDoor
