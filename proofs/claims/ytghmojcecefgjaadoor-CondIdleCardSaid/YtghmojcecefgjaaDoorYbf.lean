/- CondIdle is true of all numbers. Plain. -/
import Derived.Test.YtghmojcecefgjaaDoorYbc
import Derived.Test.YtghmojcecefgjaaDoorYbe
set_option linter.unusedVariables false
set_option linter.unusedSimpArgs false
namespace Go.Proofs.YtghmojcecefgjaaDoor
open Go.RowKit
theorem itoa_eq (n : Int) (h0 : 0 ≤ n) (h1 : n ≤ 9223372036854775807) : strconv_Itoa n = some (Lib.decDigits n.toNat) := by
  unfold strconv_Itoa
  rw [if_pos ⟨by omega, h1⟩]
  unfold Lib.itoa
  rw [if_neg (by omega)]
theorem lit_eq (a : Int) (ha : -9223372036854775808 ≤ a ∧ a ≤ 9223372036854775807) : prelaw4_lit a = some (litS a) := by
  unfold prelaw4_lit litS
  by_cases h : a < 0
  · have hl := Lib.nDigits_le20 (-1 - a).toNat (by omega)
    rw [li_t h, if_pos rfl, wr _ (by omega), itoa_eq _ (by omega) (by omega), Option.bind_some, if_pos h]
    rw [if_pos (show 2 + (Lib.decDigits (-1 - a).toNat).length ≤ 9223372036854775807 by rw [Lib.decDigits_length]; omega), if_pos (show 2 + (Lib.decDigits (-1 - a).toNat).length + 1 ≤ 9223372036854775807 by rw [Lib.decDigits_length]; omega)]
  · have hl := Lib.nDigits_le20 a.toNat (by omega)
    rw [li_f h, if_neg (by decide), itoa_eq _ (by omega) (by omega), Option.bind_some, if_neg h]
    rw [if_pos (show 1 + (Lib.decDigits a.toNat).length ≤ 9223372036854775807 by rw [Lib.decDigits_length]; omega), if_pos (show 1 + (Lib.decDigits a.toNat).length + 1 ≤ 9223372036854775807 by rw [Lib.decDigits_length]; omega)]
theorem idle_text {s : List UInt8} {ks : List (Int × List UInt8)} (hl : s.length ≤ 100) (hp : ∀ c ∈ s, c ≠ 92 ∧ c ≠ 10) (H : LX s ks) :
    ∃ l : List Token, l.length < 100000 ∧ clean l ∧ l.map kwT = ks ∧ (evalT s).1 = (evalV l).1 ∧ (evalT s).2.Err = (evalV l).2.1 := by
  obtain ⟨h1, h2⟩ := toks_of (by omega) hp H
  refine ⟨(toksV 0 s).1, by have := (toksV_small 0 s).1; omega, toks_clean s, h2, ?_, ?_⟩
  · rw [evalT_ok h1]
  · rw [evalT_ok h1]
theorem plain_app {a b : List UInt8} (h : ∀ c ∈ a, c ≠ 92 ∧ c ≠ 10) (g : ∀ c ∈ b, c ≠ 92 ∧ c ≠ 10) : ∀ c ∈ a ++ b, c ≠ 92 ∧ c ≠ 10 := fun c hc => (List.mem_append.1 hc).elim (h c) (g c)
theorem condIdle_all (a b : Int) (ha : -9223372036854775808 ≤ a ∧ a ≤ 9223372036854775807) (hb : -9223372036854775808 ≤ b ∧ b ≤ 9223372036854775807) : prelaw4_CondIdle a b = some true := by
  have la := litS_len a ha.1 ha.2
  have lb := litS_len b hb.1 hb.2
  obtain ⟨l1, c1, c2, c3, c4, c5⟩ := idle_text (s := litS a ++ (32 :: 63 :: 32 :: (litS b ++ [32, 58, 32, 40, 49, 47, 48, 41]))) (by simp; omega)
    (plain_app (litS_plain a) (plain_app (a := [32, 63, 32]) (by decide) (plain_app (litS_plain b) (by decide))))
    (LX_lit a (LX_sp (LX_one (by decide) (by decide) (by decide) (by decide) (by decide) (by decide) (by decide) (LX_sp (LX_lit b LX_t1)))))
  obtain ⟨l2, d1, d2, d3, d4, d5⟩ := idle_text (s := litS a ++ [32, 38, 38, 32, 40, 49, 37, 48, 41, 32, 124, 124, 32, 49]) (by simp; omega) (plain_app (litS_plain a) (by decide)) (LX_lit a LX_t2)
  obtain ⟨l3, e1, e2, e3, e4, e5⟩ := idle_text (s := litS a ++ [32, 124, 124, 32, 40, 49, 47, 48, 41]) (by simp; omega) (plain_app (litS_plain a) (by decide)) (LX_lit a LX_t3)
  obtain ⟨f1, f2⟩ := s1_eval c1 c2 a b ha hb c3
  obtain ⟨g1, g2⟩ := s2_eval d1 d2 a ha d3
  obtain ⟨h1, h2⟩ := s3_eval e1 e2 a ha e3
  rw [← c5, ← c4] at *
  rw [← d5, ← d4] at *
  rw [← e5, ← e4] at *
  unfold prelaw4_CondIdle
  rw [alive4_eq, Option.bind_some, if_neg (by decide), lit_eq a ha, Option.bind_some, lit_eq b hb, Option.bind_some,
    if_pos (show (litS a).length + 3 ≤ 9223372036854775807 by omega), if_pos (show (litS a).length + 3 + (litS b).length ≤ 9223372036854775807 by omega), if_pos (show (litS a).length + 3 + (litS b).length + 8 ≤ 9223372036854775807 by omega),
    show ((litS a ++ [32, 63, 32]) ++ litS b) ++ [32, 58, 32, 40, 49, 47, 48, 41] = litS a ++ (32 :: 63 :: 32 :: (litS b ++ [32, 58, 32, 40, 49, 47, 48, 41])) by simp,
    peval_eq _ (by simp; omega), Option.bind_some, if_pos (show (litS a).length + 14 ≤ 9223372036854775807 by omega), peval_eq _ (by simp; omega), Option.bind_some, if_pos (show (litS a).length + 9 ≤ 9223372036854775807 by omega), peval_eq _ (by simp; omega), Option.bind_some]
  generalize evalT (litS a ++ (32 :: 63 :: 32 :: (litS b ++ [32, 58, 32, 40, 49, 47, 48, 41]))) = r4 at *
  generalize evalT (litS a ++ [32, 38, 38, 32, 40, 49, 37, 48, 41, 32, 124, 124, 32, 49]) = r5 at *
  generalize evalT (litS a ++ [32, 124, 124, 32, 40, 49, 47, 48, 41]) = r6 at *
  by_cases h0 : a = 0
  · obtain ⟨g3, g4⟩ := g2 h0
    rw [ei_t h0, if_neg (by decide), ei_t (f1 h0), if_pos rfl, ei_t g4, if_pos rfl, ei_t g3, if_pos rfl, ei_t (h1 h0)]
    rfl
  · obtain ⟨f3, f4⟩ := f2 h0
    obtain ⟨h3, h4⟩ := h2 h0
    rw [ei_f h0, if_pos (by decide), ei_t f4, if_pos rfl, ei_t f3, if_pos rfl, ei_t (g1 h0), if_pos rfl, ei_t h4, if_pos rfl, ei_t h3]
    rfl
end Go.Proofs.YtghmojcecefgjaaDoor
