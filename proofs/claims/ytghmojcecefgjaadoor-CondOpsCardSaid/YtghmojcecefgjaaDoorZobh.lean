/- Two numbers with a sign between: what they come to. Plain. -/
import Derived.Test.YtghmojcecefgjaaDoorZobg
set_option linter.unusedVariables false
set_option linter.unusedSimpArgs false
namespace Go.Proofs.YtghmojcecefgjaaDoor
open Go.RowKit
theorem signN_40 (c : UInt8) (r : List UInt8) (h1 : signs1.contains [c] = true) : signN (c :: 40 :: r) = 1 := by
  have key : ∀ (S : List (List UInt8)) (k : Nat), S.all (fun s => s.getD 1 0 != 40) = true → S.contains ((c :: 40 :: r).take (k + 2)) = false := by
    intro S k hS
    rw [Bool.eq_false_iff]
    intro q
    have hm : (c :: 40 :: r).take (k + 2) ∈ S := by simpa using q
    have := List.all_eq_true.1 hS _ hm
    simp at this
  unfold signN
  rw [key signs3 1 (by decide), key signs2 0 (by decide)]
  show (if false = true then 3 else if false = true then 2 else if signs1.contains [c] = true then 1 else 0) = 1
  rw [h1]; rfl
theorem piece_sg (c : UInt8) (r : List UInt8) (m : Nat) (hl : isLet c = false) (hd : isDig c = false) (hc : c ≠ 46 ∧ c ≠ 34 ∧ c ≠ 39) (hs : signN (c :: r) = m) (hm : 0 < m) : piece (c :: r) false = (5, some m) := by
  unfold piece
  simp only [hl, hd, hs]
  simp [hc.1, hc.2.1, hc.2.2, hm]
def signsO : List (List UInt8) := [[43], [45], [42], [38], [124], [94], [60], [62], [47], [37], [61, 61], [33, 61], [60, 61], [62, 61], [38, 38], [124, 124]]
theorem LX_sign (s : List UInt8) (hs : s ∈ signsO) {r : List UInt8} {ks : List (Int × List UInt8)} (H : LX (40 :: r) ks) : LX (s ++ 40 :: r) ((5, s) :: ks) := by
  simp only [signsO, List.mem_cons, List.not_mem_nil, or_false] at hs
  rcases hs with rfl | rfl | rfl | rfl | rfl | rfl | rfl | rfl | rfl | rfl | rfl | rfl | rfl | rfl | rfl | rfl
  · exact LX_cons (c := 43) (r := 40 :: r) (m := 1) (skip_stop (by decide) (by simp) (by simp)) (piece_sg 43 (40 :: r) 1 (by decide) (by decide) (by decide) (signN_40 43 r (by decide)) (by decide)) (by simp) H
  · exact LX_cons (c := 45) (r := 40 :: r) (m := 1) (skip_stop (by decide) (by simp) (by simp)) (piece_sg 45 (40 :: r) 1 (by decide) (by decide) (by decide) (signN_40 45 r (by decide)) (by decide)) (by simp) H
  · exact LX_cons (c := 42) (r := 40 :: r) (m := 1) (skip_stop (by decide) (by simp) (by simp)) (piece_sg 42 (40 :: r) 1 (by decide) (by decide) (by decide) (signN_40 42 r (by decide)) (by decide)) (by simp) H
  · exact LX_cons (c := 38) (r := 40 :: r) (m := 1) (skip_stop (by decide) (by simp) (by simp)) (piece_sg 38 (40 :: r) 1 (by decide) (by decide) (by decide) (signN_40 38 r (by decide)) (by decide)) (by simp) H
  · exact LX_cons (c := 124) (r := 40 :: r) (m := 1) (skip_stop (by decide) (by simp) (by simp)) (piece_sg 124 (40 :: r) 1 (by decide) (by decide) (by decide) (signN_40 124 r (by decide)) (by decide)) (by simp) H
  · exact LX_cons (c := 94) (r := 40 :: r) (m := 1) (skip_stop (by decide) (by simp) (by simp)) (piece_sg 94 (40 :: r) 1 (by decide) (by decide) (by decide) (signN_40 94 r (by decide)) (by decide)) (by simp) H
  · exact LX_cons (c := 60) (r := 40 :: r) (m := 1) (skip_stop (by decide) (by simp) (by simp)) (piece_sg 60 (40 :: r) 1 (by decide) (by decide) (by decide) (signN_40 60 r (by decide)) (by decide)) (by simp) H
  · exact LX_cons (c := 62) (r := 40 :: r) (m := 1) (skip_stop (by decide) (by simp) (by simp)) (piece_sg 62 (40 :: r) 1 (by decide) (by decide) (by decide) (signN_40 62 r (by decide)) (by decide)) (by simp) H
  · exact LX_cons (c := 47) (r := 40 :: r) (m := 1) (skip_stop (by decide) (by simp) (by simp)) (piece_sg 47 (40 :: r) 1 (by decide) (by decide) (by decide) (signN_40 47 r (by decide)) (by decide)) (by simp) H
  · exact LX_cons (c := 37) (r := 40 :: r) (m := 1) (skip_stop (by decide) (by simp) (by simp)) (piece_sg 37 (40 :: r) 1 (by decide) (by decide) (by decide) (signN_40 37 r (by decide)) (by decide)) (by simp) H
  · exact LX_cons (c := 61) (r := 61 :: 40 :: r) (m := 2) (skip_stop (by decide) (by simp) (by simp)) (piece_sg 61 (61 :: 40 :: r) 2 (by decide) (by decide) (by decide) rfl (by decide)) (by simp) H
  · exact LX_cons (c := 33) (r := 61 :: 40 :: r) (m := 2) (skip_stop (by decide) (by simp) (by simp)) (piece_sg 33 (61 :: 40 :: r) 2 (by decide) (by decide) (by decide) rfl (by decide)) (by simp) H
  · exact LX_cons (c := 60) (r := 61 :: 40 :: r) (m := 2) (skip_stop (by decide) (by simp) (by simp)) (piece_sg 60 (61 :: 40 :: r) 2 (by decide) (by decide) (by decide) rfl (by decide)) (by simp) H
  · exact LX_cons (c := 62) (r := 61 :: 40 :: r) (m := 2) (skip_stop (by decide) (by simp) (by simp)) (piece_sg 62 (61 :: 40 :: r) 2 (by decide) (by decide) (by decide) rfl (by decide)) (by simp) H
  · exact LX_cons (c := 38) (r := 38 :: 40 :: r) (m := 2) (skip_stop (by decide) (by simp) (by simp)) (piece_sg 38 (38 :: 40 :: r) 2 (by decide) (by decide) (by decide) rfl (by decide)) (by simp) H
  · exact LX_cons (c := 124) (r := 124 :: 40 :: r) (m := 2) (skip_stop (by decide) (by simp) (by simp)) (piece_sg 124 (124 :: 40 :: r) 2 (by decide) (by decide) (by decide) rfl (by decide)) (by simp) H
theorem litS_head (b : Int) : ∃ r, litS b = 40 :: r := by
  unfold litS
  by_cases h : b < 0
  · rw [if_pos h]; exact ⟨_, rfl⟩
  · rw [if_neg h]; exact ⟨_, rfl⟩
theorem sg_eval {l : List Token} (hl : l.length < 100000) (hc : clean l) (a b : Int) (ha : -9223372036854775808 ≤ a ∧ a ≤ 9223372036854775807) (hb : -9223372036854775808 ≤ b ∧ b ≤ 9223372036854775807) (s : List UInt8) (ht : 1 ≤ tightV s)
    (hK : l.map kwT = litK a ++ (5, s) :: litK b) :
    (∀ v, combV s a b 0 = .inl v → evalV l = (v, 0, -1, 0)) ∧ (∀ e, combV s a b 0 = .inr e → (evalV l).1 = 0 ∧ (evalV l).2.1 = e) := by
  have hlen : l.length = (litK a).length + 1 + (litK b).length := by
    have := congrArg List.length hK
    simp only [List.length_map, List.length_append, List.length_cons] at this
    omega
  have kA : ∀ k, k < (litK a).length → (l.map kwT)[0 + k]? = (litK a)[k]? := fun k hk => by rw [Nat.zero_add, hK, get_in k hk]
  have kS : (l.map kwT)[(litK a).length]? = some (5, s) := by rw [hK]; exact get_app 0
  have kB : ∀ k, k < (litK b).length → (l.map kwT)[(litK a).length + 1 + k]? = (litK b)[k]? := fun k hk => by
    rw [hK, Nat.add_assoc, get_app, Nat.add_comm 1 k, List.getElem?_cons_succ]
  obtain ⟨ss, _, _⟩ := sign_of l _ s kS
  let M := 3 * l.length
  have hend : signAt l ((litK a).length + 1 + (litK b).length) = [] := sign_out l _ (by omega)
  have hbb : (pV l (M + 19)).2.1 1 0 0 0 = lopV (pV l (M + 18)).2.1 l 1 (l.length + 1) a (litK a).length 0 0 := by
    have := lit_at (z := 0) (d := 0) a ha.1 ha.2 kA (by omega) (M + 13)
    rw [Nat.zero_add] at this
    exact bin_at this
  obtain ⟨q, hq⟩ : ∃ q, l.length + 1 = q + 1 + 1 := ⟨l.length - 1, by omega⟩
  have hB : ∀ t z, (pV l (M + 18)).2.1 t ((litK a).length + 1) 0 z = .ok b ((litK a).length + 1 + (litK b).length) := fun t z =>
    bin_stop (lit_at (z := z) (d := 0) b hb.1 hb.2 kB (by omega) (M + 12)) (by rw [hend]; exact Or.inl rfl)
  rw [hq, lop_step (b := b) (j := (litK a).length + 1 + (litK b).length) (by rw [ss]; omega) (hB _ _), ss] at hbb
  rw [evalV_of (by omega) hc (M + 20) (by omega)]
  constructor
  · intro v hv
    rw [hv] at hbb
    have hbb : (pV l (M + 19)).2.1 1 0 0 0 = lopV (pV l (M + 18)).2.1 l 1 (q + 1) v ((litK a).length + 1 + (litK b).length) 0 0 := hbb
    rw [lop_stop (by rw [hend]; exact Or.inl rfl)] at hbb
    rw [cho_stop hbb (by rw [hend]; decide)]
    exact if_neg (by omega)
  · intro e he
    rw [he] at hbb
    have hbb : (pV l (M + 19)).2.1 1 0 0 0 = .er e _ _ := hbb
    rw [cho_er hbb]
    exact ⟨rfl, rfl⟩
theorem sg_text (a b : Int) (ha : -9223372036854775808 ≤ a ∧ a ≤ 9223372036854775807) (hb : -9223372036854775808 ≤ b ∧ b ≤ 9223372036854775807) (s : List UInt8) (hs : s ∈ signsO) :
    (∀ v, combV s a b 0 = .inl v → evalT (litS a ++ s ++ litS b) = (v, ⟨0, -1, 0⟩)) ∧ (∀ e, combV s a b 0 = .inr e → (evalT (litS a ++ s ++ litS b)).1 = 0 ∧ (evalT (litS a ++ s ++ litS b)).2.Err = e) := by
  have la := litS_len a ha.1 ha.2
  have lb := litS_len b hb.1 hb.2
  have hsp : (s.length ≤ 2 ∧ 1 ≤ tightV s) ∧ ∀ c ∈ s, c ≠ 92 ∧ c ≠ 10 := by
    revert s
    decide
  obtain ⟨r, hr⟩ := litS_head b
  have hX : LX (litS b) (litK b) := by have := LX_lit b LX_nil; simpa using this
  have hL : LX (litS a ++ s ++ litS b) (litK a ++ (5, s) :: litK b) := by
    rw [List.append_assoc, hr]
    rw [hr] at hX
    exact LX_lit a (LX_sign s hs hX)
  have hlen : (litS a ++ s ++ litS b).length ≤ 100 := by simp only [List.length_append]; omega
  obtain ⟨h1, h2⟩ := toks_of (by omega) (plain_app (plain_app (litS_plain a) hsp.2) (litS_plain b)) hL
  obtain ⟨g1, g2⟩ := sg_eval (by have := (toksV_small 0 (litS a ++ s ++ litS b)).1; omega) (toks_clean _) a b ha hb s hsp.1.2 h2
  rw [evalT_ok h1]
  constructor
  · intro v hv; rw [g1 v hv]
  · intro e he; exact g2 e he
end Go.Proofs.YtghmojcecefgjaaDoor
