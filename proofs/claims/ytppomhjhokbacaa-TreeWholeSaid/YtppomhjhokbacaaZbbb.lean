/- The tree's parser, plain: functions, files. -/
import Derived.Test.YtppomhjhokbacaaZbba
set_option linter.unusedVariables false
set_option linter.unusedSimpArgs false
namespace Go.Proofs.Ytppomhjhokbacaa
open Go.RowKit
section
variable {l l2 : TL} {d lim p D : Nat} {K K2 : List KD}
theorem params_ok (S : Sim l l2 d lim) (hD : D ≤ 30) : ∀ (n p p0 : Nat) (ks : List Node) (K0 K K2 : List KD) (Y : STR), l.length - p = n → p0 < p → p ≤ l.length → WP l p0 p (fun i => cnts i ks) (nszs ks) → nszs ks + 1 ≤ 2 * (p - p0) →
    KP2 l d (K0 ++ [[]]) K K2 p → 0 < K0.length → (p < lim → Y = loopO (tree_parser_outer_v2_b2 l2) (((p + d : Nat) : Int), (D : Int), K2, mvs d ks)) →
    Sm (loopO (tree_parser_outer_v2_b2 l) ((p : Int), (D : Int), K, ks)) (okr (TRes l d (l.length + 1) p0 D K0 Y)) := by
  intro n
  induction n using Nat.strongRecOn with
  | ind n ih =>
    intro p p0 ks K0 K K2 Y hn h0 hp hw hsz hk hK0 hY
    have hl1 := S.l1
    have hb := S.b hp
    rw [lpO_eq]
    have hY : p < lim → Y = lpO (tree_parser_outer_v2_b2 l2) (tree_parser_outer_v2_b2 l2 (((p + d : Nat) : Int), (D : Int), K2, mvs d ks)) := fun h => by rw [hY h, lpO_eq]
    refine Sm.lp ?_
    simp only [tree_parser_outer_v2_b2] at hY ⊢
    rw [eat_is hb]
    by_cases hc : wd l p = [41]
    · -- what it does
      rw [if_pos hc]
      obtain ⟨hlt, hwa⟩ := wd_want S.ok hc (by decide)
      simp only [Option.bind_some, Bool.not_true, Bool.false_eq_true, if_false]
      refine Sm.inrO (Sm.grB (blocks_ok S hD (p + 1) K K2 (by omega) (hk.k.mono (by omega))) (fun r hr1 hr => ?_) (fun e he => Sm.some (Sm.some he)))
      obtain ⟨ks1, q, K', K2', rfl, hq0, hqw, hqs, hqk, hqY⟩ := hr
      have hlen := len_nszs ks
      have rm := room (ks := ks) hw hlen S.ok.len
      have hlen2 := hqk.len
      have hlen3 := hk.len
      simp only [List.length_append, List.length_cons, List.length_nil, Nat.zero_add] at hlen3
      have hle2 := hqk.k.e.len
      simp only [List.length_cons, List.length_nil, Nat.zero_add]
      rw [if_pos rm, if_pos (by omega)]
      have hkid : WP l p0 q (fun i => cnts i (ks ++ [⟨5, -1, ks1⟩])) (nszs (ks ++ [⟨5, -1, ks1⟩])) := (hw.step hlt hwa).kid (hqw.node (k := 5) (by omega) (by omega))
      refine Sm.some (Sm.some ⟨3, -1, _, q, _, _, rfl, by omega, hkid.node (by omega) (by have := hqw.le; rw [nszs_app]; simp only [nszs, nsz]; omega), ⟨hqk.k.pop (by omega), by simp; omega, fun a b => (hqk.af a (hk.af a b.push)).pop⟩, fun _ => ?_⟩)
      rw [hY (by omega), S.eat _ (by omega) hp, if_pos hc]
      simp only [Option.bind_some, Bool.not_true, Bool.false_eq_true, if_false]
      rw [hqY]
      simp only [grB, List.length_cons, List.length_nil, Nat.zero_add, mvs_len]
      rw [if_pos rm, if_pos (by omega), mvs_app, mvs1, mvN]
      rfl
    · rw [if_neg hc]
      -- one more
      have more : ∀ m : Nat, p ≤ m → m ≤ l.length → (m < lim → Y = lpO (tree_parser_outer_v2_b2 l2) (tree_parser_outer_v2_j3 l2 (D : Int) K2 (mvs d ks) ((m + d : Nat) : Int))) → WP l p0 m (fun i => cnts i ks) (nszs ks) →
          Sm (tree_parser_outer_v2_j3 l (D : Int) K ks (m : Int)) fun o => Sm (lpO (tree_parser_outer_v2_b2 l) (some o)) (okr (TRes l d (l.length + 1) p0 D K0 Y)) := by
        intro m hpm hm hYm hwm
        simp only [tree_parser_outer_v2_j3] at hYm ⊢
        rcases typ_is (D := D) S.ok (hk.k.b.mono hpm) hm with ⟨hlt, ht, he⟩ | ⟨e, he⟩
        rotate_left
        · rw [he]; exact Sm.inrO (Sm.some (Sm.some (nzI (by decide))))
        rw [he]
        simp only [grB]
        refine Sm.grB (declr S hD false (fun h => by cases h) (show m + 1 ≤ l.length by omega) (hk.k.mono (by omega))) (fun r hr1 hr => ?_) (fun e he => Sm.inrO (Sm.some (Sm.some he)))
        obtain ⟨t1, ks1, q, K', K2', rfl, hq0, hqw, hqk, hqY⟩ := hr
        have hlen := len_nszs ks
        have rm := room (ks := ks) hwm hlen S.ok.len
        simp only [List.length_cons, List.length_nil, Nat.zero_add]
        rw [if_pos (show (1 + 1) * 40 ≤ 140737488355328 by decide), if_pos rm]
        have hdk : WP l m q (fun i => cnt i ⟨2, -1, [(⟨16, (m : Int), []⟩ : Node)] ++ [(⟨4, (t1 : Int), ks1⟩ : Node)]⟩) (nsz ⟨2, -1, [(⟨16, (m : Int), []⟩ : Node)] ++ [(⟨4, (t1 : Int), ks1⟩ : Node)]⟩) :=
          ((WP.tok hlt (s := 2) (by omega)).app hqw).of (fun i => by
            have : ¬ ((-1 : Int) = (i : Int)) := by omega
            simp only [cnt, cnts, List.cons_append, List.nil_append, if_neg this]
            omega) (by simp only [nsz, nszs, List.cons_append, List.nil_append]; omega)
        have hkid := hwm.kid hdk
        refine Sm.some (ih (l.length - q) (by omega) q p0 _ K0 K' K2' Y rfl (by omega) hqw.le.2 hkid (by
          have := hqw.sz
          rw [nszs_app]
          simp only [nszs, nsz, List.cons_append, List.nil_append] at this ⊢
          omega) (hk.trans hqk) hK0 (fun h => ?_))
        rw [hYm (by omega), S.typ (hk.k.mono hpm) hlt ht]
        simp only [grB]
        rw [hqY h]
        simp only [List.length_cons, List.length_nil, Nat.zero_add, mvs_len]
        rw [if_pos (show (1 + 1) * 40 ≤ 140737488355328 by decide), if_pos rm, mvs_app, mvs1]
        simp only [List.cons_append, List.nil_append, mvN, mvs, mvt_nat]
        rfl
      simp only [Option.bind_some, Bool.not_false, if_true, ltI, decide_eq_true_eq]
      by_cases h1 : (2 : Int) < (ks.length : Int)
      · rw [if_pos h1]
        rcases must_is (l := l) (p := p) (deep := (D : Int)) (K := K) (s := [44]) (S.b1 hp) with ⟨hm, he⟩ | ⟨_, e, he⟩
        · obtain ⟨hlt, hwa⟩ := wd_want S.ok hm (by decide)
          rw [he]
          simp only [grB]
          refine more (p + 1) (by omega) (by omega) (fun _ => ?_) (hw.step hlt hwa)
          rw [hY (by omega), S.eat _ (by omega) hp, if_neg hc]
          simp only [Option.bind_some, Bool.not_false, if_true, ltI, decide_eq_true_eq]
          rw [if_pos (by rw [mvs_len]; exact h1), S.must _ hlt hm]
          rfl
        · rw [he]
          exact Sm.inrO (Sm.some (Sm.some (nzI (by decide))))
      · rw [if_neg h1]
        refine more p (Nat.le_refl _) hp (fun hl => ?_) hw
        rw [hY hl, S.eat _ hl hp, if_neg hc]
        simp only [Option.bind_some, Bool.not_false, if_true, ltI, decide_eq_true_eq]
        rw [if_neg (by rw [mvs_len]; exact h1)]
theorem outer_ok (S : Sim l l2 d lim) (hD : D ≤ 30) (hp : p < l.length) (hk : KK K K2 p d) : Sm (tree_parser_outer_v2 l (p : Int) (D : Int) K) (okr (TRes l d (l.length + 1) p D K (tree_parser_outer_v2 l2 ((p + d : Nat) : Int) (D : Int) K2))) := by
  have hl1 := S.l1
  have hpl := Nat.le_of_lt hp
  generalize hYd : tree_parser_outer_v2 l2 ((p + d : Nat) : Int) (D : Int) K2 = Y
  unfold tree_parser_outer_v2
  rw [peek_is]
  simp only [Option.bind_some, eqSd, decide_eq_true_eq]
  by_cases hc : wd l p = [116, 121, 112, 101, 100, 101, 102]
  · rw [if_pos hc]
    refine Sm.grB (decl_ok S hD hpl hk) (fun r hr1 hr => ?_) (fun e he => Sm.some he)
    obtain ⟨ks, q, K', K2', rfl, hq0, hqw, hqs, hqk, hqY⟩ := hr
    refine Sm.some ⟨2, -1, ks, q, K', K2', rfl, hq0, hqw.node (by omega) (by omega), hqk, fun h => ?_⟩
    rw [← hYd]
    unfold tree_parser_outer_v2
    rw [S.peek (by omega)]
    simp only [Option.bind_some, eqSd, decide_eq_true_eq]
    rw [if_pos hc, hqY]
    rfl
  · rw [if_neg hc]
    rcases typ_is (D := D) S.ok hk.b hpl with ⟨hlt, ht, he⟩ | ⟨e, he⟩
    rotate_left
    · rw [he]; exact Sm.some (nzI (by decide))
    rw [he]
    simp only [grB]
    refine Sm.grB (declr S hD false (fun h => by cases h) (show p + 1 ≤ l.length by omega) (hk.mono (by omega))) (fun r hr1 hr => ?_) (fun e he => Sm.some he)
    obtain ⟨t1, ks1, q, K', K2', rfl, hq0, hqw, hqk, hqY⟩ := hr
    have hY : q < lim → Y = if ltI 0 ((mvs d ks1).length : Int) = true then tree_parser_outer_v2_j1 l2 (((p + d : Nat) : Int), ((p + 1 + d : Nat) : Int)) (((t1 + d : Nat) : Int), mvs d ks1, ((q + d : Nat) : Int), (D : Int), K2') (true, ((q + d : Nat) : Int)) else (tree_parser_eat [40] l2 ((q + d : Nat) : Int) (D : Int) K2').bind fun r11 => tree_parser_outer_v2_j1 l2 (((p + d : Nat) : Int), ((p + 1 + d : Nat) : Int)) (((t1 + d : Nat) : Int), mvs d ks1, ((q + d : Nat) : Int), (D : Int), K2') (!r11.1, r11.2) := fun h => by
      rw [← hYd]
      unfold tree_parser_outer_v2
      rw [S.peek (by omega)]
      simp only [Option.bind_some, eqSd, decide_eq_true_eq]
      rw [if_neg hc, S.typ hk hlt ht]
      simp only [grB]
      rw [hqY h]
    have hw1 : WP l p q (fun i => cnts i [(⟨16, (p : Int), []⟩ : Node)] + cnt i ⟨4, (t1 : Int), ks1⟩) (nszs [(⟨16, (p : Int), []⟩ : Node)] + nsz ⟨4, (t1 : Int), ks1⟩) := ((WP.tok hlt (s := 1) (by omega)).app hqw).of (fun i => by simp [cnt, cnts]) (by simp [nsz, nszs])
    -- no function
    have rest : (q < lim → Y = tree_parser_outer_v2_j1 l2 (((p + d : Nat) : Int), ((p + 1 + d : Nat) : Int)) (((t1 + d : Nat) : Int), mvs d ks1, ((q + d : Nat) : Int), (D : Int), K2') (true, ((q + d : Nat) : Int))) →
        Sm (tree_parser_outer_v2_j1 l ((p : Int), ((p + 1 : Nat) : Int)) ((t1 : Int), ks1, (q : Int), (D : Int), K') (true, (q : Int))) (okr (TRes l d (l.length + 1) p D K Y)) := fun hY => by
      simp only [tree_parser_outer_v2_j1, if_true, tree_parser_rest] at hY ⊢
      refine Sm.grB (rest_ok S hD false (fun h => by cases h) _ q q p t1 _ ks1 K K' K2' (loopO (tree_parser_rest_b1 false l2) (((q + d : Nat) : Int), (D : Int), K2', mvs d [(⟨16, (p : Int), []⟩ : Node)], 4, ((t1 + d : Nat) : Int), mvs d ks1)) rfl (by omega) (Nat.le_refl _) hqw.le.2 hw1 hqk (fun _ => rfl)) (fun r hr1 hr => ?_) (fun e he => Sm.some he)
      obtain ⟨ks2, q2, K3, K4, rfl, hq20, hq2w, hq2s, hq2k, hq2Y⟩ := hr
      refine Sm.some ⟨2, -1, ks2, q2, K3, K4, rfl, by omega, hq2w.node (by omega) (by omega), hq2k, fun _ => ?_⟩
      have hle := hq2w.le
      rw [hY (by omega), show ([(⟨16, ((p + d : Nat) : Int), []⟩ : Node)] : List Node) = mvs d [(⟨16, (p : Int), []⟩ : Node)] by rw [mvs1, mvN, mvt_nat]; rfl, hq2Y]
      rfl
    simp only [ltI, decide_eq_true_eq] at hY ⊢
    by_cases h0 : (0 : Int) < (ks1.length : Int)
    · rw [if_pos h0]
      exact rest (fun h => by rw [hY h, if_pos (by rw [mvs_len]; exact h0)])
    · rw [if_neg h0, eat_is (S.b hqw.le.2)]
      have hY : q < lim → Y = (tree_parser_eat [40] l2 ((q + d : Nat) : Int) (D : Int) K2').bind fun r11 => tree_parser_outer_v2_j1 l2 (((p + d : Nat) : Int), ((p + 1 + d : Nat) : Int)) (((t1 + d : Nat) : Int), mvs d ks1, ((q + d : Nat) : Int), (D : Int), K2') (!r11.1, r11.2) := fun h => by rw [hY h, if_neg (by rw [mvs_len]; exact h0)]
      by_cases hc2 : wd l q = [40]
      · rw [if_pos hc2]
        obtain ⟨hlt2, hwa2⟩ := wd_want S.ok hc2 (by decide)
        simp only [Option.bind_some, Bool.not_true, tree_parser_outer_v2_j1, Bool.false_eq_true, if_false]
        have hkl := hqk.k.b.1
        have hkl2 := hqk.k.e.len
        have hB := S.ok.len
        have hbl : BL = 1000000000000 := rfl
        rw [if_pos (by omega)]
        have hks : ks1 = [] := List.eq_nil_of_length_eq_zero (by omega)
        subst hks
        have hw2 : WP l p (q + 1) (fun i => cnts i [(⟨16, (p : Int), []⟩ : Node), ⟨4, (t1 : Int), []⟩]) (nszs [(⟨16, (p : Int), []⟩ : Node), ⟨4, (t1 : Int), []⟩]) := (hw1.step hlt2 hwa2).of (fun i => by simp [cnts, cnt]) (by simp [nszs, nsz])
        have hlen := hqk.len
        have hlen0 := hk.e.len
        have hres := params_ok S hD _ (q + 1) p _ K' (K' ++ [[]]) (K2' ++ [[]]) Y rfl (by omega) (by omega) hw2 (by simp only [nszs, nsz]; omega) (KP2.self hqk.k.push) (by omega) (fun _ => by
          rw [hY (by omega), S.eat _ (by omega) hqw.le.2, if_pos hc2]
          simp only [Option.bind_some, Bool.not_true, tree_parser_outer_v2_j1, Bool.false_eq_true, if_false]
          rw [if_pos (by omega)]
          simp only [mvs, mvN, mvt_nat])
        refine hres.mono (fun o ho => ?_)
        cases o with
        | er e => exact ho
        | ok r =>
          obtain ⟨k, t, ks, q', K3, K4, h1, h2, h3, h4, h5⟩ := ho
          exact ⟨k, t, ks, q', K3, K4, h1, h2, h3, ⟨h4.k, h4.len.trans hqk.len, fun a b => h4.af a (hqk.af a b)⟩, h5⟩
      · rw [if_neg hc2]
        simp only [Option.bind_some, Bool.not_false]
        refine rest (fun h => ?_)
        rw [hY h, S.eat _ h hqw.le.2, if_neg hc2]
        rfl
end
end Go.Proofs.Ytppomhjhokbacaa
