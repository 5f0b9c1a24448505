/- The tree's parser, plain: whole texts. -/
import Derived.Test.YtppomhjhokbacaaZbax
import Derived.Test.YtppomhjhokbacaaZbbb
set_option linter.unusedVariables false
set_option linter.unusedSimpArgs false
namespace Go.Proofs.Ytppomhjhokbacaa
open Go.RowKit
section
variable {l l2 : TL} {d lim p : Nat} {K K2 : List KD}
theorem set_last (ks : List Node) (x y : Node) : (ks ++ [x]).set ks.length y = ks ++ [y] := by
  rw [List.set_append_right _ _ (Nat.le_refl _), Nat.sub_self]
  rfl
def PRes (l l2 : TL) (d : Nat) (ks ks2 : List Node) (K : List KD) (Y : Option (Int × Int × Int × Int × Int × List Node)) (r : Int × Int × Int × Int × Int × List Node) : Prop :=
  (∃ e f a, r = (0, 0, e, f, a, []) ∧ e ≠ 0) ∨ ∃ (ks' : List Node) (K' K2' : List KD), r = (1, -1, 0, -1, 0, ks ++ ks') ∧ WP l 0 l.length (fun i => cnts i (ks ++ ks')) (nszs (ks ++ ks')) ∧ KP2 l d K K' K2' l.length ∧
    Y = loopO (tree_Parse_b1 l2) (((l.length + d : Nat) : Int), 0, K2', ks2 ++ mvs d ks')
theorem parse_loop (S : Sim l l2 d lim) : ∀ (n p : Nat) (ks ks2 : List Node) (K K2 : List KD), l.length - p = n → p ≤ l.length → WP l 0 p (fun i => cnts i ks) (nszs ks) → ks2.length ≤ 2 * (p + d) → KK K K2 p d →
    Sm (loopO (tree_Parse_b1 l) ((p : Int), 0, K, ks)) (PRes l l2 d ks ks2 K (loopO (tree_Parse_b1 l2) (((p + d : Nat) : Int), 0, K2, ks2))) := by
  intro n
  induction n using Nat.strongRecOn with
  | ind n ih =>
    intro p ks ks2 K K2 hn hp hw hs2 hk
    have hl1 := S.l1
    have hB := S.ok.len
    have hB2 := S.len2
    have hbl : BL = 1000000000000 := rfl
    by_cases he : p = l.length
    · subst he
      rw [lpO_eq]
      refine Sm.lp ?_
      simp only [tree_Parse_b1, ltI, decide_eq_true_eq]
      rw [if_neg (by omega)]
      refine Sm.inrO (Sm.some (Sm.some (.inr ⟨[], K, K2, by simp, by simpa using hw, KP2.self hk, by simp [mvs]⟩)))
    · have hlt : p < l.length := by omega
      have hsl := (S.lt p hlt).1
      rw [lpO_eq]
      generalize hYd : loopO (tree_Parse_b1 l2) (((p + d : Nat) : Int), 0, K2, ks2) = Y
      refine Sm.lp ?_
      simp only [tree_Parse_b1, ltI, decide_eq_true_eq]
      rw [if_pos (by omega)]
      refine Sm.grB (outer_ok (D := 0) S (by omega) hlt hk) (fun r hr1 hr => ?_) (fun e he => Sm.inrO (Sm.some (Sm.some (.inl ⟨_, _, _, rfl, he⟩))))
      obtain ⟨k, t, ks1, q, K', K2', rfl, hq0, hqw, hqk, hqY⟩ := hr
      have hlen := len_nszs ks
      have rm := room (ks := ks) hw hlen S.ok.len
      have hle := hqw.le
      simp only [List.length_cons, List.length_nil, Nat.zero_add, List.length_append]
      rw [if_pos rm, if_pos (by omega), if_pos (by omega), set_last]
      have hY : Y = loopO (tree_Parse_b1 l2) (((q + d : Nat) : Int), 0, K2', ks2 ++ [mv d ⟨k, t, ks1⟩]) := by
        rw [← hYd, lpO_eq]
        simp only [tree_Parse_b1, ltI, decide_eq_true_eq]
        have e0 : ((0 : Nat) : Int) = 0 := rfl
        have hqY := hqY (by omega)
        rw [e0] at hqY
        rw [if_pos (by omega), hqY]
        simp only [grB, List.length_cons, List.length_nil, Nat.zero_add, List.length_append]
        rw [if_pos (by omega), if_pos (by omega), if_pos (by omega), set_last, mvN, lpO_inl]
      refine Sm.some ?_
      have e0 : ((0 : Nat) : Int) = 0 := rfl
      rw [lpO_inl, e0]
      have b1 : l.length - q < n := by omega
      have b2 : (ks2 ++ [mv d ⟨k, t, ks1⟩]).length ≤ 2 * (q + d) := by rw [List.length_append, List.length_singleton]; omega
      have hkid := hw.kid hqw
      have hres := ih (l.length - q) b1 q (ks ++ [⟨k, t, ks1⟩]) (ks2 ++ [mv d ⟨k, t, ks1⟩]) K' K2' rfl hle.2 hkid b2 hqk.k
      refine hres.mono (fun r hr => ?_)
      rcases hr with hr | ⟨ks', K3, K4, h1, h2, h3, h4⟩
      · exact .inl hr
      · refine .inr ⟨[⟨k, t, ks1⟩] ++ ks', K3, K4, by rw [h1, List.append_assoc], by rw [← List.append_assoc]; exact h2, hqk.trans h3, ?_⟩
        rw [hY, h4, List.append_assoc]
        rfl
theorem Sim.refl (h : TokOk l) : Sim l l 0 (l.length + 1) := ⟨h, h.len, by omega, Nat.le_refl _, fun p hp => ⟨hp, rfl⟩, fun _ => by omega⟩
theorem WP.start : WP l 0 0 (fun i => cnts i []) (nszs []) := (WP.nil (Nat.zero_le _)).of (fun i => rfl) (Nat.le_refl _)
theorem KK.start : KK [[]] [[]] 0 0 := ⟨⟨[], [], [], rfl, rfl, fun _ => rfl⟩, ⟨by simp, by simp [bGet]⟩, ⟨by simp, by simp [bGet]⟩⟩
theorem parse_whole (h : TokOk l) : (∃ e f a, tree_Parse l = some (0, 0, e, f, a, []) ∧ e ≠ 0) ∨ ∃ ks, tree_Parse l = some (1, -1, 0, -1, 0, ks) ∧ WP l 0 l.length (fun i => cnts i ks) (nszs ks) := by
  obtain ⟨r, h1, h2⟩ := parse_loop (Sim.refl h) (l.length - 0) 0 [] [] [[]] [[]] rfl (Nat.zero_le _) WP.start (Nat.zero_le _) KK.start
  rcases h2 with ⟨e, f, a, rfl, he⟩ | ⟨ks', K', K2', rfl, h3, _⟩
  · exact .inl ⟨e, f, a, h1, he⟩
  · exact .inr ⟨ks', h1, by simpa using h3⟩
end
theorem toks_ok (s : List UInt8) : TokOk (toksV 0 s).1 ∧ (toksV 0 s).1.length ≤ 3000 := by
  obtain ⟨h1, h2, h3⟩ := toksV_small 0 s
  refine ⟨⟨by unfold BL; omega, fun p hp hk => ?_, fun p hp => ?_⟩, h1⟩
  · have hm := getD_mem (toksV 0 s).1 p default hp
    obtain ⟨u, path, n, g1, g2⟩ := toksV_piece 0 s _ hm
    rw [hk] at g1
    obtain ⟨c, r, rfl, g3, rfl⟩ := piece_name g1
    have g4 : isWd c = true := by simp [isWd, g3]
    have g5 : (c :: r).take (runN isWd (c :: r)) = c :: r.take (runN isWd r) := by
      simp [runN, g4]
    rw [g2, g5]
    simp only [nameB, letB]
    simp only [isLet, Bool.or_eq_true, Bool.and_eq_true, decide_eq_true_eq] at g3
    simp only [Bool.or_eq_true, Bool.and_eq_true, decide_eq_true_eq, beq_iff_eq, UInt8.le_iff_toNat_le]
    rcases g3 with h | h | h
    · exact .inl (.inl h)
    · exact .inl (.inr h)
    · exact .inr (UInt8.toNat_inj.1 h)
  · have hm := getD_mem (toksV 0 s).1 p default hp
    have := (h2 _ hm).1
    omega
theorem toks_is (s : List UInt8) : prelaw9_toks s = some (toksV 0 s).1 := by
  unfold prelaw9_toks
  by_cases hs : s.length ≤ 1099511627776
  · rw [rtokens_eq 0 s hs]
    rfl
  · unfold preref1_Tokens toksV
    rw [if_pos (show 3000 < s.length by omega), if_pos (by simp only [ltI, decide_eq_true_eq]; omega)]
    rfl
end Go.Proofs.Ytppomhjhokbacaa
