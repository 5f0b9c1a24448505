/- TreeJoined holds. -/
import Derived.Test.YtppomhjhokbacaaZaaz
set_option linter.unusedVariables false
set_option linter.unusedSimpArgs false
namespace Go.Proofs.Ytppomhjhokbacaa
open Go.RowKit
set_option maxRecDepth 100000
theorem alive9 : prelaw9_alive = some true := by decide +kernel
theorem typ_loop {a b : TL} (r4 r5 : Int × Int × Int × Int × Int × List Node) (ha : a.length ≤ 3000) (hb : b.length ≤ 3000) (main : (∀ x ∈ a, x.Text ≠ [116, 121, 112, 101, 100, 101, 102]) → ((tree_Parse (a ++ b)).bind fun r6 => if (!eqI r6.2.2.1 0) = true then prelaw9_TreeJoined_j3 a r4 r5 r6 true else if (ltI ((r6.2.2.2.2.2.length : Nat) : Int) ((r4.2.2.2.2.2.length : Nat) : Int)) = true then prelaw9_TreeJoined_j3 a r4 r5 r6 true else prelaw9_TreeJoined_j3 a r4 r5 r6 (!eqI (IntKind.i64.wrap (((r6.2.2.2.2.2.length : Nat) : Int) - ((r4.2.2.2.2.2.length : Nat) : Int))) ((r5.2.2.2.2.2.length : Nat) : Int))) = some true) :
    ∀ (n i : Nat), a.length - i = n → i ≤ a.length → (∀ x ∈ a.take i, x.Text ≠ [116, 121, 112, 101, 100, 101, 102]) → loopO (prelaw9_TreeJoined_b2 a b r4 r5) ((a.length : Int), (i : Int)) = some true
  | 0, i, hn, hi, hno => by
    rw [show i = a.length by omega, List.take_length] at hno
    rw [lpO_eq]
    simp only [prelaw9_TreeJoined_b2, ltI, decide_eq_true_eq, List.nil_append, List.length_nil, Nat.zero_add]
    rw [if_neg (by omega), if_pos (by omega), if_pos (by omega)]
    have hm := main hno
    simp only [ltI, decide_eq_true_eq] at hm
    rw [lpO_inrO]
    exact hm
  | n + 1, i, hn, hi, hno => by
    rw [lpO_eq]
    simp only [prelaw9_TreeJoined_b2, ltI, decide_eq_true_eq, Int.toNat_natCast, eqS]
    rw [if_pos (by omega), if_pos (by omega)]
    by_cases e : (a.getD i default).Text = [116, 121, 112, 101, 100, 101, 102]
    · rw [if_pos e]; rfl
    · rw [if_neg e, wP (by unfold BL; omega), lpO_inl]
      refine typ_loop r4 r5 ha hb main n (i + 1) (by omega) (by omega) (fun x hx => ?_)
      rw [List.take_add_one, List.getElem?_eq_getElem (show i < a.length by omega)] at hx
      rcases List.mem_append.1 hx with hx | hx
      · exact hno x hx
      · simp only [Option.toList_some, List.mem_singleton] at hx
        rw [List.getD_eq_getElem?_getD, List.getElem?_eq_getElem (show i < a.length by omega)] at e
        rw [hx]
        exact e
theorem treeJoined_is (s t : List UInt8) : prelaw9_TreeJoined s t = some true := by
  have hj : ∀ r2 r3 r4 r5, prelaw9_TreeJoined_j1 r2 r3 r4 r5 true = some true := fun _ _ _ _ => rfl
  obtain ⟨ha, hla⟩ := toks_ok s
  obtain ⟨hb, hlb⟩ := toks_ok t
  unfold prelaw9_TreeJoined
  rw [alive9, toks_is s, toks_is t]
  simp only [Option.bind_some, Bool.not_true, Bool.false_eq_true, if_false]
  generalize (toksV 0 s).1 = a at ha hla
  generalize (toksV 0 t).1 = b at hb hlb
  rcases parse_whole ha with ⟨e, f, x, h1, he⟩ | ⟨ka, h1, hka⟩
  · rw [h1]
    rcases parse_whole hb with ⟨e2, f2, x2, h2, he2⟩ | ⟨kb, h2, hkb⟩
    · rw [h2]
      simp only [Option.bind_some]
      rw [if_pos (by simp [eqI, he]), hj]
    · rw [h2]
      simp only [Option.bind_some]
      rw [if_pos (by simp [eqI, he]), hj]
  · rw [h1]
    rcases parse_whole hb with ⟨e2, f2, x2, h2, he2⟩ | ⟨kb, h2, hkb⟩
    · rw [h2]
      simp only [Option.bind_some]
      rw [if_neg (by simp [eqI]), show (!eqI e2 0) = true by simp [eqI, he2], hj]
    · rw [h2]
      simp only [Option.bind_some]
      have e0 : eqI 0 0 = true := rfl
      rw [e0, if_neg (by simp)]
      simp only [Bool.not_true, prelaw9_TreeJoined_j1, Bool.false_eq_true, if_false]
      refine typ_loop _ _ hla hlb (fun hno => ?_) _ 0 rfl (Nat.zero_le _) (by simp)
      have hn : noTy a := fun p hp => by
        have hlt := wd_lt hp (by simp)
        unfold wd at hp
        split at hp
        · exact hno _ (getD_mem a p default hlt) hp
        · cases hp
      have hsz1 := hka.sz
      have hsz2 := hkb.sz
      rw [parse_joined ha hb (by unfold BL; omega) hn h1 h2, mvs0]
      simp only [Option.bind_some]
      have hzl : (ka ++ mvs a.length kb).length = ka.length + kb.length := by rw [List.length_append, mvs_len]
      have l1 := len_nszs ka
      have l2 := len_nszs kb
      rw [e0, if_neg (by simp), hzl]
      simp only [ltI, decide_eq_true_eq]
      rw [if_neg (by omega), wrI _ (by omega)]
      have e1 : eqI (((ka.length + kb.length : Nat) : Int) - (ka.length : Int)) (kb.length : Int) = true := by simp [eqI]; omega
      rw [e1]
      simp only [Bool.not_true, prelaw9_TreeJoined_j3, Bool.false_eq_true, if_false, hzl]
      exact joined_loop hla (by omega) (by omega) (fun x hx i hi => by have := hkb.tok_lt hx i hi; omega) _ _ _ _ _ _ _ _ _ _ _ _ _ _ _ _ 0 rfl (Nat.zero_le _)
end Go.Proofs.Ytppomhjhokbacaa
