/- TreeJoined, plain. -/
import Derived.Test.YtppomhjhokbacaaZaay
set_option linter.unusedVariables false
set_option linter.unusedSimpArgs false
namespace Go.Proofs.Ytppomhjhokbacaa
open Go.RowKit
theorem nsz_mem : ∀ {l : List Node} {x : Node}, x ∈ l → nsz x ≤ nszs l
  | y :: l, x, h => by
    rw [nszs]
    rcases List.mem_cons.1 h with h | h
    · subst h; omega
    · have := nsz_mem h; omega
theorem cnt_mem (i : Int) : ∀ {l : List Node} {x : Node}, x ∈ l → cnt i x ≤ cnts i l
  | y :: l, x, h => by
    rw [cnts]
    rcases List.mem_cons.1 h with h | h
    · subst h; omega
    · have := cnt_mem i h; omega
theorem mvs_map (d : Nat) : ∀ l, mvs d l = l.map (mv d)
  | [] => rfl
  | x :: l => by rw [mvs, mvs_map d l]; rfl
theorem getD_mem' (l : List Node) (j : Nat) (h : j < l.length) : l.getD j default ∈ l := by
  rw [List.getD_eq_getElem?_getD, List.getElem?_eq_getElem h]
  exact List.getElem_mem h
theorem same_loop (q : Node → Node → Option Bool) (a : Node) (hl : a.Kids.length ≤ BL) (hq : ∀ x ∈ a.Kids, q x x = some true) : ∀ (n i : Nat), a.Kids.length - i = n → i ≤ a.Kids.length → loopO (preref9_Same_b2 q a a) ((a.Kids.length : Int), (i : Int)) = some true
  | 0, i, hn, hi => by
    rw [lpO_eq]
    simp only [preref9_Same_b2, ltI, decide_eq_true_eq]
    rw [if_neg (by omega)]
    rfl
  | n + 1, i, hn, hi => by
    rw [lpO_eq]
    simp only [preref9_Same_b2, ltI, decide_eq_true_eq, Int.toNat_natCast]
    rw [if_pos (by omega), if_pos (by omega), if_pos (by omega), hq _ (getD_mem' _ _ (by omega))]
    simp only [Option.bind_some, Bool.not_true, Bool.false_eq_true, if_false]
    rw [wP (by omega), lpO_inl]
    exact same_loop q a hl hq n (i + 1) (by omega) (by omega)
theorem same_rec : ∀ (n : Nat) (x : Node), nsz x ≤ n → nsz x ≤ BL → rec_preref9_Same n x x = some true
  | 0, x, h, _ => by have := nsz_pos x; omega
  | n + 1, ⟨k, t, ks⟩, h, hB => by
    rw [nsz] at h hB
    have hlen := len_nszs ks
    show preref9_Same_s (rec_preref9_Same n) ⟨k, t, ks⟩ ⟨k, t, ks⟩ = some true
    unfold preref9_Same_s
    simp only [eqI, decide_true, Bool.not_true, Bool.false_eq_true, if_false, preref9_Same_j1]
    exact same_loop (rec_preref9_Same n) ⟨k, t, ks⟩ (by simp only; omega) (fun x hx => same_rec n x (by have := nsz_mem (show x ∈ ks from hx); omega) (by have := nsz_mem (show x ∈ ks from hx); omega)) _ 0 rfl (Nat.zero_le _)
theorem same_refl (x : Node) (h : nsz x ≤ BL) : preref9_Same x x = some true := same_rec bigF x (Nat.le_trans h (by decide)) h
theorem mv_eta (d : Nat) (x : Node) : (⟨x.Kind, mvt d x.Tok, mvs d x.Kids⟩ : Node) = mv d x := by cases x; rfl
theorem moved_loop (q : Node → Int → Option (Int × List Node)) (a : Node) (d : Nat) (y : Int) (hl : a.Kids.length ≤ BL) (hq : ∀ x ∈ a.Kids, q x (d : Int) = some (mvt d x.Tok, mvs d x.Kids)) : ∀ (n i : Nat), a.Kids.length - i = n → i ≤ a.Kids.length →
    loopO (prelaw9_moved_b2 q a (d : Int) y) ((a.Kids.length : Int), (i : Int), mvs d (a.Kids.take i)) = some (y, mvs d a.Kids)
  | 0, i, hn, hi => by
    rw [lpO_eq]
    simp only [prelaw9_moved_b2, ltI, decide_eq_true_eq]
    rw [if_neg (by omega), show i = a.Kids.length by omega, List.take_length]
    rfl
  | n + 1, i, hn, hi => by
    rw [lpO_eq]
    simp only [prelaw9_moved_b2, ltI, decide_eq_true_eq, Int.toNat_natCast, List.length_cons, List.length_nil, Nat.zero_add]
    rw [if_pos (by omega), if_pos (by omega), hq _ (getD_mem' _ _ (by omega))]
    simp only [Option.bind_some]
    have hbl : BL = 1000000000000 := rfl
    rw [if_pos (by rw [mvs_len, List.length_take]; omega), wP (by omega), lpO_inl]
    have e : mvs d (a.Kids.take i) ++ [(⟨(a.Kids.getD i default).Kind, mvt d (a.Kids.getD i default).Tok, mvs d (a.Kids.getD i default).Kids⟩ : Node)] = mvs d (a.Kids.take (i + 1)) := by
      rw [List.take_add_one, mvs_app, List.getElem?_eq_getElem (by omega), List.getD_eq_getElem?_getD, List.getElem?_eq_getElem (by omega)]
      simp only [Option.getD_some, Option.toList_some, mvs1, mv_eta]
    rw [e]
    exact moved_loop q a d y hl hq n (i + 1) (by omega) (by omega)
theorem moved_rec (d : Nat) (hd : d ≤ BL) : ∀ (n : Nat) (x : Node), nsz x ≤ n → nsz x ≤ BL → (∀ i : Nat, cnt (i : Int) x ≠ 0 → i < 10000) → rec_prelaw9_moved n x (d : Int) = some (mvt d x.Tok, mvs d x.Kids)
  | 0, x, h, _, _ => by have := nsz_pos x; omega
  | n + 1, ⟨k, t, ks⟩, h, hB, ht => by
    rw [nsz] at h hB
    have hbl : BL = 1000000000000 := rfl
    have hlen := len_nszs ks
    have hk : ∀ x ∈ ks, rec_prelaw9_moved n x (d : Int) = some (mvt d x.Tok, mvs d x.Kids) := fun x hx => moved_rec d hd n x (by have := nsz_mem hx; omega) (by have := nsz_mem hx; omega) (fun i hi => ht i (by have := cnt_mem (i : Int) hx; rw [cnt]; omega))
    have lp := moved_loop (rec_prelaw9_moved n) ⟨k, t, ks⟩ d (mvt d t) (by simp only; omega) hk _ 0 rfl (Nat.zero_le _)
    show prelaw9_moved_s (rec_prelaw9_moved n) ⟨k, t, ks⟩ (d : Int) = some (mvt d t, mvs d ks)
    unfold prelaw9_moved_s
    simp only [leI, ltI, decide_eq_true_eq, prelaw9_moved_j3, prelaw9_moved_j1]
    by_cases h0 : 0 ≤ t
    · have h1 : t < 10000 := by
        obtain ⟨m, rfl⟩ := Int.eq_ofNat_of_zero_le h0
        have := ht m (by rw [cnt, if_pos rfl]; omega)
        omega
      rw [if_pos h0, if_pos h1, wrI _ (by omega)]
      have e : mvt d t = t + d := by unfold mvt; rw [if_pos h0]
      rw [← e]
      exact lp
    · rw [if_neg h0]
      simp only [Bool.false_eq_true, if_false]
      have e : mvt d t = t := mvt_neg d (by omega)
      rw [e] at lp ⊢
      exact lp
theorem moved_is (d : Nat) (hd : d ≤ BL) (x : Node) (hB : nsz x ≤ BL) (ht : ∀ i : Nat, cnt (i : Int) x ≠ 0 → i < 10000) : prelaw9_moved x (d : Int) = some (mvt d x.Tok, mvs d x.Kids) := moved_rec d hd bigF x (Nat.le_trans hB (by decide)) hB ht
mutual
theorem mv0 : ∀ x : Node, mv 0 x = x
  | ⟨k, t, ks⟩ => by
    have e : mvt 0 t = t := by unfold mvt; split <;> omega
    rw [mv, mvs0 ks, e]
theorem mvs0 : ∀ l : List Node, mvs 0 l = l
  | [] => rfl
  | x :: l => by rw [mvs, mv0 x, mvs0 l]
end
mutual
theorem nsz_mv (d : Nat) : ∀ x : Node, nsz (mv d x) = nsz x
  | ⟨k, t, ks⟩ => by rw [mv, nsz, nsz, nszs_mv d ks]
theorem nszs_mv (d : Nat) : ∀ l : List Node, nszs (mvs d l) = nszs l
  | [] => rfl
  | x :: l => by rw [mvs, nszs, nszs, nsz_mv d x, nszs_mv d l]
end
theorem WP.tok_lt {l : TL} {p q : Nat} {ks : List Node} (h : WP l p q (fun i => cnts i ks) (nszs ks)) {x : Node} (hx : x ∈ ks) (i : Nat) (hi : cnt (i : Int) x ≠ 0) : i < q := by
  have := cnt_mem (i : Int) hx
  exact ((h.2.2.2 i).2.1 (by show cnts (i : Int) ks ≠ 0; omega)).2
theorem joined_loop {a : TL} {ka kb : List Node} (hda : a.length ≤ 3000) (hka : nszs ka ≤ 6000) (hkb : nszs kb ≤ 6000) (ht : ∀ x ∈ kb, ∀ i : Nat, cnt (i : Int) x ≠ 0 → i < 10000) (e1 e2 e3 e4 e5 f1 f2 f3 f4 f5 g1 g2 g3 g4 g5 : Int) : ∀ (n i : Nat), ka.length + kb.length - i = n → i ≤ ka.length + kb.length →
    loopO (prelaw9_TreeJoined_b4 a (e1, e2, e3, e4, e5, ka) (f1, f2, f3, f4, f5, kb) (g1, g2, g3, g4, g5, ka ++ mvs a.length kb)) (((ka.length + kb.length : Nat) : Int), (i : Int)) = some true
  | 0, i, hn, hi => by
    rw [lpO_eq]
    simp only [prelaw9_TreeJoined_b4, ltI, decide_eq_true_eq]
    rw [if_neg (by omega)]
    rfl
  | n + 1, i, hn, hi => by
    have hl := len_nszs ka
    have hl2 := len_nszs kb
    have hb : ∀ m, m ≤ 20000 → m ≤ BL := fun m h => by unfold BL; omega
    have ih := joined_loop hda hka hkb ht e1 e2 e3 e4 e5 f1 f2 f3 f4 f5 g1 g2 g3 g4 g5 n (i + 1) (by omega) (by omega)
    have hzl : (ka ++ mvs a.length kb).length = ka.length + kb.length := by rw [List.length_append, mvs_len]
    rw [lpO_eq]
    simp only [prelaw9_TreeJoined_b4, ltI, leI, decide_eq_true_eq, Int.toNat_natCast, hzl]
    rw [if_pos (by omega), if_pos (by omega), if_pos (by omega)]
    by_cases h : i < ka.length
    · have e : (ka ++ mvs a.length kb).getD i default = ka.getD i default := by
        rw [List.getD_eq_getElem?_getD, List.getD_eq_getElem?_getD, List.getElem?_append_left h]
      have hx := getD_mem' ka i h
      rw [if_pos (by omega), if_pos (by omega), if_pos h, e, same_refl _ (hb _ (by have := nsz_mem hx; omega))]
      simp only [Option.bind_some, Bool.not_true, Bool.false_eq_true, if_false]
      rw [if_neg (by omega)]
      simp only [prelaw9_TreeJoined_j5, Bool.false_eq_true, if_false]
      rw [wP (hb _ (by omega)), lpO_inl]
      exact ih
    · rw [if_neg (by omega), if_pos (by omega), wrI _ (by omega)]
      have ej : ((i : Int) - (ka.length : Int)).toNat = i - ka.length := by omega
      have hj : i - ka.length < kb.length := by omega
      rw [ej, if_pos (by omega), if_pos hj]
      have hx := getD_mem' kb _ hj
      have hn1 := nsz_mem hx
      rw [moved_is a.length (hb _ (by omega)) _ (hb _ (by omega)) (ht _ hx)]
      simp only [Option.bind_some]
      have e : (ka ++ mvs a.length kb).getD i default = mv a.length (kb.getD (i - ka.length) default) := by
        rw [List.getD_eq_getElem?_getD, List.getElem?_append_right (by omega), mvs_map, List.getElem?_map, List.getD_eq_getElem?_getD, List.getElem?_eq_getElem hj]
        rfl
      have hsz : nsz (mv a.length (kb.getD (i - ka.length) default)) ≤ BL := hb _ (by rw [nsz_mv]; omega)
      rw [e, mv_eta, same_refl _ hsz]
      simp only [Option.bind_some, Bool.not_true, prelaw9_TreeJoined_j5, Bool.false_eq_true, if_false]
      rw [wP (hb _ (by omega)), lpO_inl]
      exact ih
end Go.Proofs.Ytppomhjhokbacaa
