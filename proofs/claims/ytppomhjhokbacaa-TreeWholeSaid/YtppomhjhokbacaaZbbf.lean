/- TreeWhole holds. -/
import Derived.Test.YtppomhjhokbacaaZbaw
import Derived.Test.YtppomhjhokbacaaZbbe
set_option linter.unusedVariables false
set_option linter.unusedSimpArgs false
namespace Go.Proofs.Ytppomhjhokbacaa
open Go.RowKit
set_option maxRecDepth 100000
def CL (c : Nat → Nat) (n q : Nat) (L : MI) : Prop := L.length ≤ n ∧ (∀ i : Nat, iGetD L (i : Int) = (c i : Int) ∧ c i ≤ n) ∧ ∀ p ∈ L, 0 ≤ p.1 ∧ p.1 < (q : Int)
theorem CL.of {c c' : Nat → Nat} {n n' q : Nat} {L : MI} (h : CL c n q L) (hc : ∀ i, c i = c' i) (hn : n = n') : CL c' n' q L := by
  subst hn
  exact ⟨h.1, fun i => by rw [← hc i]; exact h.2.1 i, h.2.2⟩
theorem iGetD_cons (t v : Int) (L : MI) (s : Int) : iGetD ((t, v) :: L) s = if s = t then v else iGetD L s := by
  unfold iGetD
  rw [iGet]
  split <;> rfl
theorem CL.add {c : Nat → Nat} {n q : Nat} {L : MI} (h : CL c n q L) {t : Int} (h0 : 0 ≤ t) (hq : t < (q : Int)) (hn : n < BL) : CL (fun i => c i + if t = (i : Int) then 1 else 0) (n + 1) q ((t, IntKind.i64.wrap (iGetD L t + 1)) :: L) := by
  obtain ⟨h1, h2, h3⟩ := h
  obtain ⟨m, rfl⟩ := Int.eq_ofNat_of_zero_le h0
  have hm := h2 m
  have hbl : BL = 1000000000000 := rfl
  refine ⟨by rw [List.length_cons]; omega, fun i => ?_, fun p hp => ?_⟩
  · rw [iGetD_cons, hm.1, wrI _ (by omega)]
    have := h2 i
    by_cases e : i = m
    · subst e
      rw [if_pos rfl]
      show _ ∧ (c i + if (i : Int) = (i : Int) then 1 else 0) ≤ n + 1
      simp only [if_true]
      omega
    · have e1 : ¬ (i : Int) = (m : Int) := by omega
      have e2 : ¬ (m : Int) = (i : Int) := by omega
      simp only [if_neg e1, if_neg e2]
      omega
  · rcases List.mem_cons.1 hp with rfl | hp
    · exact ⟨h0, hq⟩
    · exact h3 p hp
theorem cnt_loop {q : Nat} {b : (Int × Int × MI) → Option ((Int × Int × MI) ⊕ MI)} {q2 : Node → MI → Option MI} {ks : List Node} (hlen : ks.length ≤ BL)
    (hb1 : ∀ (i : Nat) L, i < ks.length → b ((ks.length : Int), (i : Int), L) = (q2 (ks.getD i default) L).bind fun r => some (.inl ((ks.length : Int), IntKind.i64.wrap ((i : Int) + 1), r)))
    (hb2 : ∀ L, b ((ks.length : Int), (ks.length : Int), L) = inrO (some L))
    (hq : ∀ x ∈ ks, ∀ c n L, CL c n q L → n + nsz x ≤ BL → ∃ L', q2 x L = some L' ∧ CL (fun i => c i + cnt (i : Int) x) (n + nsz x) q L') :
    ∀ (m i : Nat), ks.length - i = m → i ≤ ks.length → ∀ c n L, CL c n q L → n + nszs (ks.drop i) ≤ BL →
      ∃ L', loopO b ((ks.length : Int), (i : Int), L) = some L' ∧ CL (fun z => c z + cnts (z : Int) (ks.drop i)) (n + nszs (ks.drop i)) q L'
  | 0, i, hm, hi, c, n, L, h, hB => by
    have e : i = ks.length := by omega
    subst e
    refine ⟨L, ?_, ?_⟩
    · rw [lpO_eq, hb2]; rfl
    · rw [List.drop_length]
      exact h.of (fun i => by rw [cnts]; rfl) (by rw [nszs]; rfl)
  | m + 1, i, hm, hi, c, n, L, h, hB => by
    have hlt : i < ks.length := by omega
    have ed : ks.drop i = ks.getD i default :: ks.drop (i + 1) := by
      rw [List.getD_eq_getElem?_getD, List.getElem?_eq_getElem hlt]
      exact List.drop_eq_getElem_cons hlt
    rw [ed, nszs] at hB
    obtain ⟨L1, g1, g2⟩ := hq _ (getD_mem' ks i hlt) c n L h (by omega)
    obtain ⟨L2, g3, g4⟩ := cnt_loop hlen hb1 hb2 hq m (i + 1) (by omega) (by omega) _ _ L1 g2 (by omega)
    refine ⟨L2, ?_, g4.of (fun z => by rw [ed, cnts]; omega) (by rw [ed, nszs]; omega)⟩
    rw [lpO_eq, hb1 i L hlt, g1]
    simp only [Option.bind_some]
    rw [wP (by omega), lpO_inl]
    exact g3
theorem cnt_rec {q : Nat} (hq : q ≤ BL) : ∀ (m : Nat) (x : Node), nsz x ≤ m → (∀ i : Nat, cnt (i : Int) x ≠ 0 → i < q) → ∀ c n L, CL c n q L → n + nsz x ≤ BL →
    ∃ L', (rec_prelaw9_count m).2 x L = some L' ∧ CL (fun i => c i + cnt (i : Int) x) (n + nsz x) q L'
  | 0, x, h, _, _, _, _, _, _ => by have := nsz_pos x; omega
  | m + 1, ⟨k, t, ks⟩, hm, ht, c, n, L, h, hB => by
    rw [nsz] at hm hB
    have hbl : BL = 1000000000000 := rfl
    have hlen := len_nszs ks
    have hk : ∀ x ∈ ks, ∀ c n L, CL c n q L → n + nsz x ≤ BL → ∃ L', (rec_prelaw9_count m).2 x L = some L' ∧ CL (fun i => c i + cnt (i : Int) x) (n + nsz x) q L' := fun x hx =>
      cnt_rec hq m x (by have := nsz_mem hx; omega) (fun i hi => ht i (by have := cnt_mem (i : Int) hx; rw [cnt]; omega))
    have lp := cnt_loop (q := q) (b := prelaw9_count_v2_b2 (rec_prelaw9_count m).2 ⟨k, t, ks⟩) (q2 := (rec_prelaw9_count m).2) (ks := ks) (by omega) (fun i L hi => by
      simp only [prelaw9_count_v2_b2, ltI, decide_eq_true_eq, Int.toNat_natCast]
      rw [if_pos (by omega), if_pos (by omega)]) (fun L => by
      simp only [prelaw9_count_v2_b2, ltI, decide_eq_true_eq]
      rw [if_neg (by omega)]) hk _ 0 rfl (Nat.zero_le _)
    simp only [List.drop_zero] at lp
    show ∃ L', prelaw9_count_v2_s (rec_prelaw9_count m).1 (rec_prelaw9_count m).2 ⟨k, t, ks⟩ L = some L' ∧ _
    unfold prelaw9_count_v2_s
    simp only [leI, decide_eq_true_eq, prelaw9_count_v2_j1]
    by_cases h0 : 0 ≤ t
    · have h1 : t < (q : Int) := by
        obtain ⟨j, rfl⟩ := Int.eq_ofNat_of_zero_le h0
        have := ht j (by rw [cnt, if_pos rfl]; omega)
        omega
      have hL := h.1
      rw [if_pos h0, if_pos ⟨h0, by omega, by omega⟩]
      obtain ⟨L', g1, g2⟩ := lp _ _ _ (h.add h0 h1 (by omega)) (by omega)
      exact ⟨L', g1, g2.of (fun i => by rw [cnt]; omega) (by rw [nsz]; omega)⟩
    · rw [if_neg h0]
      obtain ⟨L', g1, g2⟩ := lp _ _ _ h (by omega)
      refine ⟨L', g1, ?_⟩
      obtain ⟨a1, a2, a3⟩ := g2
      refine ⟨by rw [nsz]; omega, fun i => ?_, a3⟩
      have := a2 i
      have e : ¬ t = (i : Int) := by omega
      show iGetD L' (i : Int) = ((c i + cnt (i : Int) ⟨k, t, ks⟩ : Nat) : Int) ∧ c i + cnt (i : Int) ⟨k, t, ks⟩ ≤ n + nsz ⟨k, t, ks⟩
      have this : iGetD L' (i : Int) = ((c i + cnts (i : Int) ks : Nat) : Int) ∧ c i + cnts (i : Int) ks ≤ n + nszs ks := this
      rw [cnt, if_neg e, nsz]
      omega
theorem count_is {q : Nat} (hq : q ≤ BL) (ks : List Node) (hB : nszs ks ≤ BL) (ht : ∀ i : Nat, cnts (i : Int) ks ≠ 0 → i < q) : ∀ m, nszs ks + 1 ≤ m →
    ∃ L', (rec_prelaw9_count m).1 1 (-1) ks [] = some L' ∧ CL (fun i => cnts (i : Int) ks) (nszs ks) q L'
  | 0, h => by omega
  | m + 1, h => by
    have hlen := len_nszs ks
    have hbl : BL = 1000000000000 := rfl
    have lp := cnt_loop (q := q) (b := prelaw9_count_b2 (rec_prelaw9_count m).2 ks) (q2 := (rec_prelaw9_count m).2) (ks := ks) (by omega) (fun i L hi => by
      simp only [prelaw9_count_b2, ltI, decide_eq_true_eq, Int.toNat_natCast]
      rw [if_pos (by omega), if_pos (by omega), if_pos (by omega)]) (fun L => by
      simp only [prelaw9_count_b2, ltI, decide_eq_true_eq]
      rw [if_neg (by omega)]) (fun x hx => cnt_rec hq m x (by have := nsz_mem hx; omega) (fun i hi => ht i (by have := cnt_mem (i : Int) hx; omega))) _ 0 rfl (Nat.zero_le _)
      (fun _ => 0) 0 [] ⟨Nat.le_refl _, fun i => ⟨rfl, Nat.le_refl _⟩, fun p hp => by cases hp⟩ (by simpa using hB)
    simp only [List.drop_zero, Nat.zero_add] at lp
    show ∃ L', prelaw9_count_s (rec_prelaw9_count m).1 (rec_prelaw9_count m).2 1 (-1) ks [] = some L' ∧ _
    unfold prelaw9_count_s
    simp only [leI, decide_eq_true_eq, prelaw9_count_j1]
    rw [if_neg (by omega)]
    exact lp
theorem b1_want (l : TL) (L : MI) (i : Nat) (hi : i < l.length) : prelaw9_TreeWhole_b1 l L ((l.length : Int), (i : Int)) = prelaw9_TreeWhole_j2 L (l.length : Int) (i : Int) (want l i) := by
  simp only [prelaw9_TreeWhole_b1, ltI, decide_eq_true_eq, Int.toNat_natCast, key_is, Option.bind_some]
  rw [if_pos (by omega), if_pos (by omega)]
  unfold want isName
  cases e2 : eqI (l.getD i default).Kind 2 <;> cases e3 : eqI (l.getD i default).Kind 3 <;> cases e4 : eqI (l.getD i default).Kind 4 <;> cases e1 : eqI (l.getD i default).Kind 1 <;> simp_all [eqI]
theorem whole_loop {l : TL} {L : MI} {ks : List Node} (hl : l.length ≤ 3000) (hw : WP l 0 l.length (fun i => cnts i ks) (nszs ks)) (h : CL (fun i => cnts (i : Int) ks) (nszs ks) l.length L) : ∀ (m i : Nat), l.length - i = m → i ≤ l.length →
    loopO (prelaw9_TreeWhole_b1 l L) ((l.length : Int), (i : Int)) = some true
  | 0, i, hm, hi => by
    have e : i = l.length := by omega
    subst e
    rw [lpO_eq]
    simp only [prelaw9_TreeWhole_b1, ltI, decide_eq_true_eq]
    rw [if_neg (by omega)]
    have hk : keysLt L l.length = true := List.all_eq_true.2 fun p hp => by
      have := (h.2.2 p hp).2
      simpa using this
    rw [hk]
    rfl
  | m + 1, i, hm, hi => by
    have ih := whole_loop hl hw h m (i + 1) (by omega) (by omega)
    have hbl : BL = 1000000000000 := rfl
    rw [lpO_eq, b1_want l L i (by omega), prelaw9_TreeWhole_j2, if_pos (by omega)]
    obtain ⟨w1, w2, w3⟩ := hw.2.2.2 i
    have w3 := w3 (Nat.zero_le _) (by omega)
    have hg := (h.2.1 i).1
    have hb : mBad L (i : Int) (want l i) = false := by
      unfold mBad
      rw [hg]
      simp only at w1 w3 ⊢
      cases hwt : want l i
      · simp; omega
      · have := w3 hwt
        simp; omega
    rw [hb, if_neg (by simp), wP (by omega), lpO_inl]
    exact ih
theorem treeWhole_is (s : List UInt8) : prelaw9_TreeWhole s = some true := by
  obtain ⟨ha, hla⟩ := toks_ok s
  unfold prelaw9_TreeWhole
  rw [alive9, toks_is s]
  simp only [Option.bind_some, Bool.not_true, Bool.false_eq_true, if_false]
  generalize (toksV 0 s).1 = l at ha hla
  have hbl : BL = 1000000000000 := rfl
  rcases parse_whole ha with ⟨e, f, x, h1, he⟩ | ⟨ks, h1, hks⟩
  · rw [h1]
    simp only [Option.bind_some]
    rw [if_pos (by simp [eqI, he])]
    rfl
  · rw [h1]
    simp only [Option.bind_some]
    have e0 : eqI 0 0 = true := rfl
    have hsz := hks.2.2.1
    rw [e0, if_neg (by simp)]
    obtain ⟨L, g1, g2⟩ := count_is (q := l.length) (by omega) ks (by omega) (fun i hi => ((hks.2.2.2 i).2.1 hi).2) bigF (Nat.le_trans (show nszs ks + 1 ≤ 7000 by omega) (by decide))
    rw [show prelaw9_count 1 (-1) ks [] = some L from g1]
    simp only [Option.bind_some]
    exact whole_loop hla hks g2 _ 0 rfl (Nat.zero_le _)
end Go.Proofs.Ytppomhjhokbacaa
