/- The tree's parser, plain: expressions. -/
import Derived.Test.YtppomhjhokbacaaZbas
set_option linter.unusedVariables false
set_option linter.unusedSimpArgs false
namespace Go.Proofs.Ytppomhjhokbacaa
open Go.RowKit
abbrev EX := List Token → Int → Int → List KD → Option (GR (Int × Int × Int × Int × Int) (Int × Int × List Node × Int × Int))
def Res (l : TL) (d lim p0 D : Nat) (Y : Option (GR (Int × Int × Int × Int × Int) (Int × Int × List Node × Int × Int))) (r : Int × Int × List Node × Int × Int) : Prop :=
  ∃ (k t : Int) (ks : List Node) (q : Nat), r = (k, t, ks, (q : Int), (D : Int)) ∧ p0 < q ∧ WP l p0 q (fun i => cnt i ⟨k, t, ks⟩) (nsz ⟨k, t, ks⟩) ∧ (q < lim → Y = some (.ok (k, mvt d t, mvs d ks, ((q + d : Nat) : Int), (D : Int))))
def SE (l l2 : TL) (d lim : Nat) (F : EX) (D : Nat) : Prop := ∀ (p : Nat) (K K2 : List KD), p ≤ l.length → Sm (F l (p : Int) (D : Int) K) (okr (Res l d lim p D (F l2 ((p + d : Nat) : Int) (D : Int) K2)))
theorem WP.node {l : TL} {p q : Nat} {k t : Int} {ks : List Node} (h : WP l p q (fun i => cnts i ks) (nszs ks)) (ht : t < 0) (hn : nszs ks + 1 ≤ 2 * (q - p)) : WP l p q (fun i => cnt i ⟨k, t, ks⟩) (nsz ⟨k, t, ks⟩) := by
  obtain ⟨h1, h2, h3, h4⟩ := h
  refine ⟨h1, h2, by rw [nsz]; omega, fun i => ?_⟩
  have : cnt (i : Int) ⟨k, t, ks⟩ = cnts i ks := by rw [cnt, if_neg (by omega)]; omega
  show cnt (i : Int) ⟨k, t, ks⟩ ≤ 1 ∧ (cnt (i : Int) ⟨k, t, ks⟩ ≠ 0 → _) ∧ (_ → _ → _ → cnt (i : Int) ⟨k, t, ks⟩ = 1)
  rw [this]
  exact h4 i
theorem WP.kid {l : TL} {p q r : Nat} {ks : List Node} {x : Node} (h : WP l p q (fun i => cnts i ks) (nszs ks)) (k : WP l q r (fun i => cnt i x) (nsz x)) : WP l p r (fun i => cnts i (ks ++ [x])) (nszs (ks ++ [x])) :=
  (h.app k).of (fun i => by rw [cnts_app]; simp [cnts]) (by rw [nszs_app]; simp [nszs])
theorem WP.one {l : TL} {p q : Nat} {x : Node} (h : WP l p q (fun i => cnt i x) (nsz x)) : WP l p q (fun i => cnts i [x]) (nszs [x]) := h.of (fun i => by simp [cnts]) (by simp [nszs])
theorem WP.step {l : TL} {p q : Nat} {c : Int → Nat} {s : Nat} (h : WP l p q c s) (hq : q < l.length) (hw : want l q = false) : WP l p (q + 1) c s := h.skip hq hw (by omega)
theorem WP.sz {l : TL} {p q : Nat} {c : Int → Nat} {s : Nat} (h : WP l p q c s) : s ≤ 2 * (q - p) := h.2.2.1
theorem WP.le {l : TL} {p q : Nat} {c : Int → Nat} {s : Nat} (h : WP l p q c s) : p ≤ q ∧ q ≤ l.length := ⟨h.1, h.2.1⟩
theorem room {l : TL} {p q : Nat} {ks : List Node} {c : Int → Nat} {s : Nat} (h : WP l p q c s) (hs : ks.length ≤ s) (hB : l.length < BL) : (ks.length + 1) * 40 ≤ 140737488355328 := by
  have := h.sz; have := h.le
  unfold BL at hB
  omega
theorem mvt_nat (d p : Nat) : mvt d (p : Int) = ((p + d : Nat) : Int) := by unfold mvt; rw [if_pos (by omega)]; omega
section
variable {l l2 : TL} {d lim D : Nat} {q1 : EX} {q2 : Int → EX} {q3 q4 q5 : EX}
theorem WP.call {p q : Nat} {ks : List Node} (h : WP l p q (fun i => cnts i ks) (nszs ks)) (hs : nszs ks + 1 ≤ 2 * (q - p)) (hq : q < l.length) (hw : want l q = false) (k : Int) : WP l p (q + 1) (fun i => cnt i ⟨k, -1, ks⟩) (nsz ⟨k, -1, ks⟩) :=
  (h.step hq hw).node (by omega) (by have := h.le; omega)
theorem args_ok (S : Sim l l2 d lim) (h5 : SE l l2 d lim q5 D) : ∀ (n p p0 : Nat) (ks : List Node) (K K2 : List KD) (Y : Option ((Int × Int × Int × Int × List Node) ⊕ (GR (Int × Int × Int × Int × Int) (Int × Int × List Node × Int × Int)))),
    l.length - p = n → p0 < p → p ≤ l.length → WP l p0 p (fun i => cnts i ks) (nszs ks) → nszs ks + 1 ≤ 2 * (p - p0) → (p < lim → Y = loopO (tree_parser_postfix_b3 q5 l2 K2) (((p + d : Nat) : Int), (D : Int), mvs d ks)) →
    Sm (loopO (tree_parser_postfix_b3 q5 l K) ((p : Int), (D : Int), ks)) fun o => match o with
      | .inr g => okr (fun _ => False) g
      | .inl s => ∃ (q : Nat) (ks' : List Node), s = ((q : Int), (D : Int), 14, -1, ks') ∧ p < q ∧ WP l p0 q (fun i => cnt i ⟨14, -1, ks'⟩) (nsz ⟨14, -1, ks'⟩) ∧ (q < lim → Y = some (.inl (((q + d : Nat) : Int), (D : Int), 14, -1, mvs d ks'))) := by
  intro n
  induction n using Nat.strongRecOn with
  | ind n ih =>
    intro p p0 ks K K2 Y hn h0 hp hw hsz hY
    have hl1 := S.l1
    have hb := S.b hp
    rw [lpO_eq]
    have hY : p < lim → Y = lpO (tree_parser_postfix_b3 q5 l2 K2) (tree_parser_postfix_b3 q5 l2 K2 (((p + d : Nat) : Int), (D : Int), mvs d ks)) := fun h => by rw [hY h, lpO_eq]
    refine Sm.lp ?_
    simp only [tree_parser_postfix_b3] at hY ⊢
    rw [eat_is hb]
    by_cases hc : wd l p = [41]
    · rw [if_pos hc]
      obtain ⟨hlt, hwa⟩ := wd_want S.ok hc (by decide)
      refine Sm.some ?_
      refine Sm.some ⟨p + 1, ks, rfl, by omega, hw.call hsz hlt hwa 14, fun _ => ?_⟩
      rw [hY (by omega), S.eat _ (by omega) hp, if_pos hc]
      rfl
    · rw [if_neg hc]
      -- one more
      have more : ∀ m : Nat, p ≤ m → m ≤ l.length → (m < lim → Y = lpO (tree_parser_postfix_b3 q5 l2 K2) (tree_parser_postfix_j4 q5 l2 K2 (D : Int) (mvs d ks) ((m + d : Nat) : Int))) → WP l p0 m (fun i => cnts i ks) (nszs ks) →
          Sm (tree_parser_postfix_j4 q5 l K (D : Int) ks (m : Int)) fun o => Sm (lpO (tree_parser_postfix_b3 q5 l K) (some o)) fun o => match o with
            | .inr g => okr (fun _ => False) g
            | .inl s => ∃ (q : Nat) (ks' : List Node), s = ((q : Int), (D : Int), 14, -1, ks') ∧ p < q ∧ WP l p0 q (fun i => cnt i ⟨14, -1, ks'⟩) (nsz ⟨14, -1, ks'⟩) ∧ (q < lim → Y = some (.inl (((q + d : Nat) : Int), (D : Int), 14, -1, mvs d ks'))) := by
        intro m hpm hm hYm hwm
        simp only [tree_parser_postfix_j4] at hYm ⊢
        refine Sm.grB (h5 m K K2 hm) (fun r hr1 hr => ?_) (fun e he => Sm.inrO (Sm.inrO (Sm.some (Sm.some he))))
        obtain ⟨k, t, ks1, q, rfl, hq0, hqw, hqY⟩ := hr
        have hk := hwm.kid hqw
        have hle := hk.le
        have hlen := len_nszs ks
        have rm := room hwm hlen S.ok.len
        simp only [List.length_cons, List.length_nil, Nat.zero_add]
        rw [if_pos rm]
        refine Sm.some ?_
        refine (ih (l.length - q) (by omega) q p0 _ K K2 Y rfl (by omega) hle.2 hk (by
          have := hqw.sz
          rw [nszs_app]
          simp only [nszs]
          omega) (fun hq => ?_)).mono (fun o ho => ?_)
        · rw [hYm (by omega), hqY hq]
          simp only [grB, List.length_cons, List.length_nil, Nat.zero_add, mvs_len]
          rw [if_pos rm, mvs_app]
          rfl
        · cases o with
          | inr g => exact ho
          | inl s =>
            obtain ⟨q', ks', h1, h2, h3⟩ := ho
            exact ⟨q', ks', h1, by omega, h3⟩
      simp only [Option.bind_some, Bool.not_false, if_true, ltI, decide_eq_true_eq]
      by_cases h1 : (1 : Int) < (ks.length : Int)
      · rw [if_pos h1]
        rcases must_is (l := l) (p := p) (deep := (D : Int)) (K := K) (s := [44]) (S.b1 hp) with ⟨hm, he⟩ | ⟨_, he⟩
        · obtain ⟨hlt, hwa⟩ := wd_want S.ok hm (by decide)
          rw [he]
          simp only [grB]
          refine more (p + 1) (by omega) (by omega) (fun _ => ?_) (hw.step hlt hwa)
          rw [hY (by omega), S.eat _ (by omega) hp, if_neg hc]
          simp only [Option.bind_some, Bool.not_false, if_true, ltI, decide_eq_true_eq]
          rw [if_pos (by rw [mvs_len]; exact h1), S.must _ hlt hm]
          rfl
        · obtain ⟨e, he⟩ := he
          rw [he]
          exact Sm.inrO (Sm.inrO (Sm.some (Sm.some (nzI (by decide)))))
      · rw [if_neg h1]
        refine more p (Nat.le_refl _) hp (fun hl => ?_) hw
        rw [hY hl, S.eat _ hl hp, if_neg hc]
        simp only [Option.bind_some, Bool.not_false, if_true, ltI, decide_eq_true_eq]
        rw [if_neg (by rw [mvs_len]; exact h1)]
theorem mvs1 (d : Nat) (x : Node) : mvs d [x] = [mv d x] := rfl
theorem mvN (d : Nat) (k t : Int) (ks : List Node) : mv d ⟨k, t, ks⟩ = ⟨k, mvt d t, mvs d ks⟩ := rfl
theorem post_loop (S : Sim l l2 d lim) (h1 : SE l l2 d lim q1 D) (h5 : SE l l2 d lim q5 D) : ∀ (n p p0 : Nat) (k t : Int) (ks : List Node) (K K2 : List KD) (Y : Option (GR (Int × Int × Int × Int × Int) (Int × Int × List Node × Int × Int))),
    l.length - p = n → p0 < p → p ≤ l.length → WP l p0 p (fun i => cnt i ⟨k, t, ks⟩) (nsz ⟨k, t, ks⟩) → (p < lim → Y = loopO (tree_parser_postfix_b2 q5 q1 l2 K2) (((p + d : Nat) : Int), (D : Int), k, mvt d t, mvs d ks)) →
    Sm (loopO (tree_parser_postfix_b2 q5 q1 l K) ((p : Int), (D : Int), k, t, ks)) (okr (Res l d lim p0 D Y)) := by
  intro n
  induction n using Nat.strongRecOn with
  | ind n ih =>
    intro p p0 k t ks K K2 Y hn h0 hp hw hY
    have hl1 := S.l1
    have hb := S.b hp
    rw [lpO_eq]
    have hY : p < lim → Y = lpO (tree_parser_postfix_b2 q5 q1 l2 K2) (tree_parser_postfix_b2 q5 q1 l2 K2 (((p + d : Nat) : Int), (D : Int), k, mvt d t, mvs d ks)) := fun h => by rw [hY h, lpO_eq]
    refine Sm.lp ?_
    simp only [tree_parser_postfix_b2] at hY ⊢
    rw [eat_is hb]
    by_cases hc : wd l p = [40]
    · -- a call
      rw [if_pos hc]
      obtain ⟨hlt, hwa⟩ := wd_want S.ok hc (by decide)
      have hw1 := hw.one.step hlt hwa
      refine (args_ok S h5 (l.length - (p + 1)) (p + 1) p0 [⟨k, t, ks⟩] K K2 (tree_parser_postfix_b2 q5 q1 l2 K2 (((p + d : Nat) : Int), (D : Int), k, mvt d t, mvs d ks)) rfl (by omega) (by omega) hw1 (by have := hw.one.sz; omega) (fun hl => ?_)).mono (fun o ho => ?_)
      · simp only [tree_parser_postfix_b2]
        rw [S.eat _ (by omega) hp, if_pos hc]
        rfl
      · cases o with
        | inr g =>
          cases g with
          | ok _ => exact ho.elim
          | er e => exact Sm.some ho
        | inl s =>
          obtain ⟨q, ks', rfl, g2, g3, g4⟩ := ho
          refine ih (l.length - q) (by omega) q p0 14 (-1) ks' K K2 Y rfl (by omega) g3.le.2 g3 (fun hq => ?_)
          have g5 := g4 hq
          simp only [tree_parser_postfix_b2] at g5
          rw [hY (by omega), g5]
          rfl
    · rw [if_neg hc]
      simp only [Option.bind_some, Bool.false_eq_true, if_false]
      have hY : p < lim → Y = lpO (tree_parser_postfix_b2 q5 q1 l2 K2) ((tree_parser_eat [91] l2 ((p + d : Nat) : Int) (D : Int) K2).bind fun r5 => if r5.1 = true then grB (q1 l2 r5.2 (D : Int) K2) (fun r6 => grB (tree_parser_must [93] l2 r6.2.2.2.1 r6.2.2.2.2 K2) (fun r7 => some (.inl (r7, r6.2.2.2.2, 15, (-1), [(⟨k, mvt d t, mvs d ks⟩ : Node), (⟨r6.1, r6.2.1, r6.2.2.1⟩ : Node)]))) (fun e4 => inrO (some (.er (2, e4.1, e4.2.1, e4.2.2, r6.2.2.2.2))))) (fun e3 => inrO (some (.er (e3.1, e3.2.1, e3.2.2.1, e3.2.2.2.1, e3.2.2.2.2)))) else inrO (some (.ok (k, mvt d t, mvs d ks, r5.2, (D : Int))))) := fun hl => by
        rw [hY hl, S.eat _ hl hp, if_neg hc]
        rfl
      rw [eat_is hb]
      by_cases hc2 : wd l p = [91]
      · -- a place
        rw [if_pos hc2]
        obtain ⟨hlt, hwa⟩ := wd_want S.ok hc2 (by decide)
        simp only [Option.bind_some, if_true]
        refine Sm.grB (h1 (p + 1) K K2 (by omega)) (fun r hr1 hr => ?_) (fun e he => Sm.inrO (Sm.some (Sm.some he)))
        obtain ⟨k1, t1, ks1, q, rfl, hq0, hqw, hqY⟩ := hr
        have hle := hqw.le
        simp only
        rcases must_is (l := l) (p := q) (deep := (D : Int)) (K := K) (s := [93]) (S.b1 hle.2) with ⟨hm, he⟩ | ⟨_, e, he⟩
        · obtain ⟨hlt2, hwa2⟩ := wd_want S.ok hm (by decide)
          rw [he]
          simp only [grB]
          have hk := ((hw.one.step hlt hwa).kid hqw)
          refine Sm.some (ih (l.length - (q + 1)) (by omega) (q + 1) p0 15 (-1) _ K K2 Y rfl (by omega) (by omega) ((hk.step hlt2 hwa2).node (by omega) (by have := hk.sz; have := hk.le; omega)) (fun hq => ?_))
          rw [hY (by omega), S.eat _ (by omega) hp, if_pos hc2]
          simp only [Option.bind_some, if_true]
          rw [hqY (by omega)]
          simp only [grB]
          rw [S.must _ hlt2 hm]
          rfl
        · rw [he]
          exact Sm.inrO (Sm.some (Sm.some (nzI (by decide))))
      · rw [if_neg hc2]
        simp only [Option.bind_some, Bool.false_eq_true, if_false]
        refine Sm.inrO (Sm.some (Sm.some ⟨k, t, ks, p, rfl, h0, hw, fun hl => ?_⟩))
        rw [hY hl, S.eat _ hl hp, if_neg hc2]
        rfl
theorem eqI_nat (a b : Nat) : eqI (a : Int) (b : Int) = decide (a = b) := by unfold eqI; exact decide_eq_decide.2 (by omega)
theorem want_lit {p : Nat} (h : eqI (l.getD p default).Kind 2 = true ∨ eqI (l.getD p default).Kind 3 = true ∨ eqI (l.getD p default).Kind 4 = true) : want l p = true := by
  unfold want
  rcases h with h | h | h <;> rw [h] <;> simp
theorem postfix_ok (S : Sim l l2 d lim) (h1 : SE l l2 d lim q1 D) (h5 : SE l l2 d lim q5 D) : SE l l2 d lim (tree_parser_postfix_s q1 q2 q3 q4 q5) D := by
  intro p K K2 hp
  have hl1 := S.l1
  have hb := S.b hp
  unfold tree_parser_postfix_s
  by_cases he : p = l.length
  · have hc : eqI (p : Int) (l.length : Int) = true := by rw [eqI_nat]; simpa using he
    rw [if_pos hc]
    obtain ⟨e, hf⟩ := fail_is (l := l) (p := p) (deep := (D : Int)) (K := K) (n := 9) hb
    rw [hf]
    exact Sm.some (nzI (by decide))
  · have hlt : p < l.length := by omega
    have hc : ¬ eqI (p : Int) (l.length : Int) = true := by rw [eqI_nat]; simpa using he
    have hc2 : ¬ eqI ((p + d : Nat) : Int) (l2.length : Int) = true := by
      have := (S.lt p hlt).1
      rw [eqI_nat]; simp; omega
    rw [if_neg hc, if_neg hc2, eat_is hb, S.eat _ (by omega) hp]
    by_cases hw : wd l p = [40]
    · -- in parentheses
      rw [if_pos hw, if_pos hw]
      obtain ⟨_, hwa⟩ := wd_want S.ok hw (by decide)
      simp only [Option.bind_some, if_true]
      generalize hYd : grB (q1 l2 ((p + 1 + d : Nat) : Int) (D : Int) K2) _ _ = Y
      refine Sm.grB (h1 (p + 1) K K2 (by omega)) (fun r hr1 hr => ?_) (fun e he => Sm.some he)
      obtain ⟨k1, t1, ks1, q, rfl, hq0, hqw, hqY⟩ := hr
      have hle := hqw.le
      simp only
      rcases must_is (l := l) (p := q) (deep := (D : Int)) (K := K) (s := [41]) (S.b1 hle.2) with ⟨hm, he⟩ | ⟨_, e, he⟩
      · obtain ⟨hlt2, hwa2⟩ := wd_want S.ok hm (by decide)
        rw [he]
        simp only [grB, tree_parser_postfix_j1]
        have hw2 : WP l p (q + 1) (fun i => cnt i ⟨k1, t1, ks1⟩) (nsz ⟨k1, t1, ks1⟩) := (((WP.nil hp).step hlt hwa).app hqw |>.step hlt2 hwa2).of (fun i => by simp) (by omega)
        refine post_loop S h1 h5 _ (q + 1) p k1 t1 ks1 K K2 Y rfl (by omega) (by omega) hw2 (fun hq => ?_)
        rw [← hYd, hqY (by omega)]
        simp only [grB]
        rw [S.must _ hlt2 hm]
        rfl
      · rw [he]
        exact Sm.some (nzI (by decide))
    · rw [if_neg hw, if_neg hw]
      simp only [Option.bind_some, Bool.false_eq_true, if_false, Int.toNat_natCast]
      have g1 : (0 : Int) ≤ (p : Int) ∧ p < l.length := by omega
      have g2 : (0 : Int) ≤ ((p + d : Nat) : Int) ∧ p + d < l2.length := by have := (S.lt p hlt).1; omega
      simp only [if_pos g1, if_pos g2, (S.lt p hlt).2]
      -- a number, a character, a text
      have lit : want l p = true → Sm (tree_parser_postfix_j5 q5 q1 l (D : Int) K (false, (p : Int)) true) (okr (Res l d lim p D (tree_parser_postfix_j5 q5 q1 l2 (D : Int) K2 (false, ((p + d : Nat) : Int)) true))) := fun hwa => by
        simp only [tree_parser_postfix_j5, if_true, tree_parser_postfix_j1]
        rw [wP hb, wP (Nat.le_of_lt (Nat.lt_trans (S.lt p hlt).1 S.len2))]
        refine post_loop S h1 h5 _ (p + 1) p 11 (p : Int) [] K K2 _ rfl (by omega) (by omega) ((WP.tok hlt (s := 1) (by omega)).of (fun i => by simp [cnt, cnts]) (by simp [nsz, nszs])) (fun _ => ?_)
        rw [mvt_nat, show p + d + 1 = p + 1 + d by omega]
        rfl
      by_cases hk2 : eqI (l.getD p default).Kind 2 = true
      · rw [if_pos hk2, if_pos hk2]; exact lit (want_lit (.inl hk2))
      · rw [if_neg hk2, if_neg hk2]
        by_cases hk3 : eqI (l.getD p default).Kind 3 = true
        · rw [if_pos hk3, if_pos hk3]; exact lit (want_lit (.inr (.inl hk3)))
        · rw [if_neg hk3, if_neg hk3]
          by_cases hk4 : eqI (l.getD p default).Kind 4 = true
          · rw [hk4]; exact lit (want_lit (.inr (.inr hk4)))
          · have hk4 : eqI (l.getD p default).Kind 4 = false := by simpa using hk4
            rw [hk4]
            simp only [tree_parser_postfix_j5, Bool.false_eq_true, if_false]
            rcases name_is (deep := (D : Int)) (K := K) hp (Nat.le_of_lt S.ok.len) with ⟨_, hn, he⟩ | ⟨e, he⟩
            · rw [he, S.name hlt hn]
              simp only [grB, tree_parser_postfix_j1]
              refine post_loop S h1 h5 _ (p + 1) p 10 (p : Int) [] K K2 _ rfl (by omega) (by omega) ((WP.tok hlt (s := 1) (by omega)).of (fun i => by simp [cnt, cnts]) (by simp [nsz, nszs])) (fun _ => ?_)
              rw [mvt_nat]
              rfl
            · rw [he]
              exact Sm.some (nzI (by decide))
def TgP (s : List UInt8) (o : Option Int) : Prop := ∃ n : Nat, o = some (n : Int) ∧ n ≤ 12 ∧ (n ≠ 0 → okW s = true)
theorem TgP.ite {s : List UInt8} {c : Prop} [Decidable c] {a b : Option Int} (h : c → TgP s a) (k : ¬ c → TgP s b) : TgP s (if c then a else b) := by
  by_cases e : c
  · rw [if_pos e]; exact h e
  · rw [if_neg e]; exact k e
theorem TgP.zero {s : List UInt8} : TgP s (some 0) := ⟨0, rfl, by omega, fun h => absurd rfl h⟩
theorem TgP.of {s : List UInt8} (n : Nat) (hn : n ≤ 12) (h : okW s = true) : TgP s (some (n : Int)) := ⟨n, rfl, hn, fun _ => h⟩
theorem tight_is (s : List UInt8) : TgP s (tree_tight s) := by
  unfold tree_tight
  simp only [tree_tight_j1, tree_tight_j2, tree_tight_j3, tree_tight_j4, tree_tight_j5, tree_tight_j6, eqS, decide_eq_true_eq, if_true]
  repeat' (refine TgP.ite ?_ ?_ <;> intro h0)
  all_goals first
    | exact TgP.zero
    | (subst h0
       first
        | exact TgP.of 1 (by omega) (by decide)
        | exact TgP.of 2 (by omega) (by decide)
        | exact TgP.of 3 (by omega) (by decide)
        | exact TgP.of 4 (by omega) (by decide)
        | exact TgP.of 5 (by omega) (by decide)
        | exact TgP.of 6 (by omega) (by decide)
        | exact TgP.of 7 (by omega) (by decide)
        | exact TgP.of 8 (by omega) (by decide)
        | exact TgP.of 9 (by omega) (by decide)
        | exact TgP.of 10 (by omega) (by decide)
        | exact TgP.of 11 (by omega) (by decide)
        | exact TgP.of 12 (by omega) (by decide))
theorem bin_loop (S : Sim l l2 d lim) (hD : D < 30) (least : Int) (h2 : ∀ n, SE l l2 d lim (q2 n) (D + 1)) : ∀ (n p p0 : Nat) (k t : Int) (ks : List Node) (K K2 : List KD) (Y : Option (GR (Int × Int × Int × Int × Int) (Int × Int × List Node × Int × Int))),
    l.length - p = n → p0 < p → p ≤ l.length → WP l p0 p (fun i => cnt i ⟨k, t, ks⟩) (nsz ⟨k, t, ks⟩) → (p < lim → Y = loopO (tree_parser_binary_b1 q2 least l2 K2) (((p + d : Nat) : Int), ((D + 1 : Nat) : Int), k, mvt d t, mvs d ks)) →
    Sm (loopO (tree_parser_binary_b1 q2 least l K) ((p : Int), ((D + 1 : Nat) : Int), k, t, ks)) (okr (Res l d lim p0 D Y)) := by
  intro n
  induction n using Nat.strongRecOn with
  | ind n ih =>
    intro p p0 k t ks K K2 Y hn h0 hp hw hY
    have hl1 := S.l1
    have hb := S.b hp
    rw [lpO_eq]
    have hY : p < lim → Y = lpO (tree_parser_binary_b1 q2 least l2 K2) (tree_parser_binary_b1 q2 least l2 K2 (((p + d : Nat) : Int), ((D + 1 : Nat) : Int), k, mvt d t, mvs d ks)) := fun h => by rw [hY h, lpO_eq]
    refine Sm.lp ?_
    simp only [tree_parser_binary_b1] at hY ⊢
    obtain ⟨m, hm, hm12, hmw⟩ := tight_is (wd l p)
    rw [peek_is]
    simp only [Option.bind_some]
    rw [hm]
    have hY : p < lim → Y = lpO (tree_parser_binary_b1 q2 least l2 K2) (if eqI (m : Int) 0 = true then tree_parser_binary_j2 q2 l2 K2 ((p + d : Nat) : Int) ((D + 1 : Nat) : Int) k (mvt d t) (mvs d ks) (m : Int) true else tree_parser_binary_j2 q2 l2 K2 ((p + d : Nat) : Int) ((D + 1 : Nat) : Int) k (mvt d t) (mvs d ks) (m : Int) (ltI (m : Int) least)) := fun hl => by
      rw [hY hl, S.peek hl]
      simp only [Option.bind_some]
      rw [hm]
      rfl
    simp only [Option.bind_some]
    -- it ends here
    have fin : (p < lim → Y = lpO (tree_parser_binary_b1 q2 least l2 K2) (tree_parser_binary_j2 q2 l2 K2 ((p + d : Nat) : Int) ((D + 1 : Nat) : Int) k (mvt d t) (mvs d ks) (m : Int) true)) → Sm (tree_parser_binary_j2 q2 l K (p : Int) ((D + 1 : Nat) : Int) k t ks (m : Int) true) fun o => Sm (lpO (tree_parser_binary_b1 q2 least l K) (some o)) (okr (Res l d lim p0 D Y)) := fun hY => by
      simp only [tree_parser_binary_j2, if_true] at hY ⊢
      rw [up_is (by omega)]
      refine Sm.inrO (Sm.some (Sm.some ⟨k, t, ks, p, rfl, h0, hw, fun hl => ?_⟩))
      rw [hY hl, up_is (by omega)]
      rfl
    by_cases hz : m = 0
    · have e0 : eqI (m : Int) 0 = true := by subst hz; rfl
      rw [if_pos e0] at hY ⊢
      exact fin hY
    · have e0 : ¬ eqI (m : Int) 0 = true := by unfold eqI; simp; omega
      rw [if_neg e0] at hY ⊢
      cases hlt : ltI (m : Int) least with
      | true => rw [hlt] at hY; exact fin hY
      | false =>
        rw [hlt] at hY
        obtain ⟨hlt2, hwa⟩ := wd_want S.ok rfl (hmw hz)
        have hsl := (S.lt p hlt2).1
        have hb2 : p + d ≤ BL := Nat.le_of_lt (Nat.lt_trans hsl S.len2)
        -- the sign, and what is behind it
        have nxt : ∀ n : Int, (Y = lpO (tree_parser_binary_b1 q2 least l2 K2) (tree_parser_binary_j3 q2 l2 K2 ((p + d : Nat) : Int) ((D + 1 : Nat) : Int) (n, ((p + 1 + d : Nat) : Int), [⟨k, mvt d t, mvs d ks⟩]))) →
            Sm (tree_parser_binary_j3 q2 l K (p : Int) ((D + 1 : Nat) : Int) (n, ((p + 1 : Nat) : Int), [⟨k, t, ks⟩])) fun o => Sm (lpO (tree_parser_binary_b1 q2 least l K) (some o)) (okr (Res l d lim p0 D Y)) := fun n hY => by
          simp only [tree_parser_binary_j3] at hY ⊢
          refine Sm.grB (h2 n (p + 1) K K2 (by omega)) (fun r hr1 hr => ?_) (fun e he => ?_)
          · obtain ⟨k1, t1, ks1, q, rfl, hq0, hqw, hqY⟩ := hr
            have hle := hqw.le
            simp only [List.length_cons, List.length_nil, Nat.zero_add]
            rw [if_pos (by omega)]
            have hk : WP l p0 q (fun i => cnt i ⟨13, (p : Int), [⟨k, t, ks⟩, ⟨k1, t1, ks1⟩]⟩) (nsz ⟨13, (p : Int), [⟨k, t, ks⟩, ⟨k1, t1, ks1⟩]⟩) :=
              ((hw.app (WP.tok hlt2 (s := 1) (by omega))).app hqw).of (fun i => by simp only [cnt, cnts]; omega) (by simp only [nsz, nszs]; omega)
            refine Sm.some (ih (l.length - q) (by omega) q p0 13 (p : Int) _ K K2 Y rfl (by omega) hle.2 hk (fun hq => ?_))
            rw [hY, hqY hq]
            simp only [grB, List.length_cons, List.length_nil, Nat.zero_add]
            rw [if_pos (by omega), mvt_nat]
            rfl
          · rw [show tree_parser_down_1 l e.2.2.2.1 e.2.2.2.2 K = some (IntKind.i64.wrap (e.2.2.2.2 - 1)) from rfl]
            exact Sm.inrO (Sm.some (Sm.some he))
        simp only [tree_parser_binary_j2, Bool.false_eq_true, if_false, wP hb, wP hb2] at hY ⊢
        have hY := hY (by omega)
        rw [show p + d + 1 = p + 1 + d by omega] at hY
        by_cases e2 : (!eqI (m : Int) 2) = true
        · rw [if_pos e2] at hY ⊢
          exact nxt _ hY
        · rw [if_neg e2] at hY ⊢
          exact nxt _ hY
theorem binary_ok (S : Sim l l2 d lim) (hD : D ≤ 30) (h2 : D < 30 → ∀ n, SE l l2 d lim (q2 n) (D + 1)) (h3 : D < 30 → SE l l2 d lim q3 (D + 1)) (least : Int) : SE l l2 d lim (tree_parser_binary_s q1 q2 q3 q4 q5 least) D := by
  intro p K K2 hp
  have hb := S.b hp
  generalize hYd : tree_parser_binary_s q1 q2 q3 q4 q5 least l2 ((p + d : Nat) : Int) (D : Int) K2 = Y
  unfold tree_parser_binary_s
  rcases down_is (l := l) (p := p) (K := K) hD hb with ⟨_, e, he⟩ | ⟨hlt, he⟩
  · rw [he]; exact Sm.some (nzI (by decide))
  · rw [he]
    simp only [grB]
    refine Sm.grB (h3 hlt p K K2 hp) (fun r hr1 hr => ?_) (fun e he => Sm.some he)
    obtain ⟨k1, t1, ks1, q, rfl, hq0, hqw, hqY⟩ := hr
    simp only
    refine bin_loop S hlt least (h2 hlt) _ q p k1 t1 ks1 K K2 Y rfl hq0 hqw.le.2 hqw (fun hq => ?_)
    rw [← hYd]
    unfold tree_parser_binary_s
    rw [S.down hlt]
    simp only [grB]
    rw [hqY hq]
theorem un_want {s : List UInt8} (h : s = [45] ∨ s = [43] ∨ s = [33] ∨ s = [126] ∨ s = [42] ∨ s = [38] ∨ s = [43, 43] ∨ s = [45, 45]) : okW s = true := by
  rcases h with rfl | rfl | rfl | rfl | rfl | rfl | rfl | rfl <;> decide
theorem unary_ok (S : Sim l l2 d lim) (hD : D ≤ 30) (h3 : D < 30 → SE l l2 d lim q3 (D + 1)) (h4 : D < 30 → SE l l2 d lim q4 (D + 1)) : SE l l2 d lim (tree_parser_unary_s q1 q2 q3 q4 q5) D := by
  intro p K K2 hp
  have hl1 := S.l1
  have hb := S.b hp
  unfold tree_parser_unary_s
  rcases down_is (l := l) (p := p) (K := K) hD hb with ⟨_, e, he⟩ | ⟨hlt, he⟩
  · rw [he]; exact Sm.some (nzI (by decide))
  · rw [he, S.down hlt]
    simp only [grB]
    rw [peek_is]
    simp only [Option.bind_some]
    generalize hYd : (tree_parser_peek l2 ((p + d : Nat) : Int) ((D + 1 : Nat) : Int) K2).bind _ = Y
    have up : ∀ e : Int × Int × Int × Int × Int, e.1 ≠ 0 → Sm ((tree_parser_down_1 l e.2.2.2.1 e.2.2.2.2 K).bind fun r5 => some (GR.er (R := Int × Int × List Node × Int × Int) (e.1, e.2.1, e.2.2.1, e.2.2.2.1, r5))) (okr (Res l d lim p D Y)) := fun e he => by
      rw [show tree_parser_down_1 l e.2.2.2.1 e.2.2.2.2 K = some (IntKind.i64.wrap (e.2.2.2.2 - 1)) from rfl]
      exact Sm.some he
    have no : (p < lim → Y = tree_parser_unary_j1 q4 q3 l2 ((p + d : Nat) : Int) K2 ((D + 1 : Nat) : Int) false) → Sm (tree_parser_unary_j1 q4 q3 l (p : Int) K ((D + 1 : Nat) : Int) false) (okr (Res l d lim p D Y)) := fun hY => by
      simp only [tree_parser_unary_j1, Bool.false_eq_true, if_false] at hY ⊢
      refine Sm.grB (h4 hlt p K K2 hp) (fun r hr1 hr => ?_) up
      obtain ⟨k1, t1, ks1, q, rfl, hq0, hqw, hqY⟩ := hr
      simp only
      rw [up_is (by omega)]
      refine Sm.some ⟨k1, t1, ks1, q, rfl, hq0, hqw, fun hq => ?_⟩
      rw [hY (by omega), hqY hq]
      simp only [grB]
      rw [up_is (by omega)]
      rfl
    have yes : okW (wd l p) = true → (Y = tree_parser_unary_j1 q4 q3 l2 ((p + d : Nat) : Int) K2 ((D + 1 : Nat) : Int) true) → Sm (tree_parser_unary_j1 q4 q3 l (p : Int) K ((D + 1 : Nat) : Int) true) (okr (Res l d lim p D Y)) := fun hw hY => by
      obtain ⟨hlt2, hwa⟩ := wd_want S.ok rfl hw
      have hb2 : p + d ≤ BL := Nat.le_of_lt (Nat.lt_trans (S.lt p hlt2).1 S.len2)
      simp only [tree_parser_unary_j1, if_true, wP hb, wP hb2] at hY ⊢
      rw [show p + d + 1 = p + 1 + d by omega] at hY
      refine Sm.grB (h3 hlt (p + 1) K K2 (by omega)) (fun r hr1 hr => ?_) up
      obtain ⟨k1, t1, ks1, q, rfl, hq0, hqw, hqY⟩ := hr
      simp only
      rw [up_is (by omega)]
      refine Sm.some ⟨12, (p : Int), _, q, rfl, by omega, ((WP.tok hlt2 (s := 1) (by omega)).app hqw).of (fun i => by simp only [cnt, cnts]; omega) (by simp only [nsz, nszs]; omega), fun hq => ?_⟩
      rw [hY, hqY hq]
      simp only [grB]
      rw [up_is (by omega), mvt_nat]
      rfl
    have hYp : p < lim → Y = _ := fun hl => by rw [← hYd, S.peek hl, Option.bind_some]
    have eqd : ∀ a b : List UInt8, eqS a b = decide (a = b) := fun _ _ => rfl
    simp only [eqd, decide_eq_true_eq] at hYp ⊢
    have go : (wd l p = [45] ∨ wd l p = [43] ∨ wd l p = [33] ∨ wd l p = [126] ∨ wd l p = [42] ∨ wd l p = [38] ∨ wd l p = [43, 43] ∨ wd l p = [45, 45]) → p < lim := fun h => by
      have := (wd_want S.ok rfl (un_want h)).1
      omega
    by_cases c1 : wd l p = [45]
    · rw [if_pos c1] at hYp ⊢; exact yes (un_want (by simp [c1])) (hYp (go (by simp [c1])))
    rw [if_neg c1] at hYp ⊢
    by_cases c2 : wd l p = [43]
    · rw [if_pos c2] at hYp ⊢; exact yes (un_want (by simp [c2])) (hYp (go (by simp [c2])))
    rw [if_neg c2] at hYp ⊢
    by_cases c3 : wd l p = [33]
    · rw [if_pos c3] at hYp ⊢; exact yes (un_want (by simp [c3])) (hYp (go (by simp [c3])))
    rw [if_neg c3] at hYp ⊢
    by_cases c4 : wd l p = [126]
    · rw [if_pos c4] at hYp ⊢; exact yes (un_want (by simp [c4])) (hYp (go (by simp [c4])))
    rw [if_neg c4] at hYp ⊢
    by_cases c5 : wd l p = [42]
    · rw [if_pos c5] at hYp ⊢; exact yes (un_want (by simp [c5])) (hYp (go (by simp [c5])))
    rw [if_neg c5] at hYp ⊢
    by_cases c6 : wd l p = [38]
    · rw [if_pos c6] at hYp ⊢; exact yes (un_want (by simp [c6])) (hYp (go (by simp [c6])))
    rw [if_neg c6] at hYp ⊢
    by_cases c7 : wd l p = [43, 43]
    · rw [if_pos c7] at hYp ⊢; exact yes (un_want (by simp [c7])) (hYp (go (by simp [c7])))
    rw [if_neg c7] at hYp ⊢
    by_cases c8 : wd l p = [45, 45]
    · rw [decide_eq_true c8] at hYp ⊢; exact yes (un_want (by simp [c8])) (hYp (go (by simp [c8])))
    · rw [decide_eq_false c8] at hYp ⊢; exact no hYp
theorem expr_ok (h2 : SE l l2 d lim (q2 1) D) : SE l l2 d lim (tree_parser_expr_s q1 q2 q3 q4 q5) D := by
  intro p K K2 hp
  unfold tree_parser_expr_s
  refine Sm.grB (h2 p K K2 hp) (fun r hr1 hr => ?_) (fun e he => Sm.some he)
  obtain ⟨k1, t1, ks1, q, rfl, hq0, hqw, hqY⟩ := hr
  exact Sm.some ⟨k1, t1, ks1, q, rfl, hq0, hqw, fun hq => by rw [hqY hq]; rfl⟩
theorem assign_ok (h2 : SE l l2 d lim (q2 2) D) : SE l l2 d lim (tree_parser_assign_s q1 q2 q3 q4 q5) D := by
  intro p K K2 hp
  unfold tree_parser_assign_s
  refine Sm.grB (h2 p K K2 hp) (fun r hr1 hr => ?_) (fun e he => Sm.some he)
  obtain ⟨k1, t1, ks1, q, rfl, hq0, hqw, hqY⟩ := hr
  exact Sm.some ⟨k1, t1, ks1, q, rfl, hq0, hqw, fun hq => by rw [hqY hq]; rfl⟩
theorem rec_ok (S : Sim l l2 d lim) : ∀ (n D : Nat), D ≤ 30 →
    (4 * (31 - D) ≤ n → ∀ m, SE l l2 d lim ((rec_tree_parser_expr n).2.1 m) D) ∧ (4 * (31 - D) + 1 ≤ n → SE l l2 d lim (rec_tree_parser_expr n).1 D ∧ SE l l2 d lim (rec_tree_parser_expr n).2.2.2.2 D) ∧
    (4 * (31 - D) + 2 ≤ n → SE l l2 d lim (rec_tree_parser_expr n).2.2.2.1 D) ∧ (4 * (31 - D) + 3 ≤ n → SE l l2 d lim (rec_tree_parser_expr n).2.2.1 D)
  | 0, D, hD => ⟨fun h => by omega, fun h => by omega, fun h => by omega, fun h => by omega⟩
  | n + 1, D, hD => by
    obtain ⟨a1, a2, a3, a4⟩ := rec_ok S n D hD
    refine ⟨fun h m => ?_, fun h => ⟨?_, ?_⟩, fun h => ?_, fun h => ?_⟩
    · exact binary_ok (q1 := (rec_tree_parser_expr n).1) (q2 := (rec_tree_parser_expr n).2.1) (q3 := (rec_tree_parser_expr n).2.2.1) (q4 := (rec_tree_parser_expr n).2.2.2.1) (q5 := (rec_tree_parser_expr n).2.2.2.2) S hD (fun hlt => (rec_ok S n (D + 1) (by omega)).1 (by omega)) (fun hlt => (rec_ok S n (D + 1) (by omega)).2.2.2 (by omega)) m
    · exact expr_ok (q1 := (rec_tree_parser_expr n).1) (q2 := (rec_tree_parser_expr n).2.1) (q3 := (rec_tree_parser_expr n).2.2.1) (q4 := (rec_tree_parser_expr n).2.2.2.1) (q5 := (rec_tree_parser_expr n).2.2.2.2) (a1 (by omega) 1)
    · exact assign_ok (q1 := (rec_tree_parser_expr n).1) (q2 := (rec_tree_parser_expr n).2.1) (q3 := (rec_tree_parser_expr n).2.2.1) (q4 := (rec_tree_parser_expr n).2.2.2.1) (q5 := (rec_tree_parser_expr n).2.2.2.2) (a1 (by omega) 2)
    · exact postfix_ok (q1 := (rec_tree_parser_expr n).1) (q2 := (rec_tree_parser_expr n).2.1) (q3 := (rec_tree_parser_expr n).2.2.1) (q4 := (rec_tree_parser_expr n).2.2.2.1) (q5 := (rec_tree_parser_expr n).2.2.2.2) S (a2 (by omega)).1 (a2 (by omega)).2
    · exact unary_ok (q1 := (rec_tree_parser_expr n).1) (q2 := (rec_tree_parser_expr n).2.1) (q3 := (rec_tree_parser_expr n).2.2.1) (q4 := (rec_tree_parser_expr n).2.2.2.1) (q5 := (rec_tree_parser_expr n).2.2.2.2) S hD (fun hlt => (rec_ok S n (D + 1) (by omega)).2.2.2 (by omega)) (fun hlt => (rec_ok S n (D + 1) (by omega)).2.2.1 (by omega))
theorem exprs_ok (S : Sim l l2 d lim) (hD : D ≤ 30) : SE l l2 d lim tree_parser_expr D ∧ SE l l2 d lim tree_parser_assign D :=
  (rec_ok S bigF D hD).2.1 (by unfold bigF; omega)
end
end Go.Proofs.Ytppomhjhokbacaa
