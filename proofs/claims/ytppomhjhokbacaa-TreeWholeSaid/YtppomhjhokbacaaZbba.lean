/- The tree's parser, plain: statements, files. -/
import Derived.Test.YtppomhjhokbacaaZbaz
set_option linter.unusedVariables false
set_option linter.unusedSimpArgs false
namespace Go.Proofs.Ytppomhjhokbacaa
open Go.RowKit
abbrev BX := List Token → Int → Int → List KD → RSR
abbrev SX := List Token → Int → Int → List KD → STR
def SB (l l2 : TL) (d lim : Nat) (F : BX) (D : Nat) : Prop := ∀ (p : Nat) (K K2 : List KD), p ≤ l.length → KK K K2 p d → Sm (F l (p : Int) (D : Int) K) (okr (RRes l d p p D K (F l2 ((p + d : Nat) : Int) (D : Int) K2)))
def SS (l l2 : TL) (d lim : Nat) (F : SX) (D : Nat) : Prop := ∀ (p : Nat) (K K2 : List KD), p ≤ l.length → KK K K2 p d → Sm (F l (p : Int) (D : Int) K) (okr (TRes l d lim p D K (F l2 ((p + d : Nat) : Int) (D : Int) K2)))
theorem KP2.self {l : TL} {d p : Nat} {K K2 : List KD} (h : KK K K2 p d) : KP2 l d K K K2 p := ⟨h, rfl, fun _ h => h⟩
theorem KP2.trans {l : TL} {d p q : Nat} {K K' K2' K'' K2'' : List KD} (h : KP2 l d K K' K2' p) (k : KP2 l d K' K'' K2'' q) : KP2 l d K K'' K2'' q := ⟨k.k, k.len.trans h.len, fun a b => k.af a (h.af a b)⟩
theorem KP2.mono {l : TL} {d p q : Nat} {K K' K2' : List KD} (h : KP2 l d K K' K2' p) (hpq : p ≤ q) : KP2 l d K K' K2' q := ⟨h.k.mono hpq, h.len, h.af⟩
section
variable {l l2 : TL} {d lim p D : Nat} {K K2 : List KD} {q1 : BX} {q2 : SX}
theorem block_loop (S : Sim l l2 d lim) (hD : D < 30) (h2 : SS l l2 d lim q2 (D + 1)) : ∀ (n p p0 : Nat) (ks : List Node) (K0 K K2 : List KD) (Y : RSR), l.length - p = n → p0 < p → p ≤ l.length → WP l p0 p (fun i => cnts i ks) (nszs ks) → nszs ks + 2 ≤ 2 * (p - p0) →
    KP2 l d (K0 ++ [[]]) K K2 p → 0 < K0.length → (p < lim → Y = loopO (tree_parser_block_b1 q2 l2) (((p + d : Nat) : Int), ((D + 1 : Nat) : Int), K2, mvs d ks)) →
    Sm (loopO (tree_parser_block_b1 q2 l) ((p : Int), ((D + 1 : Nat) : Int), K, ks)) (okr (RRes l d p0 p0 D K0 Y)) := by
  intro n
  induction n using Nat.strongRecOn with
  | ind n ih =>
    intro p p0 ks K0 K K2 Y hn h0 hp hw hsz hk hK0 hY
    have hl1 := S.l1
    have hb := S.b hp
    rw [lpO_eq]
    have hY : p < lim → Y = lpO (tree_parser_block_b1 q2 l2) (tree_parser_block_b1 q2 l2 (((p + d : Nat) : Int), ((D + 1 : Nat) : Int), K2, mvs d ks)) := fun h => by rw [hY h, lpO_eq]
    refine Sm.lp ?_
    simp only [tree_parser_block_b1] at hY ⊢
    rw [eat_is hb]
    by_cases hc : wd l p = [125]
    · rw [if_pos hc]
      obtain ⟨hlt, hwa⟩ := wd_want S.ok hc (by decide)
      simp only [Option.bind_some, Bool.not_true, Bool.false_eq_true, if_false]
      have hlen := hk.len
      simp only [List.length_append, List.length_cons, List.length_nil, Nat.zero_add] at hlen
      have hl2 := hk.k.e.len
      rw [if_pos (by omega), up_is (by omega)]
      refine Sm.inrO (Sm.some (Sm.some ⟨ks, p + 1, _, _, rfl, by omega, hw.step hlt hwa, by omega, ⟨(hk.k.mono (by omega)).pop (by omega), by simp; omega, fun a b => (hk.af a b.push).pop⟩, ?_⟩))
      rw [hY (by omega), S.eat _ (by omega) hp, if_pos hc]
      simp only [Option.bind_some, Bool.not_true, Bool.false_eq_true, if_false]
      rw [if_pos (by omega), up_is (by omega)]
      rfl
    · rw [if_neg hc]
      simp only [Option.bind_some, Bool.not_false, if_true]
      by_cases he : p = l.length
      · rw [if_pos (by rw [eqI_nat]; simpa using he)]
        obtain ⟨f, hf⟩ := fail_is (l := l) (p := p) (deep := ((D + 1 : Nat) : Int)) (K := K) (n := 9) hb
        rw [hf]
        exact Sm.inrO (Sm.some (Sm.some (nzI (by decide))))
      · have hlt : p < l.length := by omega
        rw [if_neg (by rw [eqI_nat]; simpa using he)]
        refine Sm.grB (h2 p K K2 hp hk.k) (fun r hr1 hr => ?_) (fun e he => Sm.inrO (Sm.some (Sm.some he)))
        obtain ⟨k1, t1, ks1, q, K', K2', rfl, hq0, hqw, hqk, hqY⟩ := hr
        have hlen := len_nszs ks
        have rm := room (ks := ks) hw hlen S.ok.len
        simp only [List.length_cons, List.length_nil, Nat.zero_add]
        rw [if_pos rm]
        have hkid := hw.kid hqw
        refine Sm.some (ih (l.length - q) (by omega) q p0 _ K0 K' K2' Y rfl (by omega) hqw.le.2 hkid (by have := hqw.sz; rw [nszs_app]; simp only [nszs]; omega) (hk.trans hqk) hK0 (fun h => ?_))
        have hne : ¬ eqI ((p + d : Nat) : Int) (l2.length : Int) = true := by have := (S.lt p hlt).1; rw [eqI_nat]; simp; omega
        rw [hY (by omega), S.eat _ (by omega) hp, if_neg hc]
        simp only [Option.bind_some, Bool.not_false, if_true]
        rw [if_neg hne, hqY h]
        simp only [grB, List.length_cons, List.length_nil, Nat.zero_add]
        rw [if_pos (by rw [mvs_len]; exact rm), mvs_app, mvs1, mvN]
        rfl
theorem block_ok (S : Sim l l2 d lim) (hD : D ≤ 30) (h2 : D < 30 → SS l l2 d lim q2 (D + 1)) : SB l l2 d lim (tree_parser_block_s q1 q2) D := by
  intro p K K2 hp hk
  have hl1 := S.l1
  have hb := S.b hp
  generalize hYd : tree_parser_block_s q1 q2 l2 ((p + d : Nat) : Int) (D : Int) K2 = Y
  unfold tree_parser_block_s
  rcases down_is (l := l) (p := p) (K := K) hD hb with ⟨_, e, he⟩ | ⟨hlt, he⟩
  · rw [he]; exact Sm.some (nzI (by decide))
  · rw [he]
    simp only [grB]
    rcases must_is (l := l) (p := p) (deep := ((D + 1 : Nat) : Int)) (K := K) (s := [123]) (S.b1 hp) with ⟨hm, he2⟩ | ⟨_, e, he2⟩
    · obtain ⟨hlt3, hwa3⟩ := wd_want S.ok hm (by decide)
      rw [he2]
      simp only
      have hkl := hk.b.1
      have hkl2 := hk.e.len
      have hB := S.ok.len
      have hbl : BL = 1000000000000 := rfl
      rw [if_pos (by omega)]
      refine block_loop S hlt (h2 hlt) _ (p + 1) p [] K (K ++ [[]]) (K2 ++ [[]]) Y rfl (by omega) (by omega) (((WP.nil hp).step hlt3 hwa3).of (fun i => rfl) (Nat.le_refl _)) (by simp only [nszs]; omega) (KP2.self hk.push) hkl2.2 (fun _ => ?_)
      rw [← hYd]
      unfold tree_parser_block_s
      rw [S.down hlt]
      simp only [grB]
      rw [S.must _ hlt3 hm]
      simp only
      rw [if_pos (by omega)]
      rfl
    · rw [he2]
      exact Sm.some (nzI (by decide))
theorem WP.ret {q : Nat} {k : Int} {ks : List Node} (h : WP l p q (fun i => cnts i ks) (nszs ks)) (hq : q < l.length) (hw : want l q = false) : WP l p (q + 1) (fun i => cnt i ⟨k, -1, ks⟩) (nsz ⟨k, -1, ks⟩) :=
  (h.step hq hw).node (by omega) (by have := h.sz; have := h.le; omega)
theorem if_ok (S : Sim l l2 d lim) (hD : D < 30) (h2 : SS l l2 d lim q2 (D + 1)) (x2 : Int) (r2 : List UInt8) (hp : p < l.length) (hwp : want l p = false) (hk : KK K K2 p d) (Y : STR)
    (hY : Y = tree_parser_stmt_j2 q2 l2 ((p + d : Nat) : Int) K2 ((D + 1 : Nat) : Int) r2 x2) : Sm (tree_parser_stmt_j2 q2 l (p : Int) K ((D + 1 : Nat) : Int) r2 x2) (okr (TRes l d lim p D K Y)) := by
  have hl1 := S.l1
  have hb := S.b (Nat.le_of_lt hp)
  have hsl := (S.lt p hp).1
  have hb2 : p + d ≤ BL := Nat.le_of_lt (Nat.lt_trans hsl S.len2)
  simp only [tree_parser_stmt_j2, wP hb, wP hb2] at hY ⊢
  rw [show p + d + 1 = p + 1 + d by omega] at hY
  rcases must_is (l := l) (p := p + 1) (deep := ((D + 1 : Nat) : Int)) (K := K) (s := [40]) (S.b1 hp) with ⟨hm, he2⟩ | ⟨_, e, he2⟩
  rotate_left
  · rw [he2]; exact Sm.some (nzI (by decide))
  obtain ⟨hlt3, hwa3⟩ := wd_want S.ok hm (by decide)
  rw [he2]
  rw [S.must _ hlt3 hm] at hY
  simp only [grB] at hY ⊢
  refine Sm.grB ((exprs_ok S (show D + 1 ≤ 30 by omega)).1 (p + 1 + 1) K K2 (by omega)) (fun r hr1 hr => ?_) (fun e he => Sm.some he)
  obtain ⟨k1, t1, ks1, q, rfl, hq0, hqw, hqY⟩ := hr
  have hw0 := ((WP.nil (Nat.le_of_lt hp)).step hp hwp).step hlt3 hwa3
  have hwe : WP l p q (fun i => cnts i [(⟨k1, t1, ks1⟩ : Node)]) (nszs [(⟨k1, t1, ks1⟩ : Node)]) := (hw0.app hqw).of (fun i => by simp [cnts]) (by simp [nszs])
  simp only [List.length_cons, List.length_nil, Nat.zero_add, List.nil_append]
  rw [if_pos (by omega)]
  rcases must_is (l := l) (p := q) (deep := ((D + 1 : Nat) : Int)) (K := K) (s := [41]) (S.b1 hqw.le.2) with ⟨hm2, he3⟩ | ⟨_, e, he3⟩
  rotate_left
  · rw [he3]; exact Sm.some (nzI (by decide))
  obtain ⟨hlt4, hwa4⟩ := wd_want S.ok hm2 (by decide)
  rw [he3]
  have hqY := hqY (by omega)
  rw [show ((p + 1 + 1 + d : Nat) : Int) = ((p + 1 + 1 + d : Nat) : Int) from rfl] at hqY
  rw [hqY] at hY
  simp only [grB, List.length_cons, List.length_nil, Nat.zero_add, List.nil_append] at hY ⊢
  rw [if_pos (by omega), S.must _ hlt4 hm2] at hY
  simp only at hY
  have hwe2 := hwe.step hlt4 hwa4
  refine Sm.grB (h2 (q + 1) K K2 (by omega) (hk.mono (by omega))) (fun r hr1 hr => ?_) (fun e he => Sm.some he)
  obtain ⟨k2, t2, ks2, q', K', K2', rfl, hq20, hq2w, hq2k, hq2Y⟩ := hr
  simp only [List.length_cons, List.length_nil, Nat.zero_add, List.nil_append, List.length_append, List.cons_append]
  rw [if_pos (by omega)]
  have hw3 : WP l p q' (fun i => cnts i [(⟨k1, t1, ks1⟩ : Node), ⟨k2, t2, ks2⟩]) (nszs [(⟨k1, t1, ks1⟩ : Node), ⟨k2, t2, ks2⟩]) := hwe2.kid hq2w
  have hs3 : nszs [(⟨k1, t1, ks1⟩ : Node), ⟨k2, t2, ks2⟩] + 6 ≤ 2 * (q' - p) := by
    have := hqw.sz; have := hq2w.sz; have := hqw.le; have := hq2w.le
    simp only [nszs]
    omega
  have hY3 : q' < lim → Y = if eqS r2 [105, 102] = true then (tree_parser_eat [101, 108, 115, 101] l2 ((q' + d : Nat) : Int) ((D + 1 : Nat) : Int) K2').bind fun r13 => tree_parser_stmt_j4 q2 l2 x2 (k2, mvt d t2, mvs d ks2, ((q' + d : Nat) : Int), ((D + 1 : Nat) : Int), K2') (r13.1, r13.2, mvs d [⟨k1, t1, ks1⟩, ⟨k2, t2, ks2⟩]) else tree_parser_stmt_j4 q2 l2 x2 (k2, mvt d t2, mvs d ks2, ((q' + d : Nat) : Int), ((D + 1 : Nat) : Int), K2') (false, ((q' + d : Nat) : Int), mvs d [⟨k1, t1, ks1⟩, ⟨k2, t2, ks2⟩]) := fun h => by
    rw [hY, hq2Y h]
    simp only [List.length_cons, List.length_nil, Nat.zero_add, List.cons_append, List.nil_append, List.length_append]
    rw [if_pos (by omega)]
    rfl
  -- no else
  have no : (q' < lim → Y = tree_parser_stmt_j4 q2 l2 x2 (k2, mvt d t2, mvs d ks2, ((q' + d : Nat) : Int), ((D + 1 : Nat) : Int), K2') (false, ((q' + d : Nat) : Int), mvs d [⟨k1, t1, ks1⟩, ⟨k2, t2, ks2⟩])) →
      Sm (tree_parser_stmt_j4 q2 l x2 (k2, t2, ks2, (q' : Int), ((D + 1 : Nat) : Int), K') (false, (q' : Int), [⟨k1, t1, ks1⟩, ⟨k2, t2, ks2⟩])) (okr (TRes l d lim p D K Y)) := fun hY4 => by
    simp only [tree_parser_stmt_j4, Bool.false_eq_true, if_false, tree_parser_stmt_j3] at hY4 ⊢
    rw [up_is (by omega)]
    refine Sm.some ⟨x2, -1, _, q', K', K2', rfl, by omega, hw3.node (by omega) (by omega), (KP2.self hk).trans hq2k, fun h => ?_⟩
    rw [hY4 h, up_is (by omega)]
    rfl
  by_cases hif : eqS r2 [105, 102] = true
  · rw [if_pos hif] at hY3 ⊢
    rw [eat_is (S.b hq2w.le.2)]
    by_cases hc : wd l q' = [101, 108, 115, 101]
    · rw [if_pos hc]
      obtain ⟨hlt5, hwa5⟩ := wd_want S.ok hc (by decide)
      simp only [Option.bind_some, tree_parser_stmt_j4, if_true]
      refine Sm.grB (h2 (q' + 1) K' K2' (by omega) (hq2k.k.mono (by omega))) (fun r hr1 hr => ?_) (fun e he => Sm.some he)
      obtain ⟨k3, t3, ks3, q'', K'', K2'', rfl, hq30, hq3w, hq3k, hq3Y⟩ := hr
      simp only [List.length_cons, List.length_nil, Nat.zero_add, List.nil_append, List.length_append, List.cons_append]
      rw [if_pos (by omega)]
      simp only [tree_parser_stmt_j3]
      rw [up_is (by omega)]
      have hw4 : WP l p q'' (fun i => cnts i [(⟨k1, t1, ks1⟩ : Node), ⟨k2, t2, ks2⟩, ⟨k3, t3, ks3⟩]) (nszs [(⟨k1, t1, ks1⟩ : Node), ⟨k2, t2, ks2⟩, ⟨k3, t3, ks3⟩]) := (hw3.step hlt5 hwa5).kid hq3w
      refine Sm.some ⟨x2, -1, _, q'', K'', K2'', rfl, by omega, hw4.node (by omega) (by have := hq3w.sz; have := hq3w.le; simp only [nszs] at hs3 ⊢; omega), ((KP2.self hk).trans hq2k).trans hq3k, fun h => ?_⟩
      rw [hY3 (by omega), S.eat _ (by omega) hq2w.le.2, if_pos hc]
      simp only [Option.bind_some, tree_parser_stmt_j4, if_true]
      rw [hq3Y h]
      simp only [grB, List.length_cons, List.length_nil, Nat.zero_add, mvs_len]
      rw [if_pos (by omega)]
      simp only [tree_parser_stmt_j3]
      rw [up_is (by omega)]
      rfl
    · rw [if_neg hc]
      simp only [Option.bind_some]
      refine no (fun h => ?_)
      rw [hY3 h, S.eat _ h hq2w.le.2, if_neg hc]
      rfl
  · rw [if_neg hif] at hY3 ⊢
    exact no hY3
theorem eqSd (a b : List UInt8) : eqS a b = decide (a = b) := rfl
theorem j6_ok (S : Sim l l2 d lim) (hD : D < 30) (hp : p ≤ l.length) (hk : KK K K2 p d) (b : Bool) (Y : STR)
    (hY : p < lim → Y = tree_parser_stmt_j6 l2 K2 ((D + 1 : Nat) : Int) (false, ((p + d : Nat) : Int)) b) : Sm (tree_parser_stmt_j6 l K ((D + 1 : Nat) : Int) (false, (p : Int)) b) (okr (TRes l d lim p D K Y)) := by
  have hl1 := S.l1
  have hb := S.b hp
  cases b with
  | true =>
    simp only [tree_parser_stmt_j6, if_true] at hY ⊢
    refine Sm.grB (decl_ok S (show D + 1 ≤ 30 by omega) hp hk) (fun r hr1 hr => ?_) (fun e he => Sm.some he)
    obtain ⟨ks, q, K', K2', rfl, hq0, hqw, hqs, hqk, hqY⟩ := hr
    simp only
    rw [up_is (by omega)]
    refine Sm.some ⟨2, -1, ks, q, K', K2', rfl, hq0, hqw.node (by omega) (by omega), hqk, fun h => ?_⟩
    rw [hY (by omega), hqY]
    simp only [grB]
    rw [up_is (by omega)]
    rfl
  | false =>
    simp only [tree_parser_stmt_j6, Bool.false_eq_true, if_false] at hY ⊢
    rw [eat_is hb]
    by_cases hc : wd l p = [59]
    · rw [if_pos hc]
      obtain ⟨hlt, hwa⟩ := wd_want S.ok hc (by decide)
      simp only [Option.bind_some, Bool.not_true, Bool.false_eq_true, if_false, tree_parser_stmt_j7]
      rw [up_is (by omega)]
      refine Sm.some ⟨9, -1, [], p + 1, K, K2, rfl, by omega, WP.ret (((WP.nil hp)).of (fun i => rfl) (Nat.le_refl _)) hlt hwa, KP2.self (hk.mono (by omega)), fun h => ?_⟩
      rw [hY (by omega), S.eat _ (by omega) hp, if_pos hc]
      simp only [Option.bind_some, Bool.not_true, Bool.false_eq_true, if_false, tree_parser_stmt_j7]
      rw [up_is (by omega)]
      rfl
    · rw [if_neg hc]
      simp only [Option.bind_some, Bool.not_false, if_true]
      refine Sm.grB ((exprs_ok S (show D + 1 ≤ 30 by omega)).1 p K K2 hp) (fun r hr1 hr => ?_) (fun e he => Sm.some he)
      obtain ⟨k1, t1, ks1, q, rfl, hq0, hqw, hqY⟩ := hr
      simp only [List.length_cons, List.length_nil, Nat.zero_add, List.nil_append]
      rw [if_pos (by omega)]
      rcases must_is (l := l) (p := q) (deep := ((D + 1 : Nat) : Int)) (K := K) (s := [59]) (S.b1 hqw.le.2) with ⟨hm, he⟩ | ⟨_, e, he⟩
      rotate_left
      · rw [he]; exact Sm.some (nzI (by decide))
      obtain ⟨hlt, hwa⟩ := wd_want S.ok hm (by decide)
      rw [he]
      simp only [grB, tree_parser_stmt_j7]
      rw [up_is (by omega)]
      refine Sm.some ⟨9, -1, _, q + 1, K, K2, rfl, by omega, WP.ret hqw.one hlt hwa, KP2.self (hk.mono (by omega)), fun h => ?_⟩
      rw [hY (by omega), S.eat _ (by omega) hp, if_neg hc]
      simp only [Option.bind_some, Bool.not_false, if_true]
      rw [hqY (by omega)]
      simp only [grB, List.length_cons, List.length_nil, Nat.zero_add, List.nil_append]
      rw [if_pos (by omega), S.must _ hlt hm]
      simp only [tree_parser_stmt_j7]
      rw [up_is (by omega)]
      rfl
theorem stmt_ok (S : Sim l l2 d lim) (hD : D ≤ 30) (h1 : D < 30 → SB l l2 d lim q1 (D + 1)) (h2 : D < 30 → SS l l2 d lim q2 (D + 1)) : SS l l2 d lim (tree_parser_stmt_s q1 q2) D := by
  intro p K K2 hp hk
  have hl1 := S.l1
  have hb := S.b hp
  generalize hYd : tree_parser_stmt_s q1 q2 l2 ((p + d : Nat) : Int) (D : Int) K2 = Y
  unfold tree_parser_stmt_s
  rcases down_is (l := l) (p := p) (K := K) hD hb with ⟨_, e, he⟩ | ⟨hlt, he⟩
  · rw [he]; exact Sm.some (nzI (by decide))
  rw [he]
  simp only [grB]
  rw [peek_is]
  simp only [Option.bind_some, eqSd, decide_eq_true_eq]
  have hY : p < lim → Y = if wd l p = [123] then grB (q1 l2 ((p + d : Nat) : Int) ((D + 1 : Nat) : Int) K2) (fun r3 => (tree_parser_down_1 l2 r3.2.1 r3.2.2.1 r3.2.2.2).bind fun r4 => some (.ok (5, (-1), r3.1, r3.2.1, r4, r3.2.2.2))) (fun e2 => (tree_parser_down_1 l2 e2.2.2.2.1 e2.2.2.2.2.1 e2.2.2.2.2.2).bind fun r5 => some (.er (e2.1, e2.2.1, e2.2.2.1, e2.2.2.2.1, r5, e2.2.2.2.2.2))) else if wd l p = [105, 102] then tree_parser_stmt_j1 q2 l2 ((p + d : Nat) : Int) K2 ((D + 1 : Nat) : Int) (wd l p) true else tree_parser_stmt_j1 q2 l2 ((p + d : Nat) : Int) K2 ((D + 1 : Nat) : Int) (wd l p) (decide (wd l p = [119, 104, 105, 108, 101])) := fun h => by
    rw [← hYd]
    unfold tree_parser_stmt_s
    rw [S.down hlt]
    simp only [grB]
    rw [S.peek h]
    simp only [Option.bind_some, eqSd, decide_eq_true_eq]
  by_cases c1 : wd l p = [123]
  · rw [if_pos c1] at hY ⊢
    have hlt2 := (wd_want S.ok c1 (by decide)).1
    refine Sm.grB (h1 hlt p K K2 hp hk) (fun r hr1 hr => ?_) (fun e he => Sm.some he)
    obtain ⟨ks, q, K', K2', rfl, hq0, hqw, hqs, hqk, hqY⟩ := hr
    simp only
    rw [up_is (by omega)]
    refine Sm.some ⟨5, -1, ks, q, K', K2', rfl, hq0, hqw.node (by omega) (by omega), hqk, fun h => ?_⟩
    rw [hY (by omega), hqY]
    simp only [grB]
    rw [up_is (by omega)]
    rfl
  rw [if_neg c1] at hY ⊢
  have yes : okW (wd l p) = true → (p < lim → Y = tree_parser_stmt_j1 q2 l2 ((p + d : Nat) : Int) K2 ((D + 1 : Nat) : Int) (wd l p) true) → Sm (tree_parser_stmt_j1 q2 l (p : Int) K ((D + 1 : Nat) : Int) (wd l p) true) (okr (TRes l d lim p D K Y)) := fun hw hY => by
    obtain ⟨hlt2, hwa2⟩ := wd_want S.ok rfl hw
    simp only [tree_parser_stmt_j1, if_true] at hY ⊢
    have hY := hY (by omega)
    by_cases hwh : eqS (wd l p) [119, 104, 105, 108, 101] = true
    · rw [if_pos hwh] at hY ⊢
      exact if_ok S hlt (h2 hlt) 7 _ hlt2 hwa2 hk Y hY
    · rw [if_neg hwh] at hY ⊢
      exact if_ok S hlt (h2 hlt) 6 _ hlt2 hwa2 hk Y hY
  by_cases c2 : wd l p = [105, 102]
  · rw [if_pos c2] at hY ⊢
    exact yes (by rw [c2]; decide) hY
  rw [if_neg c2] at hY ⊢
  by_cases c3 : wd l p = [119, 104, 105, 108, 101]
  · rw [decide_eq_true c3] at hY ⊢
    exact yes (by rw [c3]; decide) hY
  rw [decide_eq_false c3] at hY ⊢
  simp only [tree_parser_stmt_j1, Bool.false_eq_true, if_false] at hY ⊢
  rw [eat_is hb]
  by_cases c4 : wd l p = [114, 101, 116, 117, 114, 110]
  · -- return
    rw [if_pos c4]
    obtain ⟨hlt2, hwa2⟩ := wd_want S.ok c4 (by decide)
    simp only [Option.bind_some, if_true]
    have hw0 := (WP.nil hp).step hlt2 hwa2
    have hY : Y = (tree_parser_eat [59] l2 ((p + 1 + d : Nat) : Int) ((D + 1 : Nat) : Int) K2).bind fun r20 => if (!r20.1) = true then grB (tree_parser_expr l2 r20.2 ((D + 1 : Nat) : Int) K2) (fun r21 => if (([] : List Node).length + [(⟨r21.1, r21.2.1, r21.2.2.1⟩ : Node)].length) * 40 ≤ 140737488355328 then grB (tree_parser_must [59] l2 r21.2.2.2.1 r21.2.2.2.2 K2) (fun r22 => tree_parser_stmt_j5 l2 K2 (r22, r21.2.2.2.2, ([] : List Node) ++ [(⟨r21.1, r21.2.1, r21.2.2.1⟩ : Node)])) (fun e9 => (tree_parser_down_1 l2 e9.2.2 r21.2.2.2.2 K2).bind fun r23 => some (.er (2, e9.1, e9.2.1, e9.2.2, r23, K2))) else none) (fun e8 => (tree_parser_down_1 l2 e8.2.2.2.1 e8.2.2.2.2 K2).bind fun r24 => some (.er (e8.1, e8.2.1, e8.2.2.1, e8.2.2.2.1, r24, K2))) else tree_parser_stmt_j5 l2 K2 (r20.2, ((D + 1 : Nat) : Int), ([] : List Node)) := by
      rw [hY (by omega), S.eat _ (by omega) hp, if_pos c4]
      rfl
    rw [eat_is (S.b (by omega))]
    by_cases hc : wd l (p + 1) = [59]
    · rw [if_pos hc]
      obtain ⟨hlt3, hwa3⟩ := wd_want S.ok hc (by decide)
      simp only [Option.bind_some, Bool.not_true, Bool.false_eq_true, if_false, tree_parser_stmt_j5]
      rw [up_is (by omega)]
      refine Sm.some ⟨8, -1, [], p + 1 + 1, K, K2, rfl, by omega, WP.ret (hw0.of (fun i => rfl) (Nat.le_refl _)) hlt3 hwa3, KP2.self (hk.mono (by omega)), fun h => ?_⟩
      rw [hY, S.eat _ (by omega) (by omega), if_pos hc]
      simp only [Option.bind_some, Bool.not_true, Bool.false_eq_true, if_false, tree_parser_stmt_j5]
      rw [up_is (by omega)]
      rfl
    · rw [if_neg hc]
      simp only [Option.bind_some, Bool.not_false, if_true]
      refine Sm.grB ((exprs_ok S (show D + 1 ≤ 30 by omega)).1 (p + 1) K K2 (by omega)) (fun r hr1 hr => ?_) (fun e he => Sm.some he)
      obtain ⟨k1, t1, ks1, q, rfl, hq0, hqw, hqY⟩ := hr
      simp only [List.length_cons, List.length_nil, Nat.zero_add, List.nil_append]
      rw [if_pos (by omega)]
      rcases must_is (l := l) (p := q) (deep := ((D + 1 : Nat) : Int)) (K := K) (s := [59]) (S.b1 hqw.le.2) with ⟨hm, he⟩ | ⟨_, e, he⟩
      rotate_left
      · rw [he]; exact Sm.some (nzI (by decide))
      obtain ⟨hlt3, hwa3⟩ := wd_want S.ok hm (by decide)
      rw [he]
      simp only [grB, tree_parser_stmt_j5]
      rw [up_is (by omega)]
      refine Sm.some ⟨8, -1, _, q + 1, K, K2, rfl, by omega, WP.ret ((hw0.app hqw).of (fun i => by simp [cnts]) (by simp [nszs])) hlt3 hwa3, KP2.self (hk.mono (by omega)), fun h => ?_⟩
      rw [hY, S.eat _ (by omega) (by omega), if_neg hc]
      simp only [Option.bind_some, Bool.not_false, if_true]
      rw [hqY (by omega)]
      simp only [grB, List.length_cons, List.length_nil, Nat.zero_add, List.nil_append]
      rw [if_pos (by omega), S.must _ hlt3 hm]
      simp only [tree_parser_stmt_j5]
      rw [up_is (by omega)]
      rfl
  · rw [if_neg c4]
    simp only [Option.bind_some, Bool.false_eq_true, if_false, eqSd, decide_eq_true_eq]
    have hY : p < lim → Y = if wd l p = [116, 121, 112, 101, 100, 101, 102] then tree_parser_stmt_j6 l2 K2 ((D + 1 : Nat) : Int) (false, ((p + d : Nat) : Int)) true else (tree_parser_isType l2 ((p + d : Nat) : Int) ((D + 1 : Nat) : Int) K2).bind fun r34 => tree_parser_stmt_j6 l2 K2 ((D + 1 : Nat) : Int) (false, ((p + d : Nat) : Int)) r34 := fun h => by
      rw [hY h, S.eat _ h hp, if_neg c4]
      simp only [Option.bind_some, Bool.false_eq_true, if_false, eqSd, decide_eq_true_eq]
    by_cases c5 : wd l p = [116, 121, 112, 101, 100, 101, 102]
    · rw [if_pos c5] at hY ⊢
      exact j6_ok S hlt hp hk true Y hY
    · rw [if_neg c5] at hY ⊢
      rw [isType_is S.ok hk.b hp]
      simp only [Option.bind_some]
      refine j6_ok S hlt hp hk _ Y (fun h => ?_)
      rw [hY h, S.isType hk h hp]
      rfl
theorem recb_ok (S : Sim l l2 d lim) : ∀ (n D : Nat), D ≤ 30 → 31 - D ≤ n → SB l l2 d lim (rec_tree_parser_block n).1 D ∧ SS l l2 d lim (rec_tree_parser_block n).2 D
  | 0, D, hD, h => by omega
  | n + 1, D, hD, h => by
    refine ⟨?_, ?_⟩
    · exact block_ok (q1 := (rec_tree_parser_block n).1) (q2 := (rec_tree_parser_block n).2) S hD (fun hlt => (recb_ok S n (D + 1) (by omega) (by omega)).2)
    · exact stmt_ok (q1 := (rec_tree_parser_block n).1) (q2 := (rec_tree_parser_block n).2) S hD (fun hlt => (recb_ok S n (D + 1) (by omega) (by omega)).1) (fun hlt => (recb_ok S n (D + 1) (by omega) (by omega)).2)
theorem blocks_ok (S : Sim l l2 d lim) (hD : D ≤ 30) : SB l l2 d lim tree_parser_block D := (recb_ok S bigF D hD (by unfold bigF; omega)).1
end
end Go.Proofs.Ytppomhjhokbacaa
