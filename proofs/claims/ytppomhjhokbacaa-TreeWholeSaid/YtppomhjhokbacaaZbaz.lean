/- The tree's parser, plain: declarations, statements, files. -/
import Derived.Test.YtppomhjhokbacaaZbay
set_option linter.unusedVariables false
set_option linter.unusedSimpArgs false
namespace Go.Proofs.Ytppomhjhokbacaa
open Go.RowKit
def noTy (l : TL) : Prop := ∀ p, wd l p ≠ [116, 121, 112, 101, 100, 101, 102]
structure KP2 (l : TL) (d : Nat) (K K' K2' : List KD) (q : Nat) : Prop where
  k : KK K' K2' q d
  len : K'.length = K.length
  af : noTy l → AF K → AF K'
abbrev DCR := Option (GR (Int × Int × Int × Int × Int) (Int × List Node × Int × Int × List KD))
abbrev RSR := Option (GR (Int × Int × Int × Int × Int × List KD) (List Node × Int × Int × List KD))
abbrev DER := Option (GR (Int × Int × Int × Int × Int × List KD) (Int × List Node × Int × Int × List KD))
abbrev STR := Option (GR (Int × Int × Int × Int × Int × List KD) (Int × Int × List Node × Int × Int × List KD))
def DRes (l : TL) (d lim p0 D : Nat) (K : List KD) (Y : DCR) (r : Int × List Node × Int × Int × List KD) : Prop :=
  ∃ (t : Nat) (ks : List Node) (q : Nat) (K' K2' : List KD), r = ((t : Int), ks, (q : Int), (D : Int), K') ∧ p0 < q ∧ WP l p0 q (fun i => cnt i ⟨4, (t : Int), ks⟩) (nsz ⟨4, (t : Int), ks⟩) ∧ KP2 l d K K' K2' q ∧
    (q < lim → Y = some (.ok (((t + d : Nat) : Int), mvs d ks, ((q + d : Nat) : Int), (D : Int), K2')))
def RRes (l : TL) (d lo p0 D : Nat) (K : List KD) (Y : RSR) (r : List Node × Int × Int × List KD) : Prop :=
  ∃ (ks : List Node) (q : Nat) (K' K2' : List KD), r = (ks, (q : Int), (D : Int), K') ∧ lo < q ∧ WP l p0 q (fun i => cnts i ks) (nszs ks) ∧ nszs ks + 1 ≤ 2 * (q - p0) ∧ KP2 l d K K' K2' q ∧ Y = some (.ok (mvs d ks, ((q + d : Nat) : Int), (D : Int), K2'))
def ERes (l : TL) (d p0 D : Nat) (K : List KD) (Y : DER) (r : Int × List Node × Int × Int × List KD) : Prop :=
  ∃ (ks : List Node) (q : Nat) (K' K2' : List KD), r = (-1, ks, (q : Int), (D : Int), K') ∧ p0 < q ∧ WP l p0 q (fun i => cnts i ks) (nszs ks) ∧ nszs ks + 1 ≤ 2 * (q - p0) ∧ KP2 l d K K' K2' q ∧ Y = some (.ok (-1, mvs d ks, ((q + d : Nat) : Int), (D : Int), K2'))
def TRes (l : TL) (d lim p0 D : Nat) (K : List KD) (Y : STR) (r : Int × Int × List Node × Int × Int × List KD) : Prop :=
  ∃ (k t : Int) (ks : List Node) (q : Nat) (K' K2' : List KD), r = (k, t, ks, (q : Int), (D : Int), K') ∧ p0 < q ∧ WP l p0 q (fun i => cnt i ⟨k, t, ks⟩) (nsz ⟨k, t, ks⟩) ∧ KP2 l d K K' K2' q ∧
    (q < lim → Y = some (.ok (k, mvt d t, mvs d ks, ((q + d : Nat) : Int), (D : Int), K2')))
section
variable {l l2 : TL} {d lim p D : Nat} {K K2 : List KD}
theorem lpO_inrO {S R : Type} (b : S → Option (S ⊕ R)) (x : Option R) : lpO b (inrO x) = x := by cases x <;> rfl
theorem make_is {s : List UInt8} (hs : s.length ≤ 9223372036854775807) (h0 : 0 < K.length) (hK : KB K p) (hp : p ≤ BL) (v : Bool) {x : TL} {y z : Int} : tree_parser_make s v x y z K = some (kPut K s v) := by
  unfold tree_parser_make
  obtain ⟨X, m, rfl⟩ := last_of h0
  have h1 := (hK.2 m (by simp)).1
  rw [kTop_app, if_pos]
  unfold BL at hp
  exact ⟨h0, hs, by omega⟩
theorem isName_txt (hl : TokOk l) (hp : p < l.length) (h : isName l p = true) : (l.getD p default).Text ≠ [] ∧ (l.getD p default).Text.length ≤ 9223372036854775807 := by
  refine ⟨fun e => ?_, hl.text p hp⟩
  simp only [isName, eqI, Bool.and_eq_true, decide_eq_true_eq] at h
  have := hl.name p hp h.1
  rw [e] at this
  cases this
theorem declarator_ok (S : Sim l l2 d lim) (hD : D ≤ 30) (ty : Bool) (hty : ty = true → ¬ noTy l) : ∀ (n p p0 : Nat) (K K2 : List KD) (Y : DCR), l.length - p = n → p0 ≤ p → p ≤ l.length → WP l p0 p (fun _ => 0) 0 → KK K K2 p d →
    (p < lim → Y = loopO (tree_parser_declarator_b1 ty l2 (D : Int) K2) ((p + d : Nat) : Int)) → Sm (loopO (tree_parser_declarator_b1 ty l (D : Int) K) (p : Int)) (okr (DRes l d lim p0 D K Y)) := by
  intro n
  induction n using Nat.strongRecOn with
  | ind n ih =>
    intro p p0 K K2 Y hn h0 hp hw hk hY
    have hl1 := S.l1
    have hb := S.b hp
    rw [lpO_eq]
    have hY : p < lim → Y = lpO (tree_parser_declarator_b1 ty l2 (D : Int) K2) (tree_parser_declarator_b1 ty l2 (D : Int) K2 ((p + d : Nat) : Int)) := fun h => by rw [hY h, lpO_eq]
    refine Sm.lp ?_
    simp only [tree_parser_declarator_b1] at hY ⊢
    rw [eat_is hb]
    by_cases hc : wd l p = [42]
    · rw [if_pos hc]
      obtain ⟨hlt, hwa⟩ := wd_want S.ok hc (by decide)
      refine Sm.some (ih (l.length - (p + 1)) (by omega) (p + 1) p0 K K2 Y rfl (by omega) (by omega) (hw.step hlt hwa) (hk.mono (by omega)) (fun h => ?_))
      rw [hY (by omega), S.eat _ (by omega) hp, if_pos hc]
      rfl
    · rw [if_neg hc]
      simp only [Option.bind_some, Bool.false_eq_true, if_false]
      refine Sm.inrO ?_
      rcases name_is (deep := (D : Int)) (K := K) hp (Nat.le_of_lt S.ok.len) with ⟨hlt, hn, he⟩ | ⟨e, he⟩
      rotate_left
      · rw [he]; exact Sm.some (Sm.some (nzI (by decide)))
      rw [he]
      simp only [grB]
      obtain ⟨t1, t2⟩ := isName_txt S.ok hlt hn
      have hsl := S.lt p hlt
      rw [eat_is (S.b1 hp)]
      have hw1 : WP l p0 (p + 1) (fun i => cnt i ⟨4, (p : Int), []⟩) (nsz ⟨4, (p : Int), []⟩) := (hw.app (WP.tok hlt (s := 1) (by omega))).of (fun i => by simp [cnt, cnts]) (by simp [nsz, nszs])
      -- the name is known
      have fin : ∀ (q : Nat) (ks : List Node), p + 1 ≤ q → q ≤ l.length → WP l p0 q (fun i => cnt i ⟨4, (p : Int), ks⟩) (nsz ⟨4, (p : Int), ks⟩) → (q < lim → Y = tree_parser_declarator_j2 ty l2 K2 (((p + d : Nat) : Int), ((p + 1 + d : Nat) : Int)) (((q + d : Nat) : Int), (D : Int), mvs d ks)) →
          Sm (tree_parser_declarator_j2 ty l K ((p : Int), ((p + 1 : Nat) : Int)) ((q : Int), (D : Int), ks)) (okr (DRes l d lim p0 D K Y)) := fun q ks hq1 hq2 hwq hYq => by
        simp only [tree_parser_declarator_j2, Int.toNat_natCast] at hYq ⊢
        have hkq := hk.mono (show p ≤ q - 1 by omega)
        obtain ⟨e1, e2⟩ := hk.e.len
        rw [if_pos (by omega), make_is t2 e2 hkq.b (S.b (by omega)) ty]
        have hput := hkq.put t1 ty
        rw [show q - 1 + 1 = q by omega] at hput
        refine Sm.some ⟨p, ks, q, _, _, rfl, by omega, hwq, ⟨hput, kPut_len _ _ _, fun hno haf => ?_⟩, fun hq => ?_⟩
        · cases ty with
          | true => exact absurd hno (hty rfl)
          | false => exact haf.put e2 _
        · have hl2 := S.le2 hq hq2
          have hl3 := S.len2
          rw [hYq hq, if_pos (by omega), hsl.2, make_is t2 (by omega) hkq.b2 (by omega) ty]
          rfl
      by_cases hc2 : wd l (p + 1) = [91]
      · rw [if_pos hc2]
        simp only [Option.bind_some, if_true]
        obtain ⟨hlt2, hwa2⟩ := wd_want S.ok hc2 (by decide)
        refine Sm.mono (Sm.grB ((exprs_ok S hD).1 (p + 2) K K2 (by omega)) (fun r hr1 hr => ?_) (fun e he => Sm.some (Q := okr (DRes l d lim p0 D K Y)) he)) (fun o ho => Sm.some ho)
        obtain ⟨k1, t1', ks1, q, rfl, hq0, hqw, hqY⟩ := hr
        have hle := hqw.le
        simp only [List.length_nil, List.length_cons, Nat.zero_add]
        rw [if_pos (by omega)]
        rcases must_is (l := l) (p := q) (deep := (D : Int)) (K := K) (s := [93]) (S.b1 hle.2) with ⟨hm, he2⟩ | ⟨_, e, he2⟩
        · obtain ⟨hlt3, hwa3⟩ := wd_want S.ok hm (by decide)
          rw [he2]
          simp only [grB]
          refine fin (q + 1) _ (by omega) (by omega) ((((hw1.step hlt2 hwa2).app hqw).step hlt3 hwa3).of (fun i => by simp only [cnt, cnts, List.nil_append]; omega) (by simp only [nsz, nszs, List.nil_append]; omega)) (fun hq => ?_)
          rw [hY (by omega), S.eat _ (by omega) hp, if_neg hc]
          simp only [Option.bind_some, Bool.false_eq_true, if_false]
          rw [S.name hlt hn]
          simp only [grB]
          rw [S.eat _ (by omega) (by omega), if_pos hc2]
          simp only [Option.bind_some, if_true]
          rw [hqY (by omega)]
          simp only [grB, List.length_nil, List.length_cons, Nat.zero_add]
          rw [if_pos (by omega), S.must _ hlt3 hm]
          simp only [grB, lpO_inrO]
          rfl
        · rw [he2]
          exact Sm.some (nzI (by decide))
      · rw [if_neg hc2]
        simp only [Option.bind_some, Bool.false_eq_true, if_false]
        refine (fin (p + 1) [] (by omega) (by omega) hw1 (fun hq => ?_)).mono (fun o ho => Sm.some ho)
        rw [hY (by omega), S.eat _ (by omega) hp, if_neg hc]
        simp only [Option.bind_some, Bool.false_eq_true, if_false]
        rw [S.name hlt hn]
        simp only [grB]
        rw [S.eat _ hq (by omega), if_neg hc2]
        simp only [Option.bind_some, Bool.false_eq_true, if_false]
        rw [lpO_inrO]
        rfl
theorem declr (S : Sim l l2 d lim) (hD : D ≤ 30) (ty : Bool) (hty : ty = true → ¬ noTy l) (hp : p ≤ l.length) (hk : KK K K2 p d) : Sm (tree_parser_declarator ty l (p : Int) (D : Int) K) (okr (DRes l d lim p D K (tree_parser_declarator ty l2 ((p + d : Nat) : Int) (D : Int) K2))) :=
  declarator_ok S hD ty hty _ p p K K2 _ rfl (Nat.le_refl _) hp (WP.nil hp) hk (fun _ => rfl)
theorem rest_ok (S : Sim l l2 d lim) (hD : D ≤ 30) (ty : Bool) (hty : ty = true → ¬ noTy l) : ∀ (n p lo p0 t : Nat) (kd ks : List Node) (K0 K K2 : List KD) (Y : RSR), l.length - p = n → p0 < p → lo ≤ p → p ≤ l.length →
    WP l p0 p (fun i => cnts i kd + cnt i ⟨4, (t : Int), ks⟩) (nszs kd + nsz ⟨4, (t : Int), ks⟩) → KP2 l d K0 K K2 p →
    (p < lim → Y = loopO (tree_parser_rest_b1 ty l2) (((p + d : Nat) : Int), (D : Int), K2, mvs d kd, 4, ((t + d : Nat) : Int), mvs d ks)) →
    Sm (loopO (tree_parser_rest_b1 ty l) ((p : Int), (D : Int), K, kd, 4, (t : Int), ks)) (okr (RRes l d lo p0 D K0 Y)) := by
  intro n
  induction n using Nat.strongRecOn with
  | ind n ih =>
    intro p lo p0 t kd ks K0 K K2 Y hn h0 hlo hp hw hk hY
    have hl1 := S.l1
    have hb := S.b hp
    rw [lpO_eq]
    have hY : p < lim → Y = lpO (tree_parser_rest_b1 ty l2) (tree_parser_rest_b1 ty l2 (((p + d : Nat) : Int), (D : Int), K2, mvs d kd, 4, ((t + d : Nat) : Int), mvs d ks)) := fun h => by rw [hY h, lpO_eq]
    refine Sm.lp ?_
    -- behind what it is at first
    have tail : ∀ (q : Nat) (ks' : List Node), p ≤ q → q ≤ l.length → WP l p0 q (fun i => cnts i kd + cnt i ⟨4, (t : Int), ks'⟩) (nszs kd + nsz ⟨4, (t : Int), ks'⟩) → (q < lim → Y = lpO (tree_parser_rest_b1 ty l2) (tree_parser_rest_j2 ty l2 K2 (mvs d kd) 4 ((t + d : Nat) : Int) (((q + d : Nat) : Int), (D : Int), mvs d ks'))) →
        Sm (tree_parser_rest_j2 ty l K kd 4 (t : Int) ((q : Int), (D : Int), ks')) fun o => Sm (lpO (tree_parser_rest_b1 ty l) (some o)) (okr (RRes l d lo p0 D K0 Y)) := fun q ks' hpq hq hwq hYq => by
      simp only [tree_parser_rest_j2, List.length_cons, List.length_nil, Nat.zero_add] at hYq ⊢
      have hlen := len_nszs kd
      have rm := room (ks := kd) hwq (by omega) S.ok.len
      rw [if_pos rm, eat_is (S.b hq)]
      have hkid : WP l p0 q (fun i => cnts i (kd ++ [⟨4, (t : Int), ks'⟩])) (nszs (kd ++ [⟨4, (t : Int), ks'⟩])) := hwq.of (fun i => by rw [cnts_app]; simp [cnts]) (by rw [nszs_app]; simp [nszs])
      have hYq : q < lim → Y = lpO (tree_parser_rest_b1 ty l2) ((tree_parser_eat [44] l2 ((q + d : Nat) : Int) (D : Int) K2).bind fun r1 => if (!r1.1) = true then inrO (grB (tree_parser_must [59] l2 r1.2 (D : Int) K2) (fun r2 => some (.ok (mvs d (kd ++ [⟨4, (t : Int), ks'⟩]), r2, (D : Int), K2))) (fun e1 => some (.er (2, e1.1, e1.2.1, e1.2.2, (D : Int), K2)))) else grB (tree_parser_declarator ty l2 r1.2 (D : Int) K2) (fun r3 => some (.inl (r3.2.2.1, r3.2.2.2.1, r3.2.2.2.2, mvs d (kd ++ [⟨4, (t : Int), ks'⟩]), 4, r3.1, r3.2.1))) (fun e2 => inrO (some (.er (e2.1, e2.2.1, e2.2.2.1, e2.2.2.2.1, e2.2.2.2.2, K2))))) := fun h => by
        rw [hYq h, if_pos (by rw [mvs_len]; exact rm), mvs_app, mvs1, mvN, mvt_nat]
      by_cases hc : wd l q = [44]
      · rw [if_pos hc]
        obtain ⟨hlt, hwa⟩ := wd_want S.ok hc (by decide)
        simp only [Option.bind_some, Bool.not_true, Bool.false_eq_true, if_false]
        refine Sm.grB (declr S hD ty hty (show q + 1 ≤ l.length by omega) (hk.k.mono (by omega))) (fun r hr1 hr => ?_) (fun e he => Sm.inrO (Sm.some (Sm.some he)))
        obtain ⟨t1, ks1, q1, K', K2', rfl, hq0, hqw, hqk, hqY⟩ := hr
        refine Sm.some (ih (l.length - q1) (by have := hqw.le; omega) q1 lo p0 t1 _ ks1 K0 K' K2' Y rfl (by omega) (by omega) hqw.le.2 (((hkid.step hlt hwa).app hqw).of (fun i => rfl) (Nat.le_refl _)) ⟨hqk.k, hqk.len.trans hk.len, fun h1 h2 => hqk.af h1 (hk.af h1 h2)⟩ (fun h => ?_))
        rw [hYq (by omega), S.eat _ (by omega) hq, if_pos hc]
        simp only [Option.bind_some, Bool.not_true, Bool.false_eq_true, if_false]
        rw [hqY h]
        rfl
      · rw [if_neg hc]
        simp only [Option.bind_some, Bool.not_false, if_true]
        rcases must_is (l := l) (p := q) (deep := (D : Int)) (K := K) (s := [59]) (S.b1 hq) with ⟨hm, he2⟩ | ⟨_, e, he2⟩
        · obtain ⟨hlt3, hwa3⟩ := wd_want S.ok hm (by decide)
          rw [he2]
          simp only [grB]
          refine Sm.inrO (Sm.some (Sm.some ⟨_, q + 1, K, K2, rfl, by omega, hkid.step hlt3 hwa3, by have := hkid.sz; have := hkid.le; omega, ⟨hk.k.mono (by omega), hk.len, hk.af⟩, ?_⟩))
          rw [hYq (by omega), S.eat _ (by omega) hq, if_neg hc]
          simp only [Option.bind_some, Bool.not_false, if_true]
          rw [S.must _ hlt3 hm]
          rfl
        · rw [he2]
          exact Sm.inrO (Sm.some (Sm.some (nzI (by decide))))
    simp only [tree_parser_rest_b1] at hY ⊢
    by_cases hty2 : (!ty) = true
    · rw [if_pos hty2] at hY ⊢
      rw [eat_is hb]
      by_cases hc : wd l p = [61]
      · rw [if_pos hc]
        obtain ⟨hlt, hwa⟩ := wd_want S.ok hc (by decide)
        simp only [Option.bind_some, tree_parser_rest_j3, if_true]
        refine Sm.grB ((exprs_ok S hD).2 (p + 1) K K2 (by omega)) (fun r hr1 hr => ?_) (fun e he => Sm.inrO (Sm.some (Sm.some he)))
        obtain ⟨k1, t1', ks1, q, rfl, hq0, hqw, hqY⟩ := hr
        have hle := hqw.le
        have hlen := len_nszs ks
        have hn4 : nsz ⟨4, (t : Int), ks⟩ = 1 + nszs ks := by rw [nsz]
        have rm := room (ks := ks) hw (by omega) S.ok.len
        simp only [List.length_cons, List.length_nil, Nat.zero_add]
        rw [if_pos rm]
        refine tail q _ (by omega) hle.2 (((hw.step hlt hwa).app hqw).of (fun i => by simp only [cnt, cnts, cnts_app]; omega) (by simp only [nsz, nszs, nszs_app]; omega)) (fun h => ?_)
        rw [hY (by omega), S.eat _ (by omega) hp, if_pos hc]
        simp only [Option.bind_some, tree_parser_rest_j3, if_true]
        rw [hqY h]
        simp only [grB, List.length_cons, List.length_nil, Nat.zero_add]
        rw [if_pos (by rw [mvs_len]; exact rm), mvs_app, mvs1, mvN]
      · rw [if_neg hc]
        simp only [Option.bind_some, tree_parser_rest_j3, Bool.false_eq_true, if_false]
        refine tail p ks (Nat.le_refl _) hp hw (fun h => ?_)
        rw [hY h, S.eat _ h hp, if_neg hc]
        simp only [Option.bind_some, tree_parser_rest_j3, Bool.false_eq_true, if_false]
    · rw [if_neg hty2] at hY ⊢
      simp only [tree_parser_rest_j3, Bool.false_eq_true, if_false] at hY ⊢
      exact tail p ks (Nat.le_refl _) hp hw hY
theorem decl_ok (S : Sim l l2 d lim) (hD : D ≤ 30) (hp : p ≤ l.length) (hk : KK K K2 p d) : Sm (tree_parser_decl l (p : Int) (D : Int) K) (okr (ERes l d p D K (tree_parser_decl l2 ((p + d : Nat) : Int) (D : Int) K2))) := by
  have hl1 := S.l1
  have hb := S.b hp
  generalize hYd : tree_parser_decl l2 ((p + d : Nat) : Int) (D : Int) K2 = Y
  unfold tree_parser_decl
  rw [eat_is hb]
  -- with the word, or without it
  have go : ∀ (ty : Bool) (m : Nat), (ty = true → ¬ noTy l) → p ≤ m → m ≤ l.length → WP l p m (fun _ => 0) 0 →
      (m < l.length → Y = grB (tree_parser_typ l2 ((m + d : Nat) : Int) (D : Int) K2) (fun r2 => grB (tree_parser_declarator ty l2 r2.2 (D : Int) K2) (fun r3 => grB (tree_parser_rest 2 (-1) [(⟨16, r2.1, ([] : List Node)⟩ : Node)] 4 r3.1 r3.2.1 ty l2 r3.2.2.1 r3.2.2.2.1 r3.2.2.2.2) (fun r4 => some (.ok ((-1), r4.1, r4.2.1, r4.2.2.1, r4.2.2.2))) (fun e3 => some (.er (e3.1, e3.2.1, e3.2.2.1, e3.2.2.2.1, e3.2.2.2.2.1, e3.2.2.2.2.2)))) (fun e2 => some (.er (e2.1, e2.2.1, e2.2.2.1, e2.2.2.2.1, e2.2.2.2.2, K2)))) (fun e1 => some (.er (2, e1.1, e1.2, ((m + d : Nat) : Int), (D : Int), K2)))) →
      Sm (grB (tree_parser_typ l (m : Int) (D : Int) K) (fun r2 => grB (tree_parser_declarator ty l r2.2 (D : Int) K) (fun r3 => grB (tree_parser_rest 2 (-1) [(⟨16, r2.1, ([] : List Node)⟩ : Node)] 4 r3.1 r3.2.1 ty l r3.2.2.1 r3.2.2.2.1 r3.2.2.2.2) (fun r4 => some (.ok ((-1), r4.1, r4.2.1, r4.2.2.1, r4.2.2.2))) (fun e3 => some (.er (e3.1, e3.2.1, e3.2.2.1, e3.2.2.2.1, e3.2.2.2.2.1, e3.2.2.2.2.2)))) (fun e2 => some (.er (e2.1, e2.2.1, e2.2.2.1, e2.2.2.2.1, e2.2.2.2.2, K)))) (fun e1 => some (.er (2, e1.1, e1.2, (m : Int), (D : Int), K)))) (okr (ERes l d p D K Y)) := fun ty m hty hpm hm hwm hYm => by
    rcases typ_is (D := D) S.ok (hk.b.mono hpm) hm with ⟨hlt, ht, he⟩ | ⟨e, he⟩
    rotate_left
    · rw [he]; exact Sm.some (nzI (by decide))
    rw [he]
    simp only [grB]
    refine Sm.grB (declr S hD ty hty (show m + 1 ≤ l.length by omega) (hk.mono (by omega))) (fun r hr1 hr => ?_) (fun e he => Sm.some he)
    obtain ⟨t1, ks1, q1, K', K2', rfl, hq0, hqw, hqk, hqY⟩ := hr
    simp only [tree_parser_rest]
    have hw1 : WP l p q1 (fun i => cnts i [(⟨16, (m : Int), []⟩ : Node)] + cnt i ⟨4, (t1 : Int), ks1⟩) (nszs [(⟨16, (m : Int), []⟩ : Node)] + nsz ⟨4, (t1 : Int), ks1⟩) := ((hwm.app (WP.tok hlt (s := 1) (by omega))).app hqw).of (fun i => by simp [cnt, cnts]) (by simp [nsz, nszs])
    refine Sm.grB (rest_ok S hD ty hty _ q1 q1 p t1 _ ks1 K K' K2' (loopO (tree_parser_rest_b1 ty l2) (((q1 + d : Nat) : Int), (D : Int), K2', mvs d [(⟨16, (m : Int), []⟩ : Node)], 4, ((t1 + d : Nat) : Int), mvs d ks1)) rfl (by omega) (Nat.le_refl _) hqw.le.2 hw1 hqk (fun _ => rfl)) (fun r hr1 hr => ?_) (fun e he => Sm.some he)
    obtain ⟨ks2, q2, K3, K4, rfl, hq20, hq2w, hq2s, hq2k, hq2Y⟩ := hr
    refine Sm.some ⟨ks2, q2, K3, K4, rfl, by omega, hq2w, hq2s, hq2k, ?_⟩
    have hr3 : q1 < lim := by have := hq2w.le; omega
    rw [hYm hlt, S.typ (hk.mono hpm) hlt ht]
    simp only [grB]
    rw [hqY hr3]
    simp only [tree_parser_rest]
    rw [show ([(⟨16, ((m + d : Nat) : Int), []⟩ : Node)] : List Node) = mvs d [(⟨16, (m : Int), []⟩ : Node)] by rw [mvs1, mvN, mvt_nat]; rfl, hq2Y]
  by_cases hc : wd l p = [116, 121, 112, 101, 100, 101, 102]
  · rw [if_pos hc]
    obtain ⟨hlt, hwa⟩ := wd_want S.ok hc (by decide)
    simp only [Option.bind_some]
    refine go true (p + 1) (fun _ h => h p hc) (by omega) (by omega) ((WP.nil hp).step hlt hwa) (fun _ => ?_)
    rw [← hYd]
    unfold tree_parser_decl
    rw [S.eat _ (by omega) hp, if_pos hc]
    rfl
  · rw [if_neg hc]
    simp only [Option.bind_some]
    refine go false p (fun h => by cases h) (Nat.le_refl _) hp (WP.nil hp) (fun h => ?_)
    rw [← hYd]
    unfold tree_parser_decl
    rw [S.eat _ (by omega) hp, if_neg hc]
    rfl
end
end Go.Proofs.Ytppomhjhokbacaa
