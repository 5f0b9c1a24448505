/- The tree's parser, plain: what its parts read. -/
import Derived.Test.YtppomhjhokbacaaZbaq
import Derived.IntWalk
set_option linter.unusedVariables false
set_option linter.unusedSimpArgs false
namespace Go.Proofs.Ytppomhjhokbacaa
open Go.RowKit
theorem wrI (x : Int) (h : -9223372036854775808 ≤ x ∧ x ≤ 9223372036854775807) : IntKind.i64.wrap x = x := IntWalk.i64_in _ h
def Sm {α : Type} (x : Option α) (Q : α → Prop) : Prop := ∃ r, x = some r ∧ Q r
def okr {E R : Type} (Q : R → Prop) : GR (Int × E) R → Prop
  | .ok r => Q r
  | .er e => e.1 ≠ 0
theorem nzI {E R : Type} {Q : R → Prop} {c : Int} {x : E} (h : c ≠ 0) : okr Q (GR.er (c, x)) := h
theorem Sm.mono {α : Type} {x : Option α} {P Q : α → Prop} (h : Sm x P) (k : ∀ r, P r → Q r) : Sm x Q := let ⟨r, h1, h2⟩ := h; ⟨r, h1, k r h2⟩
theorem Sm.bind {α β : Type} {x : Option α} {f : α → Option β} {P : α → Prop} {Q : β → Prop} (h : Sm x P) (k : ∀ r, P r → Sm (f r) Q) : Sm (x.bind f) Q := by
  obtain ⟨r, rfl, h2⟩ := h
  exact k r h2
theorem Sm.some {α : Type} {x : α} {Q : α → Prop} (h : Q x) : Sm (some x) Q := ⟨x, rfl, h⟩
theorem Sm.grB {E R β : Type} {x : Option (GR (Int × E) R)} {f : R → Option β} {g : Int × E → Option β} {P : R → Prop} {Q : β → Prop} (h : Sm x (okr P)) (k : ∀ r, x = Option.some (.ok r) → P r → Sm (f r) Q) (k2 : ∀ e, e.1 ≠ 0 → Sm (g e) Q) : Sm (Go.Proofs.Ytppomhjhokbacaa.grB x f g) Q := by
  obtain ⟨r, rfl, h2⟩ := h
  cases r with
  | ok r => exact k r rfl h2
  | er e => exact k2 e h2
theorem Sm.inrO {S R : Type} {x : Option R} {Q : S ⊕ R → Prop} (h : Sm x fun r => Q (.inr r)) : Sm (Go.Proofs.Ytppomhjhokbacaa.inrO x : Option (S ⊕ R)) Q := by
  obtain ⟨r, rfl, h2⟩ := h
  exact ⟨_, rfl, h2⟩
theorem Sm.loop {S R : Type} {b : S → Option (S ⊕ R)} (I : S → Prop) (μ : S → Nat) {Q : R → Prop} (h : ∀ s, I s → Sm (b s) fun o => match o with | .inl s' => I s' ∧ μ s' < μ s | .inr r => Q r) {s : S} (hs : I s) : Sm (loopO b s) Q :=
  loopO_rule I μ Q h s hs
mutual
def cnt (i : Int) : Node → Nat
  | ⟨_, t, ks⟩ => (if t = i then 1 else 0) + cnts i ks
def cnts (i : Int) : List Node → Nat
  | [] => 0
  | x :: r => cnt i x + cnts i r
end
mutual
def nsz : Node → Nat
  | ⟨_, _, ks⟩ => 1 + nszs ks
def nszs : List Node → Nat
  | [] => 0
  | x :: r => nsz x + nszs r
end
def mvt (d : Nat) (t : Int) : Int := if 0 ≤ t then t + d else t
mutual
def mv (d : Nat) : Node → Node
  | ⟨k, t, ks⟩ => ⟨k, mvt d t, mvs d ks⟩
def mvs (d : Nat) : List Node → List Node
  | [] => []
  | x :: r => mv d x :: mvs d r
end
theorem cnts_app (i : Int) : ∀ l m, cnts i (l ++ m) = cnts i l + cnts i m
  | [], m => by simp [cnts]
  | x :: l, m => by simp [cnts, cnts_app i l m, Nat.add_assoc]
theorem nszs_app : ∀ l m, nszs (l ++ m) = nszs l + nszs m
  | [], m => by simp [nszs]
  | x :: l, m => by simp [nszs, nszs_app l m, Nat.add_assoc]
theorem mvs_app (d : Nat) : ∀ l m, mvs d (l ++ m) = mvs d l ++ mvs d m
  | [], m => rfl
  | x :: l, m => by simp [mvs, mvs_app d l m]
theorem mvs_len (d : Nat) : ∀ l, (mvs d l).length = l.length
  | [] => rfl
  | x :: l => by simp [mvs, mvs_len d l]
theorem nsz_pos : ∀ x, 0 < nsz x
  | ⟨_, _, ks⟩ => by rw [nsz]; omega
theorem len_nszs : ∀ l, l.length ≤ nszs l
  | [] => Nat.le_refl _
  | x :: l => by have := nsz_pos x; have := len_nszs l; simp [nszs]; omega
abbrev TL := List Token
def wd (l : TL) (p : Nat) : List UInt8 := if p < l.length ∧ ((l.getD p default).Kind = 5 ∨ (l.getD p default).Kind = 1) then (l.getD p default).Text else []
def keyB (s : List UInt8) : Bool := eqS s [105, 110, 116] || eqS s [99, 104, 97, 114] || eqS s [108, 111, 110, 103] || eqS s [118, 111, 105, 100] || eqS s [116, 121, 112, 101, 100, 101, 102] || eqS s [105, 102] || eqS s [101, 108, 115, 101] || eqS s [119, 104, 105, 108, 101] || eqS s [114, 101, 116, 117, 114, 110]
def letB (c : UInt8) : Bool := (97 ≤ c && c ≤ 122) || (65 ≤ c && c ≤ 90) || c == 95
def nameB (s : List UInt8) : Bool := match s with
  | c :: _ => letB c
  | [] => false
def isName (l : TL) (p : Nat) : Bool := eqI (l.getD p default).Kind 1 && !keyB (l.getD p default).Text
def want (l : TL) (p : Nat) : Bool := eqI (l.getD p default).Kind 2 || eqI (l.getD p default).Kind 3 || eqI (l.getD p default).Kind 4 || isName l p
def BL : Nat := 1000000000000
structure TokOk (l : TL) : Prop where
  len : l.length < BL
  name : ∀ p, p < l.length → (l.getD p default).Kind = 1 → nameB (l.getD p default).Text = true
  text : ∀ p, p < l.length → (l.getD p default).Text.length ≤ 9223372036854775807
section
variable {l : TL} {p : Nat} {deep : Int} {K : List KD}
theorem key_is (s : List UInt8) : tree_Key s = some (keyB s) := by
  unfold tree_Key keyB
  simp only [tree_Key_j1]
  cases eqS s [105, 110, 116] <;> cases eqS s [99, 104, 97, 114] <;> cases eqS s [108, 111, 110, 103] <;> cases eqS s [118, 111, 105, 100] <;> cases eqS s [116, 121, 112, 101, 100, 101, 102] <;> cases eqS s [105, 102] <;> cases eqS s [101, 108, 115, 101] <;> cases eqS s [119, 104, 105, 108, 101] <;> cases eqS s [114, 101, 116, 117, 114, 110] <;> rfl
theorem wP (h : p ≤ BL) : IntKind.i64.wrap ((p : Int) + 1) = ((p + 1 : Nat) : Int) := by
  unfold BL at h
  rw [wrI _ (by omega)]
  rfl
theorem peek_is : tree_parser_peek l (p : Int) deep K = some (wd l p) := by
  unfold tree_parser_peek wd
  simp only [tree_parser_peek_j1, ltI, eqI, decide_eq_true_eq, Int.toNat_natCast]
  generalize l.getD p default = t
  by_cases h : p < l.length
  · have h1 : (p : Int) < (l.length : Int) := by omega
    have h2 : (0 : Int) ≤ (p : Int) ∧ p < l.length := by omega
    by_cases h5 : t.Kind = 5
    · simp only [h1, h2, h, h5, if_true, true_or, and_true]
    · by_cases h6 : t.Kind = 1
      · simp only [h1, h2, h, h6, if_true, or_true, and_true]
        rfl
      · simp only [h1, h2, h, h5, h6, if_true, if_false, or_self, and_false, and_self]
  · have h1 : ¬ (p : Int) < (l.length : Int) := by omega
    simp only [h1, h, if_false, false_and]
    rfl
theorem eat_is {s : List UInt8} (h : p ≤ BL) : tree_parser_eat s l (p : Int) deep K = if wd l p = s then some (true, ((p + 1 : Nat) : Int)) else some (false, (p : Int)) := by
  unfold tree_parser_eat
  rw [peek_is, Option.bind_some, wP h]
  by_cases e : wd l p = s <;> simp [eqS, e]
theorem fail_is {n : Int} (hp : p ≤ BL) : ∃ e, tree_parser_fail n l (p : Int) deep K = some e := by
  unfold tree_parser_fail
  simp only [tree_parser_fail_j1, ltI, decide_eq_true_eq, Int.toNat_natCast]
  by_cases h : p < l.length
  · rw [if_pos (show (p : Int) < (l.length : Int) by omega), if_pos (by omega), if_pos (by omega)]
    exact ⟨_, rfl⟩
  · rw [if_neg (by omega)]
    by_cases h0 : (0 : Int) < (l.length : Int)
    · unfold BL at hp
      rw [if_pos h0, wrI _ (by omega)]
      rw [if_pos (by omega), if_pos (by omega)]
      exact ⟨_, rfl⟩
    · rw [if_neg h0]
      exact ⟨_, rfl⟩
theorem must_is {s : List UInt8} (hp : p + 1 ≤ BL) : (wd l p = s ∧ tree_parser_must s l (p : Int) deep K = some (.ok ((p + 1 : Nat) : Int))) ∨ (wd l p ≠ s ∧ ∃ e, tree_parser_must s l (p : Int) deep K = some (.er e)) := by
  have h : p ≤ BL := by omega
  unfold tree_parser_must
  rw [eat_is h]
  by_cases e : wd l p = s
  · rw [if_pos e]; exact .inl ⟨e, rfl⟩
  · rw [if_neg e]
    obtain ⟨f, hf⟩ := fail_is (l := l) (p := p) (deep := deep) (K := K) (n := 2) h
    refine .inr ⟨e, (f.1, f.2, (p : Int)), ?_⟩
    simp only [Option.bind_some]
    rw [if_pos (show (!false) = true from rfl), hf]
    rfl
theorem name_is (hp : p ≤ l.length) (hB : l.length ≤ BL) : (p < l.length ∧ isName l p = true ∧ tree_parser_name l (p : Int) deep K = some (.ok ((p : Int), ((p + 1 : Nat) : Int)))) ∨ ∃ e, tree_parser_name l (p : Int) deep K = some (.er e) := by
  have hb : p ≤ BL := by omega
  obtain ⟨f, hf⟩ := fail_is (l := l) (p := p) (deep := deep) (K := K) (n := 2) hb
  have er : ∃ e, tree_parser_name_j1 l (p : Int) deep K true = some (.er e) := ⟨(f.1, f.2), by simp only [tree_parser_name_j1, if_true, hf, Option.bind_some]⟩
  unfold tree_parser_name
  simp only [eqI, decide_eq_true_eq, Int.toNat_natCast, Bool.not_eq_true', decide_eq_false_iff_not, key_is, Option.bind_some]
  by_cases he : p = l.length
  · rw [if_pos (by omega)]; exact .inr er
  · have hlt : p < l.length := by omega
    rw [if_neg (by omega), if_pos (by omega)]
    by_cases h1 : (l.getD p default).Kind = 1
    · rw [if_neg (by simpa using h1), if_pos (by omega)]
      cases hk : keyB (l.getD p default).Text with
      | true => exact .inr er
      | false =>
        refine .inl ⟨hlt, by simp only [isName, eqI, h1, hk]; rfl, ?_⟩
        simp only [tree_parser_name_j1, Bool.false_eq_true, if_false, wP hb]
        unfold BL at hb
        rw [wrI _ (by omega)]
        simp
    · rw [if_pos (by simpa using h1)]; exact .inr er
theorem down_is {D : Nat} (hD : D ≤ 30) (hp : p ≤ BL) : (D = 30 ∧ ∃ e, tree_parser_down l (p : Int) (D : Int) K = some (.er e)) ∨ (D < 30 ∧ tree_parser_down l (p : Int) (D : Int) K = some (.ok ((D + 1 : Nat) : Int))) := by
  unfold tree_parser_down
  simp only [eqI, decide_eq_true_eq]
  by_cases h : D = 30
  · rw [if_pos (by omega)]
    obtain ⟨f, hf⟩ := fail_is (l := l) (p := p) (deep := (D : Int)) (K := K) (n := 10) hp
    exact .inl ⟨h, _, by rw [hf]; rfl⟩
  · rw [if_neg (by omega), wrI _ (by omega)]
    exact .inr ⟨by omega, rfl⟩
theorem up_is {D : Nat} (hD : D ≤ 30) {x : Int} : tree_parser_down_1 l x ((D + 1 : Nat) : Int) K = some (D : Int) := by
  unfold tree_parser_down_1
  rw [wrI _ (by omega)]
  congr 1
  omega
theorem wd_lt {s : List UInt8} (h : wd l p = s) (hs : s ≠ []) : p < l.length := by
  unfold wd at h
  split at h
  · rename_i h1; exact h1.1
  · exact absurd h.symm hs
def okW (s : List UInt8) : Bool := s != [] && (keyB s || !nameB s)
theorem wd_want (hl : TokOk l) {s : List UInt8} (h : wd l p = s) (hs : okW s = true) : p < l.length ∧ want l p = false := by
  simp only [okW, Bool.and_eq_true, bne_iff_ne, ne_eq, Bool.or_eq_true, Bool.not_eq_true'] at hs
  have hlt := wd_lt h hs.1
  refine ⟨hlt, ?_⟩
  unfold wd at h
  split at h
  · rename_i h1
    obtain ⟨_, hk⟩ := h1
    unfold want isName
    rcases hk with hk | hk
    · simp only [hk, eqI]
      rfl
    · have hn := hl.name p hlt hk
      rw [h] at hn
      simp only [hk, eqI, h]
      rcases hs.2 with h2 | h2
      · rw [h2]; rfl
      · rw [hn] at h2; cases h2
  · exact absurd h.symm hs.1
def WP (l : TL) (p q : Nat) (c : Int → Nat) (s : Nat) : Prop := p ≤ q ∧ q ≤ l.length ∧ s ≤ 2 * (q - p) ∧ ∀ i : Nat, c (i : Int) ≤ 1 ∧ (c (i : Int) ≠ 0 → p ≤ i ∧ i < q) ∧ (p ≤ i → i < q → want l i = true → c (i : Int) = 1)
theorem WP.nil (h : p ≤ l.length) : WP l p p (fun _ => 0) 0 := ⟨Nat.le_refl _, h, by omega, fun i => ⟨by show 0 ≤ 1; omega, fun h => absurd rfl h, fun h1 h2 => by omega⟩⟩
theorem WP.app {q r : Nat} {c c' : Int → Nat} {s s' : Nat} (h : WP l p q c s) (k : WP l q r c' s') : WP l p r (fun i => c i + c' i) (s + s') := by
  obtain ⟨h1, h2, h3, h4⟩ := h
  obtain ⟨k1, k2, k3, k4⟩ := k
  refine ⟨by omega, k2, by omega, fun i => ?_⟩
  show c (i : Int) + c' (i : Int) ≤ 1 ∧ (c (i : Int) + c' (i : Int) ≠ 0 → p ≤ i ∧ i < r) ∧ (p ≤ i → i < r → want l i = true → c (i : Int) + c' (i : Int) = 1)
  obtain ⟨a1, a2, a3⟩ := h4 i
  obtain ⟨b1, b2, b3⟩ := k4 i
  by_cases ha : c (i : Int) = 0
  · by_cases hb : c' (i : Int) = 0
    · refine ⟨by omega, fun h => by omega, fun x1 x2 x3 => ?_⟩
      by_cases hi : i < q
      · have := a3 x1 hi x3; omega
      · have := b3 (by omega) x2 x3; omega
    · have := b2 hb
      exact ⟨by omega, fun _ => by omega, fun x1 x2 x3 => by have := b3 (by omega) x2 x3; omega⟩
  · have := a2 ha
    have hb : c' (i : Int) = 0 := Classical.byContradiction fun hb => by have := b2 hb; omega
    exact ⟨by omega, fun _ => by omega, fun x1 x2 x3 => by have := a3 x1 (by omega) x3; omega⟩
theorem WP.skip {q : Nat} {c : Int → Nat} {s s' : Nat} (h : WP l p q c s) (hq : q < l.length) (hw : want l q = false) (hs : s' ≤ s + 2) : WP l p (q + 1) c s' := by
  obtain ⟨h1, h2, h3, h4⟩ := h
  refine ⟨by omega, by omega, by omega, fun i => ?_⟩
  obtain ⟨a1, a2, a3⟩ := h4 i
  refine ⟨a1, fun h => by have := a2 h; omega, fun x1 x2 x3 => ?_⟩
  by_cases hi : i < q
  · exact a3 x1 hi x3
  · have : i = q := by omega
    subst this; rw [hw] at x3; cases x3
theorem WP.tok (hp : p < l.length) {s : Nat} (hs : s ≤ 2) : WP l p (p + 1) (fun i => if (p : Int) = i then 1 else 0) s := by
  refine ⟨by omega, by omega, by omega, fun i => ?_⟩
  show (if (p : Int) = (i : Int) then 1 else 0) ≤ 1 ∧ ((if (p : Int) = (i : Int) then 1 else 0) ≠ 0 → p ≤ i ∧ i < p + 1) ∧ (p ≤ i → i < p + 1 → want l i = true → (if (p : Int) = (i : Int) then 1 else 0) = 1)
  by_cases e : (p : Int) = (i : Int)
  · rw [if_pos e]; exact ⟨by omega, fun _ => by omega, fun _ _ _ => rfl⟩
  · rw [if_neg e]; exact ⟨by omega, fun h => absurd rfl h, fun _ _ _ => by omega⟩
theorem WP.of {q : Nat} {c c' : Int → Nat} {s s' : Nat} (h : WP l p q c s) (hc : ∀ i : Nat, c' (i : Int) = c (i : Int)) (hs : s' ≤ s) : WP l p q c' s' := by
  obtain ⟨h1, h2, h3, h4⟩ := h
  exact ⟨h1, h2, by omega, fun i => by rw [hc]; exact h4 i⟩
end
structure Sim (l l2 : TL) (d lim : Nat) : Prop where
  ok : TokOk l
  len2 : l2.length < BL
  l1 : l.length ≤ lim
  l3 : lim ≤ l.length + 1
  lt : ∀ p, p < l.length → p + d < l2.length ∧ l2.getD (p + d) default = l.getD p default
  fin : l.length < lim → l2.length = l.length + d
section
variable {l l2 : TL} {d lim p : Nat} {deep : Int} {K : List KD}
theorem Sim.wdE (h : Sim l l2 d lim) (hp : p < lim) : wd l2 (p + d) = wd l p := by
  unfold wd
  by_cases e : p < l.length
  · obtain ⟨h1, h2⟩ := h.lt p e
    rw [h2]
    simp only [h1, e]
  · have h3 := h.fin (by omega)
    rw [if_neg (by omega), if_neg (by omega)]
theorem Sim.le2 (h : Sim l l2 d lim) (hp : p < lim) (hl : p ≤ l.length) : p + d ≤ l2.length := by
  by_cases e : p < l.length
  · obtain ⟨h1, h2⟩ := h.lt p e
    omega
  · have h3 := h.fin (by omega)
    omega
theorem Sim.b (h : Sim l l2 d lim) (hl : p ≤ l.length) : p ≤ BL := Nat.le_of_lt (Nat.lt_of_le_of_lt hl h.ok.len)
theorem Sim.b1 (h : Sim l l2 d lim) (hl : p ≤ l.length) : p + 1 ≤ BL := Nat.lt_of_le_of_lt hl h.ok.len
theorem Sim.eat (h : Sim l l2 d lim) (s : List UInt8) (hp : p < lim) (hl : p ≤ l.length) : tree_parser_eat s l2 ((p + d : Nat) : Int) deep K = if wd l p = s then some (true, ((p + 1 + d : Nat) : Int)) else some (false, ((p + d : Nat) : Int)) := by
  rw [eat_is (Nat.le_of_lt (Nat.lt_of_le_of_lt (h.le2 hp hl) h.len2)), h.wdE hp, show p + d + 1 = p + 1 + d by omega]
theorem Sim.peek (h : Sim l l2 d lim) (hp : p < lim) : tree_parser_peek l2 ((p + d : Nat) : Int) deep K = some (wd l p) := by
  rw [peek_is, h.wdE hp]
theorem Sim.must (h : Sim l l2 d lim) (s : List UInt8) (hp : p < l.length) (hw : wd l p = s) : tree_parser_must s l2 ((p + d : Nat) : Int) deep K = some (.ok ((p + 1 + d : Nat) : Int)) := by
  have h1 := h.l1
  have h2 := (h.lt p hp).1
  have h3 := h.len2
  rcases must_is (l := l2) (p := p + d) (deep := deep) (K := K) (s := s) (by omega) with ⟨_, h4⟩ | ⟨h4, _⟩
  · rw [h4, show p + d + 1 = p + 1 + d by omega]
  · rw [h.wdE (by omega)] at h4
    exact absurd hw h4
theorem Sim.isN (h : Sim l l2 d lim) (hp : p < l.length) : isName l2 (p + d) = isName l p := by
  unfold isName
  rw [(h.lt p hp).2]
theorem Sim.name (h : Sim l l2 d lim) (hp : p < l.length) (hn : isName l p = true) : tree_parser_name l2 ((p + d : Nat) : Int) deep K = some (.ok (((p + d : Nat) : Int), ((p + 1 + d : Nat) : Int))) := by
  have h2 := (h.lt p hp).1
  have hb : p + d ≤ BL := Nat.le_of_lt (Nat.lt_trans h2 h.len2)
  have hn2 := (h.isN hp).trans hn
  unfold tree_parser_name
  simp only [eqI, decide_eq_true_eq, Int.toNat_natCast, Bool.not_eq_true', decide_eq_false_iff_not, key_is, Option.bind_some]
  simp only [isName, eqI, Bool.and_eq_true, decide_eq_true_eq, Bool.not_eq_true'] at hn2
  rw [if_neg (by omega), if_pos (by omega), if_neg (by rw [hn2.1]; simp), if_pos (by omega)]
  simp only [tree_parser_name_j1, hn2.2, Bool.false_eq_true, if_false, wP hb]
  unfold BL at hb
  rw [wrI _ (by omega), show p + 1 + d = p + d + 1 by omega]
  simp
theorem Sim.down (h : Sim l l2 d lim) {D : Nat} (hD : D < 30) : tree_parser_down l2 ((p + d : Nat) : Int) (D : Int) K = some (.ok ((D + 1 : Nat) : Int)) := by
  unfold tree_parser_down
  simp only [eqI, decide_eq_true_eq]
  rw [if_neg (by omega), wrI _ (by omega)]
  rfl
end
noncomputable def lpO {S R : Type} (b : S → Option (S ⊕ R)) : Option (S ⊕ R) → Option R
  | none => none
  | some (.inl s) => loopO b s
  | some (.inr r) => some r
theorem lpO_eq {S R : Type} (b : S → Option (S ⊕ R)) (s : S) : loopO b s = lpO b (b s) := by
  rw [loopO_eq]
  unfold lpO
  cases b s with
  | none => rfl
  | some o => cases o <;> rfl
theorem lpO_inl {S R : Type} (b : S → Option (S ⊕ R)) (s : S) : lpO b (some (.inl s)) = loopO b s := rfl
theorem Sm.lp {S R : Type} {b : S → Option (S ⊕ R)} {x : Option (S ⊕ R)} {Q : R → Prop} (h : Sm x fun o => Sm (lpO b (Option.some o)) Q) : Sm (lpO b x) Q := by
  obtain ⟨o, rfl, h2⟩ := h
  exact h2
end Go.Proofs.Ytppomhjhokbacaa
