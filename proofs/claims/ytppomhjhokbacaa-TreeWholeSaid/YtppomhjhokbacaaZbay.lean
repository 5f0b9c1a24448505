/- The tree's parser, plain: what names are; declarations. -/
import Derived.Test.YtppomhjhokbacaaZbau
set_option linter.unusedVariables false
set_option linter.unusedSimpArgs false
namespace Go.Proofs.Ytppomhjhokbacaa
open Go.RowKit
def lookR : List KD → List UInt8 → Bool
  | [], _ => false
  | m :: r, s => match bGet m s with
    | some v => v
    | none => lookR r s
def baseB (s : List UInt8) : Bool := eqS s [105, 110, 116] || eqS s [99, 104, 97, 114] || eqS s [108, 111, 110, 103] || eqS s [118, 111, 105, 100]
def tyB (K : List KD) (s : List UInt8) : Bool := baseB s || lookR K.reverse s
def KE (K K2 : List KD) : Prop := ∃ (a b : KD) (r : List KD), K = a :: r ∧ K2 = b :: r ∧ ∀ s, (bGet a s).getD false = (bGet b s).getD false
def KB (K : List KD) (p : Nat) : Prop := K.length ≤ p + 1 ∧ ∀ m ∈ K, m.length ≤ p ∧ bGet m [] = none
structure KK (K K2 : List KD) (p d : Nat) : Prop where
  e : KE K K2
  b : KB K p
  b2 : KB K2 (p + d)
def AF (K : List KD) : Prop := ∀ m ∈ K, ∀ s, (bGet m s).getD false = false
theorem KB.mono {K : List KD} {p q : Nat} (h : KB K p) (hpq : p ≤ q) : KB K q := ⟨by have := h.1; omega, fun m hm => ⟨by have := (h.2 m hm).1; omega, (h.2 m hm).2⟩⟩
theorem KK.mono {K K2 : List KD} {p q d : Nat} (h : KK K K2 p d) (hpq : p ≤ q) : KK K K2 q d := ⟨h.e, h.b.mono hpq, h.b2.mono (by omega)⟩
theorem KK.self {K K2 : List KD} {p d : Nat} (h : KK K K2 p d) : KK K K p d := by
  obtain ⟨a, b, r, h1, h2, h3⟩ := h.e
  exact ⟨⟨a, a, r, h1, h1, fun _ => rfl⟩, h.b, h.b.mono (by omega)⟩
def lookR' : List KD → List UInt8 → Option Bool
  | [], _ => none
  | m :: r, s => match bGet m s with
    | some v => some v
    | none => lookR' r s
theorem lookR_app (a : KD) (s : List UInt8) : ∀ r, lookR (r ++ [a]) s = match lookR' r s with | some v => v | none => (bGet a s).getD false
  | [] => by
    simp only [List.nil_append, lookR, lookR']
    cases bGet a s <;> rfl
  | m :: r => by
    simp only [List.cons_append, lookR, lookR']
    cases bGet m s with
    | some v => rfl
    | none => exact lookR_app a s r
theorem KE.look {K K2 : List KD} (h : KE K K2) (s : List UInt8) : tyB K2 s = tyB K s := by
  obtain ⟨a, b, r, rfl, rfl, h3⟩ := h
  unfold tyB
  rw [List.reverse_cons, List.reverse_cons, lookR_app, lookR_app, h3]
theorem KE.len {K K2 : List KD} (h : KE K K2) : K2.length = K.length ∧ 0 < K.length := by
  obtain ⟨a, b, r, rfl, rfl, h3⟩ := h
  simp
theorem kPut_app (X : List KD) (m : KD) (s : List UInt8) (v : Bool) : kPut (X ++ [m]) s v = X ++ [(s, v) :: m] := by
  unfold kPut
  have e : (X ++ [m]).length - 1 = X.length := by simp
  rw [e, List.getD_eq_getElem?_getD, List.getElem?_append_right (Nat.le_refl _), Nat.sub_self, List.set_append_right _ _ (Nat.le_refl _), Nat.sub_self]
  rfl
theorem kTop_app (X : List KD) (m : KD) : kTop (X ++ [m]) = m := by
  unfold kTop
  have e : (X ++ [m]).length - 1 = X.length := by simp
  rw [e, List.getD_eq_getElem?_getD, List.getElem?_append_right (Nat.le_refl _), Nat.sub_self]
  rfl
theorem last_of {K : List KD} (h : 0 < K.length) : ∃ X m, K = X ++ [m] := ⟨_, _, (List.dropLast_concat_getLast (show K ≠ [] by intro e; rw [e] at h; simp at h)).symm⟩
theorem KB.put {K : List KD} {p : Nat} (h : KB K p) (h0 : 0 < K.length) {s : List UInt8} (hs : s ≠ []) (v : Bool) : KB (kPut K s v) (p + 1) := by
  obtain ⟨X, m, rfl⟩ := last_of h0
  rw [kPut_app]
  obtain ⟨h1, h2⟩ := h
  refine ⟨by simp at h1 ⊢; omega, fun x hx => ?_⟩
  rcases List.mem_append.1 hx with hx | hx
  · have := h2 x (by simp [hx])
    exact ⟨by omega, this.2⟩
  · simp only [List.mem_singleton] at hx
    subst hx
    have := h2 m (by simp)
    refine ⟨by simp; omega, ?_⟩
    rw [bGet, if_neg (fun e => hs e.symm)]
    exact this.2
theorem KE.put {K K2 : List KD} (h : KE K K2) (s : List UInt8) (v : Bool) : KE (kPut K s v) (kPut K2 s v) := by
  obtain ⟨a, b, r, rfl, rfl, h3⟩ := h
  rcases Nat.eq_zero_or_pos r.length with h0 | h0
  · have hr : r = [] := List.eq_nil_of_length_eq_zero h0
    subst hr
    refine ⟨(s, v) :: a, (s, v) :: b, [], kPut_app [] a s v, kPut_app [] b s v, fun x => ?_⟩
    simp only [bGet]
    split
    · rfl
    · exact h3 x
  · obtain ⟨X, m, rfl⟩ := last_of h0
    exact ⟨a, b, X ++ [(s, v) :: m], kPut_app (a :: X) m s v, kPut_app (b :: X) m s v, h3⟩
theorem KK.put {K K2 : List KD} {p d : Nat} (h : KK K K2 p d) {s : List UInt8} (hs : s ≠ []) (v : Bool) : KK (kPut K s v) (kPut K2 s v) (p + 1) d := by
  obtain ⟨l1, l2⟩ := h.e.len
  exact ⟨h.e.put s v, h.b.put l2 hs v, (h.b2.put (by omega) hs v).mono (by omega)⟩
theorem kPut_len (K : List KD) (s : List UInt8) (v : Bool) : (kPut K s v).length = K.length := by simp [kPut]
theorem AF.put {K : List KD} (h : AF K) (h0 : 0 < K.length) (s : List UInt8) : AF (kPut K s false) := by
  obtain ⟨X, m, rfl⟩ := last_of h0
  rw [kPut_app]
  intro x hx t
  rcases List.mem_append.1 hx with hx | hx
  · exact h x (by simp [hx]) t
  · simp only [List.mem_singleton] at hx
    subst hx
    rw [bGet]
    split
    · rfl
    · exact h m (by simp) t
theorem KK.push {K K2 : List KD} {p d : Nat} (h : KK K K2 p d) : KK (K ++ [[]]) (K2 ++ [[]]) (p + 1) d := by
  have hb : ∀ {K : List KD} {p : Nat}, KB K p → KB (K ++ [[]]) (p + 1) := fun {K p} hb => ⟨by have := hb.1; simp; omega, fun m hm => by
    rcases List.mem_append.1 hm with hm | hm
    · have := hb.2 m hm; exact ⟨by omega, this.2⟩
    · simp only [List.mem_singleton] at hm; subst hm; exact ⟨by simp, rfl⟩⟩
  obtain ⟨a, b, r, h1, h2, h3⟩ := h.e
  exact ⟨⟨a, b, r ++ [[]], by rw [h1]; rfl, by rw [h2]; rfl, h3⟩, hb h.b, (hb h.b2).mono (by omega)⟩
theorem AF.push {K : List KD} (h : AF K) : AF (K ++ [[]]) := fun m hm s => by
  rcases List.mem_append.1 hm with hm | hm
  · exact h m hm s
  · simp only [List.mem_singleton] at hm; subst hm; rfl
theorem KK.pop {K K2 : List KD} {p d : Nat} (h : KK K K2 p d) (hl : 2 ≤ K.length) : KK K.dropLast K2.dropLast p d := by
  have hb : ∀ {K : List KD} {p : Nat}, KB K p → KB K.dropLast p := fun {K p} hb => ⟨by have := hb.1; simp; omega, fun m hm => hb.2 m ((List.dropLast_sublist _).subset hm)⟩
  obtain ⟨a, b, r, h1, h2, h3⟩ := h.e
  have hr : r ≠ [] := by intro e; rw [h1, e] at hl; simp at hl
  obtain ⟨x, r', rfl⟩ := List.exists_cons_of_ne_nil hr
  exact ⟨⟨a, b, (x :: r').dropLast, by rw [h1]; rfl, by rw [h2]; rfl, h3⟩, hb h.b, hb h.b2⟩
theorem AF.pop {K : List KD} (h : AF K) : AF K.dropLast := fun m hm => h m ((List.dropLast_sublist _).subset hm)
theorem AF.look {K : List KD} (h : AF K) (s : List UInt8) : lookR K.reverse s = false := by
  have : ∀ L : List KD, (∀ m ∈ L, ∀ s, (bGet m s).getD false = false) → lookR L s = false := fun L => by
    induction L with
    | nil => intro _; rfl
    | cons m r ih =>
      intro hL
      rw [lookR]
      have h1 := hL m (by simp) s
      cases hb : bGet m s with
      | some v => rw [hb] at h1; exact h1
      | none => exact ih fun x hx => hL x (by simp [hx])
  exact this _ fun m hm => h m (by simpa using hm)
theorem KB.nil {K : List KD} {p : Nat} (h : KB K p) : tyB K [] = false := by
  have : ∀ L : List KD, (∀ m ∈ L, bGet m [] = none) → lookR L [] = false := fun L => by
    induction L with
    | nil => intro _; rfl
    | cons m r ih =>
      intro hL
      rw [lookR, hL m (by simp)]
      exact ih fun x hx => hL x (by simp [hx])
  have h2 := this K.reverse fun m hm => (h.2 m (by simpa using hm)).2
  unfold tyB
  rw [h2]
  rfl
section
variable {l l2 : TL} {d lim p D : Nat} {K K2 : List KD}
theorem ty_loop {s : List UInt8} (hs : s.length ≤ 9223372036854775807) (hK : K.length ≤ BL) : ∀ i, i ≤ K.length → loopO (tree_parser_isType_b2 K s) ((i : Int) - 1) = some (lookR (K.take i).reverse s)
  | 0, _ => by
    rw [lpO_eq]
    rfl
  | i + 1, hi => by
    rw [lpO_eq]
    have e1 : (((i + 1 : Nat) : Int) - 1) = (i : Int) := by omega
    rw [e1]
    simp only [tree_parser_isType_b2, leI, decide_eq_true_eq, Int.toNat_natCast]
    rw [if_pos (by omega), if_pos ⟨by omega, by omega, hs⟩]
    have e2 : (K.take (i + 1)).reverse = K.getD i [] :: (K.take i).reverse := by
      rw [List.take_add_one, List.getElem?_eq_getElem (by omega), List.getD_eq_getElem?_getD, List.getElem?_eq_getElem (by omega)]
      simp
    rw [e2, lookR]
    simp only [kHas, kVal, Int.toNat_natCast]
    rcases Option.eq_none_or_eq_some (bGet (K.getD i []) s) with hb | ⟨v, hb⟩
    rotate_left
    · simp only [hb, Option.isSome_some, if_true, Option.getD_some]
      rfl
    · simp only [hb, Option.isSome_none, Bool.false_eq_true, if_false]
      unfold BL at hK
      rw [wrI _ (by omega)]
      exact ty_loop hs hK i (by omega)
theorem isType_is (hl : TokOk l) (hK : KB K p) (hp : p ≤ l.length) : tree_parser_isType l (p : Int) (D : Int) K = some (tyB K (wd l p)) := by
  have hs : (wd l p).length ≤ 9223372036854775807 := by
    unfold wd
    split
    · rename_i h; exact hl.text p h.1
    · simp
  have hlen := hl.len
  have hkl : K.length ≤ BL := by have := hK.1; omega
  unfold tree_parser_isType
  rw [peek_is]
  simp only [Option.bind_some, tree_parser_isType_j1]
  have hL := ty_loop hs hkl K.length (Nat.le_refl _)
  rw [List.take_length] at hL
  rw [hL]
  unfold tyB baseB
  cases eqS (wd l p) [105, 110, 116] <;> cases eqS (wd l p) [99, 104, 97, 114] <;> cases eqS (wd l p) [108, 111, 110, 103] <;> cases eqS (wd l p) [118, 111, 105, 100] <;> rfl
theorem typ_is (hl : TokOk l) (hK : KB K p) (hp : p ≤ l.length) : (p < l.length ∧ tyB K (wd l p) = true ∧ tree_parser_typ l (p : Int) (D : Int) K = some (.ok ((p : Int), ((p + 1 : Nat) : Int)))) ∨ ∃ e, tree_parser_typ l (p : Int) (D : Int) K = some (.er e) := by
  have hlen := hl.len
  have hb : p ≤ BL := by omega
  unfold tree_parser_typ
  rw [isType_is hl hK hp]
  simp only [Option.bind_some]
  cases ht : tyB K (wd l p) with
  | false =>
    obtain ⟨f, hf⟩ := fail_is (l := l) (p := p) (deep := (D : Int)) (K := K) (n := 2) hb
    refine .inr ⟨(f.1, f.2), ?_⟩
    rw [if_pos (show (!false) = true from rfl), hf]
    rfl
  | true =>
    have hlt : p < l.length := Classical.byContradiction fun h => by
      have : wd l p = [] := by unfold wd; rw [if_neg (by omega)]
      rw [this, hK.nil] at ht
      cases ht
    refine .inl ⟨hlt, rfl, ?_⟩
    rw [if_neg (by simp), wP hb]
    unfold BL at hb
    rw [wrI _ (by omega)]
    simp
theorem Sim.isType (S : Sim l l2 d lim) (hk : KK K K2 p d) (hp : p < lim) (hl : p ≤ l.length) : tree_parser_isType l2 ((p + d : Nat) : Int) (D : Int) K2 = some (tyB K (wd l p)) := by
  have hl1 := S.l1
  have hb : p + d < BL := Nat.lt_of_le_of_lt (S.le2 hp hl) S.len2
  rw [← hk.e.look]
  have hs : (wd l2 (p + d)).length ≤ 9223372036854775807 := by
    rw [S.wdE hp]
    unfold wd
    split
    · rename_i h; exact S.ok.text p h.1
    · simp
  have hkl : K2.length ≤ BL := by have := hk.b2.1; omega
  unfold tree_parser_isType
  rw [peek_is]
  simp only [Option.bind_some, tree_parser_isType_j1]
  have hL := ty_loop hs hkl K2.length (Nat.le_refl _)
  rw [List.take_length] at hL
  rw [hL, S.wdE hp]
  unfold tyB baseB
  cases eqS (wd l p) [105, 110, 116] <;> cases eqS (wd l p) [99, 104, 97, 114] <;> cases eqS (wd l p) [108, 111, 110, 103] <;> cases eqS (wd l p) [118, 111, 105, 100] <;> rfl
theorem Sim.typ (S : Sim l l2 d lim) (hk : KK K K2 p d) (hp : p < l.length) (ht : tyB K (wd l p) = true) : tree_parser_typ l2 ((p + d : Nat) : Int) (D : Int) K2 = some (.ok (((p + d : Nat) : Int), ((p + 1 + d : Nat) : Int))) := by
  have h2 := (S.lt p hp).1
  have hl1 := S.l1
  have hb : p + d < BL := Nat.lt_trans h2 S.len2
  unfold tree_parser_typ
  rw [S.isType hk (by omega) (by omega), ht]
  simp only [Option.bind_some]
  rw [if_neg (by simp), wP (by omega)]
  unfold BL at hb
  rw [wrI _ (by omega), show p + d + 1 = p + 1 + d by omega]
  simp
  omega
end
end Go.Proofs.Ytppomhjhokbacaa
