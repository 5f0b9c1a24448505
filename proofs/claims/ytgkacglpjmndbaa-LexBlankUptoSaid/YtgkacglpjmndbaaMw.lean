/- What is known may be said otherwise: names anew, less of it. -/
import Derived.Test.YtgkacglpjmndbaaMm
namespace Go.Proofs.Ytgkacglpjmndbaa
open Go.RowKit

/-- Where the one stands for a frame and a world, the other does. -/
def Wk (rt : Bool) (σ : Nat → AV) (h : Hp) (σ' : Nat → AV) (h' : Hp) : Prop :=
  ∀ (Γ : Ctx) (a : Act) (e : Env), Γ.root.isSome = rt → SlotsOk Γ.nt σ a e → WInv Γ h e → ∃ e', e'.w = e.w ∧ SlotsOk Γ.nt σ' a e' ∧ WInv Γ h' e'
theorem Wk.refl (rt : Bool) (σ : Nat → AV) (h : Hp) : Wk rt σ h σ h := fun _ _ e _ hs hw => ⟨e, rfl, hs, hw⟩
theorem Wk.trans {rt : Bool} {σ σ1 σ2 : Nat → AV} {h h1 h2 : Hp} (k : Wk rt σ h σ1 h1) (k' : Wk rt σ1 h1 σ2 h2) : Wk rt σ h σ2 h2 := fun Γ a e hΓ hs hw => by
  obtain ⟨e1, q1, q2, q3⟩ := k Γ a e hΓ hs hw
  obtain ⟨e2, p1, p2, p3⟩ := k' Γ a e1 hΓ q2 q3
  exact ⟨e2, p1.trans q1, p2, p3⟩

def sigL : List (Nat × AV) → Nat → AV
  | [], _ => .c .top
  | (i, a) :: l, j => if j = i then a else sigL l j
theorem sigL_cons (i : Nat) (a : AV) (l : List (Nat × AV)) (j : Nat) : sigL ((i, a) :: l) j = if j = i then a else sigL l j := rfl
theorem sigL_nil (j : Nat) : sigL [] j = .c .top := rfl

def hpH (bs : List (List C)) (n : Nat) : Option (List C) := if n = 0 then none else bs[n - 1]?
def hpT (nb : Nat) (ts : List TypeId) (n : Nat) : Option TypeId := if n ≤ nb then none else ts[n - nb - 1]?
def hpL (bs : List (List C)) (ts : List TypeId) : Hp := ⟨hpH bs, hpT bs.length ts, bs.length + ts.length + 1⟩

/-- Names anew: ps, qs: which box, which token (0: none) each one was. -/
structure Ren where
  ps : List Nat
  qs : List Nat
def Ren.p (r : Ren) (n : Nat) : Nat := r.ps.getD (n - 1) 0
def Ren.q (r : Ren) (n : Nat) : Nat := r.qs.getD (n - r.ps.length - 1) 0

def CWk (r : Ren) : C → C → Prop
  | .arr sz l, .arr sz' l' => sz = sz' ∧ l = l'
  | .arr _ _, _ => False
  | _, .top => True
  | .d x, .d y => x = y
  | .sl sz l k, .sl sz' l' k' => l = l' ∧ (sz = sz' ∨ l = []) ∧ (k = 0 ∨ (r.q k' = k ∧ r.ps.length < k' ∧ k' ≤ r.ps.length + r.qs.length))
  | .sl sz l _, .d (.sl sz' l') => l = l' ∧ (sz = sz' ∨ l = [])
  | .sl _ l k, .os _ _ len => l = [] ∧ k = 0 ∧ len = 0
  | .os n sz len, .os n' sz' len' => r.p n' = n ∧ n ≠ 0 ∧ sz = sz' ∧ len = len' ∧ 0 < n' ∧ n' ≤ r.ps.length
  | .ex v d, .ex v' d' => v = v' ∧ d = d'
  | .ex _ (.sl sz l), .d (.sl sz' l') => l = l' ∧ (sz = sz' ∨ l = [])
  | .pt n o, .pt n' o' => r.p n' = n ∧ n ≠ 0 ∧ o = o' ∧ 0 < n' ∧ n' ≤ r.ps.length
  | .pp l, .pp l' => l = l'
  | _, _ => False
def CsWk (r : Ren) : List C → List C → Prop
  | [], [] => True
  | x :: l, y :: m => CWk r x y ∧ CsWk r l m
  | _, _ => False
def AWk (r : Ren) : AV → AV → Prop
  | _, .c .top => True
  | .c (.d (.ag l)), .ag m => CsWk r (l.map .d) m
  | .c x, .c y => CWk r x y
  | .ag l, .ag m => CsWk r l m
  | _, _ => False
def LWk (r : Ren) (σ : Nat → AV) : List (Nat × AV) → Prop
  | [] => True
  | (i, a) :: l => AWk r (σ i) a ∧ LWk r σ l
def BWk1 (r : Ren) : Option (List C) → List C → Prop
  | some row, row' => CsWk r row row'
  | none, _ => False
def NilRow : List C → Prop
  | [.arr sz []] => 0 < sz
  | _ => False
def BWk (r : Ren) (h : Hp) : Nat → List (List C) → Prop
  | _, [] => True
  | n, row :: bs => (if r.p n = 0 then NilRow row else BWk1 r (h.H (r.p n)) row) ∧ BWk r h (n + 1) bs
def TWk (r : Ren) (h : Hp) : Nat → List TypeId → Prop
  | _, [] => True
  | n, ty :: ts => (r.q n = 0 ∨ h.T (r.q n) = some ty) ∧ TWk r h (n + 1) ts

def renE (r : Ren) (e : Env) : Env :=
  ⟨e.w, e.S, fun n => if (0 < n ∧ n ≤ r.ps.length) ∧ r.p n ≠ 0 then e.ρ (r.p n) else none,
   fun n => if 0 < n ∧ n ≤ r.ps.length then (if r.p n = 0 then none else e.τ (r.p n)) else if r.ps.length < n ∧ n ≤ r.ps.length + r.qs.length then (if r.q n = 0 then some (.slice none 0 0) else e.τ (r.q n)) else none⟩
theorem renE_ρ {r : Ren} {e : Env} {n : Nat} (h1 : 0 < n) (h2 : n ≤ r.ps.length) (h3 : r.p n ≠ 0) : (renE r e).ρ n = e.ρ (r.p n) := by simp [renE, h1, h2, h3]
theorem renE_τp {r : Ren} {e : Env} {n : Nat} (h1 : 0 < n) (h2 : n ≤ r.ps.length) (h3 : r.p n ≠ 0) : (renE r e).τ n = e.τ (r.p n) := by simp [renE, h1, h2, h3]
theorem renE_ρ0 {r : Ren} {e : Env} {n : Nat} (h3 : r.p n = 0) : (renE r e).ρ n = none := by simp [renE, h3]
theorem renE_τ {r : Ren} {e : Env} {n : Nat} (h1 : r.ps.length < n) (h2 : n ≤ r.ps.length + r.qs.length) : (renE r e).τ n = if r.q n = 0 then some (.slice none 0 0) else e.τ (r.q n) := by
  have : ¬ n ≤ r.ps.length := by omega
  simp [renE, this, h1, h2]

theorem R1.resize' {w : World} {S : Nat → Nat → Prop} {sz sz' : Nat} {l l' : List D} {v : Value} (h : R1 w S (.sl sz l) v) (he : l = l') (hl : sz = sz' ∨ l = []) : R1 w S (.sl sz' l') v := by
  subst he; exact h.resize hl.symm

theorem CWk.rc {r : Ren} {e : Env} {c c' : C} {v : Value} (h : CWk r c c') (k : RC e c v) : RC (renE r e) c' v := by
  unfold CWk at h
  split at h
  · exact k.elim
  · exact h.elim
  · trivial
  · cases h; exact k
  · obtain ⟨h1, h2, h3⟩ := h
    obtain ⟨k1, k2⟩ := k
    refine ⟨k1.resize' h1 h2, ?_⟩
    rcases k2 with k2 | ⟨k2, k3⟩
    · exact .inl k2
    · rcases h3 with h3 | ⟨h3, h4, h5⟩
      · exact absurd h3 k2
      · refine .inr ⟨by omega, ?_⟩
        rw [renE_τ h4 h5, h3, if_neg k2]; exact k3
  · obtain ⟨h1, h2⟩ := h
    exact k.1.resize' h1 h2
  · obtain ⟨rfl, rfl, rfl⟩ := h
    obtain ⟨k1, k2⟩ := k
    obtain ⟨a, m, rfl⟩ := k2.resolve_right (fun h => h.1 rfl)
    rcases k1.slInv with ⟨_, o, h⟩ | ⟨vs, b, o, cap, h, _⟩
    · exact .inl ⟨rfl, o, h⟩
    · simp only [List.length_nil, Value.slice.injEq] at h
      obtain ⟨_, rfl, rfl⟩ := h
      exact .inl ⟨rfl, _, rfl⟩
  · obtain ⟨h1, h2, rfl, rfl, h5, h6⟩ := h
    rcases k with k | ⟨b, cap, k1, k2, k3⟩
    · exact .inl k
    · have hne : r.p _ ≠ 0 := h1 ▸ h2
      exact .inr ⟨b, cap, by rw [renE_ρ h5 h6 hne, h1]; exact k1, by rw [renE_τp h5 h6 hne, h1]; exact k2, k3⟩
  · obtain ⟨rfl, rfl⟩ := h; exact k
  · obtain ⟨h1, h2⟩ := h
    exact k.2.resize' h1 h2
  · obtain ⟨h1, h2, rfl, h5, h6⟩ := h
    obtain ⟨b, k1, k2⟩ := k
    have hne : r.p _ ≠ 0 := h1 ▸ h2
    exact ⟨b, by rw [renE_ρ h5 h6 hne, h1]; exact k1, k2⟩
  · cases h; exact k
  · exact h.elim

theorem CsWk.rcs {r : Ren} {e : Env} : ∀ {l l' : List C} {vs : List Value}, CsWk r l l' → RCs e l vs → RCs (renE r e) l' vs
  | [], [], [], _, _ => trivial
  | _ :: _, _ :: _, _ :: _, ⟨h1, h2⟩, ⟨k1, k2⟩ => ⟨CWk.rc h1 k1, CsWk.rcs h2 k2⟩
  | [], [], _ :: _, _, h => h.elim
  | _ :: _, _ :: _, [], _, h => h.elim
  | [], _ :: _, _, h, _ => h.elim
  | _ :: _, [], _, h, _ => h.elim

theorem CWk.arrL {r : Ren} {sz : Nat} {l : List D} {c : C} (h : CWk r (.arr sz l) c) : c = .arr sz l := by
  cases c <;> first | exact h.elim | (obtain ⟨rfl, rfl⟩ := h; rfl)
theorem CsWk.rb {r : Ren} {e : Env} {n' : Nat} {l l' : List C} {vs : List Value} (h1 : 0 < n') (h2 : n' ≤ r.ps.length) (h3 : r.p n' ≠ 0) (h : CsWk r l l') (k : RB e (r.p n') l vs) : RB (renE r e) n' l' vs := by
  unfold RB at k
  split at k
  · rename_i sz m cs
    obtain ⟨us, ts, zs, cap, k1, k2, k3, k4, k5, k6, k7, k8, k9⟩ := k
    cases l' with
    | nil => exact h.elim
    | cons c' cs' =>
      obtain ⟨g1, g2⟩ := h
      have := g1.arrL
      subst this
      refine ⟨us, ts, zs, cap, k1, k2, k3, CsWk.rcs g2 k4, k5.imp (fun h => ?_) id, k6, k7, k8, by rw [renE_τp h1 h2 h3]; exact k9⟩
      subst h
      cases cs' with
      | nil => rfl
      | cons _ _ => exact g2.elim
  · exact .of (CsWk.rcs h k)

theorem AWk.ra {r : Ren} {e : Env} {a a' : AV} {v : Value} (h : AWk r a a') (k : RA e a v) : RA (renE r e) a' v := by
  unfold AWk at h
  split at h
  · trivial
  · obtain ⟨vs, rfl, k2⟩ := R1.agInv k
    exact ⟨vs, rfl, CsWk.rcs h (RCs.ofD k2)⟩
  · exact CWk.rc h k
  · obtain ⟨vs, rfl, k2⟩ := k
    exact ⟨vs, rfl, CsWk.rcs h k2⟩
  · exact h.elim

theorem LWk.at {r : Ren} {σ : Nat → AV} : ∀ {L : List (Nat × AV)}, LWk r σ L → ∀ i, AWk r (σ i) (sigL L i)
  | [], _, i => by simp [sigL, AWk]
  | (j, a) :: L, ⟨h1, h2⟩, i => by
    simp only [sigL]
    split
    · rename_i h; subst h; exact h1
    · exact LWk.at h2 i

theorem BWk.at {r : Ren} {h : Hp} : ∀ {bs : List (List C)} {n : Nat}, BWk r h n bs → ∀ (j : Nat) (row : List C), bs[j]? = some row →
    (r.p (n + j) = 0 ∧ NilRow row) ∨ (r.p (n + j) ≠ 0 ∧ ∃ row0, h.H (r.p (n + j)) = some row0 ∧ CsWk r row0 row)
  | [], _, _, j, row, hj => by simp at hj
  | b :: bs, n, ⟨h1, h2⟩, j, row, hj => by
    cases j with
    | zero =>
      simp at hj; subst hj
      rw [Nat.add_zero]
      by_cases hp : r.p n = 0
      · rw [if_pos hp] at h1; exact .inl ⟨hp, h1⟩
      · rw [if_neg hp] at h1
        refine .inr ⟨hp, ?_⟩
        cases hr : h.H (r.p n) with
        | none => rw [hr] at h1; exact h1.elim
        | some row0 => rw [hr] at h1; exact ⟨row0, by first | rfl | exact hr, h1⟩
    | succ j =>
      have := BWk.at h2 j row (by simpa using hj)
      rwa [show n + 1 + j = n + (j + 1) by omega] at this

theorem TWk.at {r : Ren} {h : Hp} : ∀ {ts : List TypeId} {n : Nat}, TWk r h n ts → ∀ (j : Nat) (ty : TypeId), ts[j]? = some ty → r.q (n + j) = 0 ∨ h.T (r.q (n + j)) = some ty
  | [], _, _, j, row, hj => by simp at hj
  | b :: bs, n, ⟨h1, h2⟩, j, row, hj => by
    cases j with
    | zero => simp at hj; subst hj; exact h1
    | succ j =>
      have := TWk.at h2 j row (by simpa using hj)
      rwa [show n + 1 + j = n + (j + 1) by omega] at this

/-- All that is not 0 stands there once. -/
def once : List Nat → Bool
  | [] => true
  | n :: l => (n == 0 || !l.contains n) && once l
theorem once_inj : ∀ {l : List Nat}, once l = true → ∀ {i j : Nat}, l.getD i 0 = l.getD j 0 → l.getD i 0 ≠ 0 → i = j
  | [], _, i, j, _, h => by simp at h
  | n :: l, h, i, j, he, hn => by
    simp only [once, Bool.and_eq_true, Bool.or_eq_true, beq_iff_eq, Bool.not_eq_true', List.contains_eq_mem, decide_eq_false_iff_not] at h
    have mem : ∀ k, l.getD k 0 ≠ 0 → l.getD k 0 ∈ l := fun k hk => by
      by_cases hkl : k < l.length
      · simp only [List.getD_eq_getElem?_getD, List.getElem?_eq_getElem hkl, Option.getD_some]; exact List.getElem_mem _
      · rw [List.getD_eq_getElem?_getD, List.getElem?_eq_none (by omega)] at hk; simp at hk
    cases i with
    | zero =>
      cases j with
      | zero => rfl
      | succ j =>
        simp only [List.getD_cons_zero, List.getD_cons_succ] at he hn
        exact absurd (he ▸ mem j (he ▸ hn)) (h.1.resolve_left hn)
    | succ i =>
      cases j with
      | zero =>
        simp only [List.getD_cons_zero, List.getD_cons_succ] at he hn
        exact absurd (he ▸ mem i hn) (h.1.resolve_left (he ▸ hn))
      | succ j =>
        simp only [List.getD_cons_succ] at he hn
        rw [once_inj h.2 he hn]

theorem wk_ren {rt : Bool} {σ : Nat → AV} {h : Hp} {L : List (Nat × AV)} {bs : List (List C)} {ts : List TypeId} (r : Ren) (hb : bs.length = r.ps.length) (ht : ts.length = r.qs.length)
    (hp : once r.ps = true) (_hp0 : true = true) (hq : once r.qs = true) (h1 : BWk r h 1 bs) (h2 : TWk r h (r.ps.length + 1) ts) (h3 : LWk r σ L) (hrt : (!rt || r.ps.head? == some 1) = true) : Wk rt σ h (sigL L) (hpL bs ts) := by
  intro Γ a e hΓ hs hw
  refine ⟨renE r e, rfl, ⟨hs.1, hs.2.1, fun i hi => (h3.at i).ra (hs.2.2 i hi)⟩, ?_⟩
  have boxIn : ∀ n row, (hpL bs ts).H n = some row → 0 < n ∧ n ≤ r.ps.length ∧ ((r.p n = 0 ∧ NilRow row) ∨ (r.p n ≠ 0 ∧ ∃ row0, h.H (r.p n) = some row0 ∧ CsWk r row0 row)) := fun n row hn => by
    simp only [hpL, hpH] at hn
    split at hn
    · cases hn
    · have hlt := (List.getElem?_eq_some_iff.1 hn).1
      have g := h1.at (n - 1) row hn
      rw [show 1 + (n - 1) = n by omega] at g
      exact ⟨by omega, by omega, g⟩
  have tokIn : ∀ n ty, (hpL bs ts).T n = some ty → r.ps.length < n ∧ n ≤ r.ps.length + r.qs.length ∧ (r.q n = 0 ∨ h.T (r.q n) = some ty) := fun n ty hn => by
    simp only [hpL, hpT] at hn
    split at hn
    · cases hn
    · have hlt := (List.getElem?_eq_some_iff.1 hn).1
      have := h2.at (n - bs.length - 1) ty hn
      rw [show r.ps.length + 1 + (n - bs.length - 1) = n by omega] at this
      exact ⟨by omega, by omega, this⟩
  have boxNe : ∀ n b, (hpL bs ts).H n ≠ none → (renE r e).ρ n = some b → 0 < n ∧ n ≤ r.ps.length ∧ r.p n ≠ 0 ∧ h.H (r.p n) ≠ none ∧ e.ρ (r.p n) = some b := fun n b hn hb => by
    obtain ⟨row, hr⟩ := Option.ne_none_iff_exists'.1 hn
    obtain ⟨g1, g2, ⟨g3, _⟩ | ⟨g3, row0, g4, _⟩⟩ := boxIn n row hr
    · rw [renE_ρ0 g3] at hb; cases hb
    · rw [renE_ρ g1 g2 g3] at hb
      exact ⟨g1, g2, g3, by rw [g4]; simp, hb⟩
  have tokNe : ∀ n, (hpL bs ts).T n ≠ none → r.ps.length < n ∧ n ≤ r.ps.length + r.qs.length ∧ (r.q n = 0 ∨ h.T (r.q n) ≠ none) := fun n hn => by
    obtain ⟨ty, hr⟩ := Option.ne_none_iff_exists'.1 hn
    obtain ⟨g1, g2, g3⟩ := tokIn n ty hr
    exact ⟨g1, g2, g3.imp id fun h => by rw [h]; simp⟩
  have hτ0 : ∀ n, r.ps.length < n → n ≤ r.ps.length + r.qs.length → r.q n = 0 → (renE r e).τ n = some (.slice none 0 0) := fun n g1 g2 g3 => by rw [renE_τ g1 g2, if_pos g3]
  have hτ : ∀ n, r.ps.length < n → n ≤ r.ps.length + r.qs.length → r.q n ≠ 0 → (renE r e).τ n = e.τ (r.q n) := fun n g1 g2 g3 => by rw [renE_τ g1 g2, if_neg g3]
  constructor
  · exact hw.os
  · exact hw.tape
  · exact hw.output
  · exact hw.grown
  · exact hw.hB
  · exact hw.old
  · exact hw.sdom
  · exact hw.s0
  · exact hw.s0B
  · intro n row hn
    obtain ⟨g1, g2, ⟨g3, g4⟩ | ⟨g3, row0, g4, g5⟩⟩ := boxIn n row hn
    · refine .inl ⟨renE_ρ0 g3, ?_⟩
      unfold NilRow at g4
      split at g4
      · exact ⟨_, rfl, g4⟩
      · exact g4.elim
    · rcases hw.box _ row0 g4 with ⟨q1, sz, rfl, q3⟩ | ⟨b, cs, ty, q1, q2, q3, q4, q5⟩
      · refine .inl ⟨by rw [renE_ρ g1 g2 g3]; exact q1, sz, ?_, q3⟩
        cases row with
        | nil => exact g5.elim
        | cons c' cs' =>
          obtain ⟨k1, k2⟩ := g5
          cases cs' with
          | cons _ _ => exact k2.elim
          | nil => rw [k1.arrL]
      · exact .inr ⟨b, cs, ty, by rw [renE_ρ g1 g2 g3]; exact q1, q2, CsWk.rb g1 g2 g3 g5 q3, q4, q5⟩
  · intro n m b hn hm hnb hmb
    obtain ⟨g1, g2, g3, g4, g5⟩ := boxNe n b hn hnb
    obtain ⟨k1, k2, k3, k4, k5⟩ := boxNe m b hm hmb
    have := hw.inj _ _ b g4 k4 g5 k5
    have := once_inj hp this g3
    omega
  · intro k ty hk
    obtain ⟨g1, g2, g3⟩ := tokIn k ty hk
    refine ⟨by omega, ?_⟩
    by_cases hq0 : r.q k = 0
    · exact ⟨_, hτ0 k g1 g2 hq0, .inl ⟨none, 0, rfl⟩⟩
    · have g3 := g3.resolve_left hq0
      obtain ⟨_, v, q1, q2⟩ := hw.tok _ ty g3
      refine ⟨v, by rw [hτ k g1 g2 hq0]; exact q1, q2.imp id ?_⟩
      rintro ⟨sz, n, xs, z1, z2, z3, z4⟩
      refine ⟨sz, n, xs, z1, z2, z3, fun b hb m hm => ?_⟩
      intro hmb
      obtain ⟨k1, k2, k3, k4, k5⟩ := boxNe m b hm hmb
      exact z4 b hb _ k4 k5
  · intro k m v u b hk hm hv hu hvb hub hfv hfu
    obtain ⟨g1, g2, g3⟩ := tokNe k hk
    obtain ⟨k1, k2, k3⟩ := tokNe m hm
    have e1 : r.q k ≠ 0 := fun h0 => by
      rw [hτ0 k g1 g2 h0] at hv
      simp at hv; subst hv
      exact hfv ⟨none, 0, rfl⟩
    have e2 : r.q m ≠ 0 := fun h0 => by
      rw [hτ0 m k1 k2 h0] at hu
      simp at hu; subst hu
      exact hfu ⟨none, 0, rfl⟩
    rw [hτ k g1 g2 e1] at hv
    rw [hτ m k1 k2 e2] at hu
    have := hw.tokinj _ _ v u b (g3.resolve_left e1) (k3.resolve_left e2) hv hu hvb hub hfv hfu
    have := once_inj hq this e1
    omega
  · intro n hn
    have hn : bs.length + ts.length + 1 ≤ n := hn
    have b1 : ¬ n ≤ bs.length := by omega
    have b2 : ¬ n = 0 := by omega
    have b3 : ¬ (0 < n ∧ n ≤ r.ps.length) := by omega
    have b5 : ¬ ((0 < n ∧ n ≤ r.ps.length) ∧ r.p n ≠ 0) := fun h => b3 h.1
    have b4 : ¬ (r.ps.length < n ∧ n ≤ r.ps.length + r.qs.length) := by omega
    refine ⟨?_, ?_, ?_, ?_⟩
    · simp only [hpL, hpH, b2, if_false]; exact List.getElem?_eq_none (by omega)
    · simp only [hpL, hpT, b1, if_false]; exact List.getElem?_eq_none (by omega)
    · simp only [renE, b5, if_false]
    · simp only [renE, b3, b4, if_false]
  · exact Nat.succ_pos _
  · intro b hb
    rw [hb] at hΓ
    simp only [Option.isSome_some] at hΓ
    subst hΓ
    simp only [Bool.not_true, Bool.false_or, beq_iff_eq] at hrt
    have hlen : 1 ≤ r.ps.length := by cases hps : r.ps with | nil => rw [hps] at hrt; cases hrt | cons _ _ => simp
    have hp1 : r.p 1 = 1 := by
      unfold Ren.p
      cases hps : r.ps with
      | nil => rw [hps] at hrt; cases hrt
      | cons a l => rw [hps] at hrt; simp at hrt; simp [hrt]
    rw [renE_ρ (Nat.le_refl 1) hlen (by rw [hp1]; decide), hp1]
    exact hw.rt b hb

/-- An array that nobody writes to any more is data. -/
def frz (n : Nat) (d : D) (len : Nat) : AV → AV
  | .c (.os m sz len') => if m = n then (if len' = len then .c (.d d) else .c .top) else .c (.os m sz len')
  | a => a

theorem wk_freeze {rt : Bool} {σ : Nat → AV} {h : Hp} {n sz : Nat} {l : List D} {cs : List C} (hH : h.H n = some (.arr sz l :: cs)) (hD : cs.all C.isD = true) (h1D : (cs.map C.toD).all D.one = true) :
    Wk rt σ h (fun i => frz n (.sl sz (l ++ cs.map C.toD)) (l.length + cs.length) (σ i)) { h with H := upd h.H n none } := by
  intro Γ a e hΓ hs hw
  have hflat : ∀ {q : List D}, q.all D.one = true → q.flatMap D.cells = q := fun {q} hq => by
    induction q with
    | nil => rfl
    | cons d q ih =>
      simp only [List.all_cons, Bool.and_eq_true] at hq
      rw [List.flatMap_cons, ih hq.2]
      cases d <;> first | rfl | (cases hq.1)
  rcases hw.box n _ hH with ⟨z1, sz', z2, z3⟩ | ⟨b, cur, ty, q1, q2, q3, q4, q5⟩
  · obtain ⟨⟨rfl, rfl⟩, rfl⟩ : (sz = sz' ∧ l = []) ∧ cs = [] := by simpa using z2
    refine ⟨e, rfl, ⟨hs.1, hs.2.1, fun i hi => ?_⟩, hw.dropBox n⟩
    have hr := hs.2.2 i hi
    simp only
    unfold frz
    split
    · rename_i m sz2 len' he
      rw [he] at hr
      split
      · rename_i hmn
        subst hmn
        split
        · rcases hr with ⟨_, o, hv⟩ | ⟨b, cap, k1, _⟩
          · rw [hv]; exact .slnil _ _
          · rw [z1] at k1; cases k1
        · trivial
      · exact hr
    · exact hr
  · obtain ⟨us, ts, zs, cap, j1, j2, j3, j4, j5, j6, j7, j8, j9⟩ := q3
    have hle : e.le { e with S := fun c o => e.S c o ∧ ¬ (c = b ∧ o < (l.length + cs.length) * sz) } := ⟨fun c o x hc hS => ⟨hc, fun h => hS h.1⟩, fun _ _ h => h, fun _ _ h => h⟩
    have hul : us.length = l.length * sz := by rw [j2.length, flat_length j3]
    have htl : ts.length = cs.length := j4.length
    have hdt : ∀ d ∈ cs.map C.toD, d.cells.length = sz := fun d hd => by
      rcases j5 with j5 | j5
      · subst j5; simp at hd
      · have := List.all_eq_true.1 h1D d hd
        rw [j5]
        cases d <;> first | rfl | (cases this)
    have hct : cs.length = cs.length * sz := by
      rcases j5 with j5 | j5
      · subst j5; simp
      · rw [j5, Nat.mul_one]
    have hR : Rn e.w e.S ((l ++ cs.map C.toD).flatMap D.cells) (us ++ ts) := by
      rw [List.flatMap_append]
      refine j2.append ?_
      rw [hflat h1D]; exact RCs.toD hD j4
    have hol : (us ++ ts).length = (l.length + cs.length) * sz := by rw [List.length_append, hul, htl, Nat.add_mul]; omega
    refine ⟨{ e with S := fun c o => e.S c o ∧ ¬ (c = b ∧ o < (l.length + cs.length) * sz) }, rfl, ⟨hs.1, hs.2.1, fun i hi => ?_⟩, ?_⟩
    · have hr := hs.2.2 i hi
      simp only
      unfold frz
      split
      · rename_i m sz2 len' he
        rw [he] at hr
        split
        · rename_i hmn
          subst hmn
          split
          · rename_i hlen
            subst hlen
            rcases hr with ⟨hl0, o, hv⟩ | ⟨b', cap', k1, k2, hv, k4⟩
            · have e1 : l = [] := List.length_eq_zero_iff.1 (by omega)
              have e2 : cs = [] := List.length_eq_zero_iff.1 (by omega)
              subst e1; subst e2
              rw [hv]; exact .slnil _ _
            · rw [q1] at k1; simp at k1; subst k1
              rw [hv]
              have := RD.sl (w := e.w) (S := fun c o => e.S c o ∧ ¬ (c = b ∧ o < (l.length + cs.length) * sz)) sz (l ++ cs.map C.toD) (us ++ ts) b 0 cap' (RD.mono hle.keep hR) (fun j y hy => by
                have hlt : j < (us ++ ts).length := (List.getElem?_eq_some_iff.1 hy).1
                rw [Nat.zero_add]
                refine ⟨?_, fun h => h.2 ⟨rfl, by rw [← hol]; exact hlt⟩⟩
                have : cur.toList[j]? = some y := by rw [j1, List.getElem?_append_left hlt]; exact hy
                simp only [World.cell?, q2]
                simpa using this) (fun d hd' => by
                rcases List.mem_append.1 hd' with hd' | hd'
                · exact j3 d hd'
                · exact hdt d hd') (by simpa using k4)
              simp only [List.length_append, List.length_map] at this
              exact this
          · trivial
        · exact RA.mono hle hr
      · exact RA.mono hle hr
    · have g : ∀ i, upd h.H n none i ≠ none → h.H i ≠ none := fun i hi h0 => hi (by simp [upd, h0])
      have hne : ∀ i c, upd h.H n none i ≠ none → e.ρ i = some c → c ≠ b := fun i c hi hc he => by
        subst he
        have hin : i ≠ n := fun he => by subst he; simp at hi
        exact hin (hw.inj i n c (g i hi) (by rw [hH]; simp) hc q1)
      constructor
      · exact hw.os
      · exact hw.tape
      · exact hw.output
      · exact hw.grown
      · exact hw.hB
      · exact hw.old
      · intro c o hc; exact hw.sdom c o hc.1
      · intro c o h0 hm
        refine ⟨hw.s0 c o h0 hm, fun h' => ?_⟩
        obtain ⟨rfl, _⟩ := h'
        rcases q5 with q5 | q5
        · have := hw.s0B c o h0; omega
        · exact hm q5
      · exact hw.s0B
      · intro m r hm
        have hmn : m ≠ n := fun he => by subst he; simp at hm
        have hmu : upd h.H n none m ≠ none := by simp only at hm; rw [hm]; simp
        simp only [upd, hmn, if_false] at hm
        rcases hw.box m r hm with hz | ⟨b', cs', ty', h1, h2, h3, h4, h5⟩
        · exact .inl hz
        · exact .inr ⟨b', cs', ty', h1, h2, RB.mono hle h3, fun o ho => ⟨h4 o ho, fun h' => hne m b' hmu h1 h'.1⟩, h5⟩
      · intro m m' c hm hm'
        exact hw.inj m m' c (g m hm) (g m' hm')
      · intro k ty' hk
        obtain ⟨h0, v, h1, hor⟩ := hw.tok k ty' hk
        refine ⟨h0, v, h1, hor.imp id ?_⟩
        rintro ⟨s9, m, xs, z1, z2, z3, z4⟩
        exact ⟨s9, m, xs, z1, z2, fun c o hc ho hs' => ⟨z3 c o hc ho hs', fun h' => z4 c hc n (by rw [hH]; simp) (by rw [h'.1]; exact q1)⟩, fun c hc i hi => z4 c hc i (g i hi)⟩
      · exact hw.tokinj
      · intro m hm
        obtain ⟨g1, g2, g3, g4⟩ := hw.fresh m hm
        exact ⟨by simp [upd, g1], g2, g3, g4⟩
      · exact hw.nx0
      · exact hw.rt

end Go.Proofs.Ytgkacglpjmndbaa
