/- What is known may be said otherwise: names anew, less of it. -/
import Derived.Test.YtgkacglpjmndbaaMm
namespace Go.Proofs.Ytgkacglpjmndbaa
open Go.RowKit

/-- Where the one stands for a frame and a world, the other does. -/
def Wk (rt : Bool) (σ : Nat → AV) (h : Hp) (σ' : Nat → AV) (h' : Hp) : Prop :=
  ∀ (Γ : Ctx) (a : Act) (e : Env), Γ.root.isSome = rt → SlotsOk Γ.nt σ a e → WInv Γ h e → ∃ e', e'.w = e.w ∧ e'.S = e.S ∧ SlotsOk Γ.nt σ' a e' ∧ WInv Γ h' e'
theorem Wk.refl (rt : Bool) (σ : Nat → AV) (h : Hp) : Wk rt σ h σ h := fun _ _ e _ hs hw => ⟨e, rfl, rfl, hs, hw⟩

def sigL : List (Nat × AV) → Nat → AV
  | [], _ => .c .top
  | (i, a) :: l, j => if j = i then a else sigL l j
theorem sigL_cons (i : Nat) (a : AV) (l : List (Nat × AV)) (j : Nat) : sigL ((i, a) :: l) j = if j = i then a else sigL l j := rfl
theorem sigL_nil (j : Nat) : sigL [] j = .c .top := rfl

def hpH (bs : List (List C)) (n : Nat) : Option (List C) := if n = 0 then none else bs[n - 1]?
def hpT (nb : Nat) (ts : List TypeId) (n : Nat) : Option TypeId := if n ≤ nb then none else ts[n - nb - 1]?
def hpL (bs : List (List C)) (ts : List TypeId) : Hp := ⟨hpH bs, hpT bs.length ts, bs.length + ts.length + 1⟩

/-- Names anew: ps, qs: which box, which token (0: none) each one was. -/
structure Ren where
  ps : List Nat
  qs : List Nat
def Ren.p (r : Ren) (n : Nat) : Nat := r.ps.getD (n - 1) 0
def Ren.q (r : Ren) (n : Nat) : Nat := r.qs.getD (n - r.ps.length - 1) 0

def CWk (r : Ren) : C → C → Prop
  | _, .top => True
  | .d x, .d y => x = y
  | .sl sz l k, .sl sz' l' k' => l = l' ∧ (sz = sz' ∨ l = []) ∧ (k = 0 ∨ (r.q k' = k ∧ r.ps.length < k' ∧ k' ≤ r.ps.length + r.qs.length))
  | .sl sz l _, .d (.sl sz' l') => l = l' ∧ (sz = sz' ∨ l = [])
  | .ex v d, .ex v' d' => v = v' ∧ d = d'
  | .ex _ (.sl sz l), .d (.sl sz' l') => l = l' ∧ (sz = sz' ∨ l = [])
  | .pt n o, .pt n' o' => r.p n' = n ∧ o = o' ∧ 0 < n' ∧ n' ≤ r.ps.length
  | .pp l, .pp l' => l = l'
  | _, _ => False
def CsWk (r : Ren) : List C → List C → Prop
  | [], [] => True
  | x :: l, y :: m => CWk r x y ∧ CsWk r l m
  | _, _ => False
def AWk (r : Ren) : AV → AV → Prop
  | _, .c .top => True
  | .c (.d (.ag l)), .ag m => CsWk r (l.map .d) m
  | .c x, .c y => CWk r x y
  | .ag l, .ag m => CsWk r l m
  | _, _ => False
def LWk (r : Ren) (σ : Nat → AV) : List (Nat × AV) → Prop
  | [] => True
  | (i, a) :: l => AWk r (σ i) a ∧ LWk r σ l
def BWk1 (r : Ren) : Option (List C) → List C → Prop
  | some row, row' => CsWk r row row'
  | none, _ => False
def BWk (r : Ren) (h : Hp) : Nat → List (List C) → Prop
  | _, [] => True
  | n, row :: bs => BWk1 r (h.H (r.p n)) row ∧ BWk r h (n + 1) bs
def TWk (r : Ren) (h : Hp) : Nat → List TypeId → Prop
  | _, [] => True
  | n, ty :: ts => (r.q n = 0 ∨ h.T (r.q n) = some ty) ∧ TWk r h (n + 1) ts

def renE (r : Ren) (e : Env) : Env :=
  ⟨e.w, e.S, fun n => if 0 < n ∧ n ≤ r.ps.length then e.ρ (r.p n) else none,
   fun n => if r.ps.length < n ∧ n ≤ r.ps.length + r.qs.length then (if r.q n = 0 then some (.slice none 0 0) else e.τ (r.q n)) else none⟩

theorem R1.resize' {w : World} {S : Nat → Nat → Prop} {sz sz' : Nat} {l l' : List D} {v : Value} (h : R1 w S (.sl sz l) v) (he : l = l') (hl : sz = sz' ∨ l = []) : R1 w S (.sl sz' l') v := by
  subst he; exact h.resize hl.symm

theorem CWk.rc {r : Ren} {e : Env} : ∀ {c c' : C} {v : Value}, CWk r c c' → RC e c v → RC (renE r e) c' v
  | _, .top, _, _, _ => trivial
  | .d x, .d y, v, h, k => by cases h; exact k
  | .sl sz l k, .sl sz' l' k', v, ⟨h1, h2, h3⟩, ⟨k1, k2⟩ => by
    refine ⟨k1.resize' h1 h2, ?_⟩
    rcases k2 with k2 | ⟨k2, k3⟩
    · exact .inl k2
    · rcases h3 with h3 | ⟨h3, h4, h5⟩
      · exact absurd h3 k2
      · refine .inr ⟨by omega, ?_⟩
        simp only [renE, h4, h5, and_self, if_true]
        rw [h3, if_neg k2]; exact k3
  | .sl sz l _, .d (.sl sz' l'), v, ⟨h1, h2⟩, ⟨k1, _⟩ => k1.resize' h1 h2
  | .ex _ _, .ex _ _, v, ⟨h1, h2⟩, k => by subst h1; subst h2; exact k
  | .pt n o, .pt n' o', v, ⟨h1, h2, h3, h4⟩, ⟨b, k1, k2⟩ => by
    subst h2
    refine ⟨b, ?_, k2⟩
    simp only [renE, h3, h4, and_self, if_true]
    rw [h1]; exact k1
  | .pp l, .pp l', v, h, k => by cases h; exact k
  | .d _, .sl _ _ _, _, h, _ => h.elim
  | .d _, .ex _ _, _, h, _ => h.elim
  | .d _, .pt _ _, _, h, _ => h.elim
  | .d _, .pp _, _, h, _ => h.elim
  | .sl _ _ _, .d (.v _), _, h, _ => h.elim
  | .sl _ _ _, .d (.ag _), _, h, _ => h.elim
  | .sl _ _ _, .d (.tu _), _, h, _ => h.elim
  | .sl _ _ _, .ex _ _, _, h, _ => h.elim
  | .sl _ _ _, .pt _ _, _, h, _ => h.elim
  | .sl _ _ _, .pp _, _, h, _ => h.elim
  | .ex _ (.sl sz l), .d (.sl sz' l'), _, ⟨h1, h2⟩, ⟨_, k⟩ => k.resize' h1 h2
  | .ex _ (.v _), .d _, _, h, _ => h.elim
  | .ex _ (.ag _), .d _, _, h, _ => h.elim
  | .ex _ (.tu _), .d _, _, h, _ => h.elim
  | .ex _ (.sl _ _), .d (.v _), _, h, _ => h.elim
  | .ex _ (.sl _ _), .d (.ag _), _, h, _ => h.elim
  | .ex _ (.sl _ _), .d (.tu _), _, h, _ => h.elim
  | .ex _ _, .sl _ _ _, _, h, _ => h.elim
  | .ex _ _, .pt _ _, _, h, _ => h.elim
  | .ex _ _, .pp _, _, h, _ => h.elim
  | .pt _ _, .d _, _, h, _ => h.elim
  | .pt _ _, .sl _ _ _, _, h, _ => h.elim
  | .pt _ _, .ex _ _, _, h, _ => h.elim
  | .pt _ _, .pp _, _, h, _ => h.elim
  | .pp _, .d _, _, h, _ => h.elim
  | .pp _, .sl _ _ _, _, h, _ => h.elim
  | .pp _, .ex _ _, _, h, _ => h.elim
  | .pp _, .pt _ _, _, h, _ => h.elim
  | .top, .d _, _, h, _ => h.elim
  | .top, .sl _ _ _, _, h, _ => h.elim
  | .top, .ex _ _, _, h, _ => h.elim
  | .top, .pt _ _, _, h, _ => h.elim
  | .top, .pp _, _, h, _ => h.elim

theorem CsWk.rcs {r : Ren} {e : Env} : ∀ {l l' : List C} {vs : List Value}, CsWk r l l' → RCs e l vs → RCs (renE r e) l' vs
  | [], [], [], _, _ => trivial
  | _ :: _, _ :: _, _ :: _, ⟨h1, h2⟩, ⟨k1, k2⟩ => ⟨CWk.rc h1 k1, CsWk.rcs h2 k2⟩
  | [], [], _ :: _, _, h => h.elim
  | _ :: _, _ :: _, [], _, h => h.elim
  | [], _ :: _, _, h, _ => h.elim
  | _ :: _, [], _, h, _ => h.elim

theorem AWk.ra {r : Ren} {e : Env} {a a' : AV} {v : Value} (h : AWk r a a') (k : RA e a v) : RA (renE r e) a' v := by
  unfold AWk at h
  split at h
  · trivial
  · obtain ⟨vs, rfl, k2⟩ := R1.agInv k
    exact ⟨vs, rfl, CsWk.rcs h (RCs.ofD k2)⟩
  · exact CWk.rc h k
  · obtain ⟨vs, rfl, k2⟩ := k
    exact ⟨vs, rfl, CsWk.rcs h k2⟩
  · exact h.elim

theorem LWk.at {r : Ren} {σ : Nat → AV} : ∀ {L : List (Nat × AV)}, LWk r σ L → ∀ i, AWk r (σ i) (sigL L i)
  | [], _, i => by simp [sigL, AWk]
  | (j, a) :: L, ⟨h1, h2⟩, i => by
    simp only [sigL]
    split
    · rename_i h; subst h; exact h1
    · exact LWk.at h2 i

theorem BWk.at {r : Ren} {h : Hp} : ∀ {bs : List (List C)} {n : Nat}, BWk r h n bs → ∀ (j : Nat) (row : List C), bs[j]? = some row → ∃ row0, h.H (r.p (n + j)) = some row0 ∧ CsWk r row0 row
  | [], _, _, j, row, hj => by simp at hj
  | b :: bs, n, ⟨h1, h2⟩, j, row, hj => by
    cases j with
    | zero =>
      simp at hj; subst hj
      cases hr : h.H (r.p n) with
      | none => rw [hr] at h1; exact h1.elim
      | some row0 => rw [hr] at h1; exact ⟨row0, by first | rfl | exact hr, h1⟩
    | succ j =>
      have := BWk.at h2 j row (by simpa using hj)
      rwa [show n + 1 + j = n + (j + 1) by omega] at this

theorem TWk.at {r : Ren} {h : Hp} : ∀ {ts : List TypeId} {n : Nat}, TWk r h n ts → ∀ (j : Nat) (ty : TypeId), ts[j]? = some ty → r.q (n + j) = 0 ∨ h.T (r.q (n + j)) = some ty
  | [], _, _, j, row, hj => by simp at hj
  | b :: bs, n, ⟨h1, h2⟩, j, row, hj => by
    cases j with
    | zero => simp at hj; subst hj; exact h1
    | succ j =>
      have := TWk.at h2 j row (by simpa using hj)
      rwa [show n + 1 + j = n + (j + 1) by omega] at this

/-- All that is not 0 stands there once. -/
def once : List Nat → Bool
  | [] => true
  | n :: l => (n == 0 || !l.contains n) && once l
theorem once_inj : ∀ {l : List Nat}, once l = true → ∀ {i j : Nat}, l.getD i 0 = l.getD j 0 → l.getD i 0 ≠ 0 → i = j
  | [], _, i, j, _, h => by simp at h
  | n :: l, h, i, j, he, hn => by
    simp only [once, Bool.and_eq_true, Bool.or_eq_true, beq_iff_eq, Bool.not_eq_true', List.contains_eq_mem, decide_eq_false_iff_not] at h
    have mem : ∀ k, l.getD k 0 ≠ 0 → l.getD k 0 ∈ l := fun k hk => by
      by_cases hkl : k < l.length
      · simp only [List.getD_eq_getElem?_getD, List.getElem?_eq_getElem hkl, Option.getD_some]; exact List.getElem_mem _
      · rw [List.getD_eq_getElem?_getD, List.getElem?_eq_none (by omega)] at hk; simp at hk
    cases i with
    | zero =>
      cases j with
      | zero => rfl
      | succ j =>
        simp only [List.getD_cons_zero, List.getD_cons_succ] at he hn
        exact absurd (he ▸ mem j (he ▸ hn)) (h.1.resolve_left hn)
    | succ i =>
      cases j with
      | zero =>
        simp only [List.getD_cons_zero, List.getD_cons_succ] at he hn
        exact absurd (he ▸ mem i hn) (h.1.resolve_left (he ▸ hn))
      | succ j =>
        simp only [List.getD_cons_succ] at he hn
        rw [once_inj h.2 he hn]

theorem wk_ren {rt : Bool} {σ : Nat → AV} {h : Hp} {L : List (Nat × AV)} {bs : List (List C)} {ts : List TypeId} (r : Ren) (hb : bs.length = r.ps.length) (ht : ts.length = r.qs.length)
    (hp : once r.ps = true) (hp0 : r.ps.all (· != 0) = true) (hq : once r.qs = true) (h1 : BWk r h 1 bs) (h2 : TWk r h (r.ps.length + 1) ts) (h3 : LWk r σ L) (hrt : (!rt || r.ps.head? == some 1) = true) : Wk rt σ h (sigL L) (hpL bs ts) := by
  intro Γ a e hΓ hs hw
  refine ⟨renE r e, rfl, rfl, ⟨hs.1, hs.2.1, fun i hi => (h3.at i).ra (hs.2.2 i hi)⟩, ?_⟩
  have boxIn : ∀ n row, (hpL bs ts).H n = some row → 0 < n ∧ n ≤ r.ps.length ∧ ∃ row0, h.H (r.p n) = some row0 ∧ CsWk r row0 row := fun n row hn => by
    simp only [hpL, hpH] at hn
    split at hn
    · cases hn
    · have hlt := (List.getElem?_eq_some_iff.1 hn).1
      obtain ⟨row0, g1, g2⟩ := h1.at (n - 1) row hn
      rw [show 1 + (n - 1) = n by omega] at g1
      exact ⟨by omega, by omega, row0, g1, g2⟩
  have tokIn : ∀ n ty, (hpL bs ts).T n = some ty → r.ps.length < n ∧ n ≤ r.ps.length + r.qs.length ∧ (r.q n = 0 ∨ h.T (r.q n) = some ty) := fun n ty hn => by
    simp only [hpL, hpT] at hn
    split at hn
    · cases hn
    · have hlt := (List.getElem?_eq_some_iff.1 hn).1
      have := h2.at (n - bs.length - 1) ty hn
      rw [show r.ps.length + 1 + (n - bs.length - 1) = n by omega] at this
      exact ⟨by omega, by omega, this⟩
  have boxNe : ∀ n, (hpL bs ts).H n ≠ none → 0 < n ∧ n ≤ r.ps.length ∧ h.H (r.p n) ≠ none := fun n hn => by
    obtain ⟨row, hr⟩ := Option.ne_none_iff_exists'.1 hn
    obtain ⟨g1, g2, row0, g3, _⟩ := boxIn n row hr
    exact ⟨g1, g2, by rw [g3]; simp⟩
  have tokNe : ∀ n, (hpL bs ts).T n ≠ none → r.ps.length < n ∧ n ≤ r.ps.length + r.qs.length ∧ (r.q n = 0 ∨ h.T (r.q n) ≠ none) := fun n hn => by
    obtain ⟨ty, hr⟩ := Option.ne_none_iff_exists'.1 hn
    obtain ⟨g1, g2, g3⟩ := tokIn n ty hr
    exact ⟨g1, g2, g3.imp id fun h => by rw [h]; simp⟩
  have hρ : ∀ n, 0 < n → n ≤ r.ps.length → (renE r e).ρ n = e.ρ (r.p n) := fun n g1 g2 => by simp [renE, g1, g2]
  have hτ0 : ∀ n, r.ps.length < n → n ≤ r.ps.length + r.qs.length → r.q n = 0 → (renE r e).τ n = some (.slice none 0 0) := fun n g1 g2 g3 => by simp [renE, g1, g2, g3]
  have hτ : ∀ n, r.ps.length < n → n ≤ r.ps.length + r.qs.length → r.q n ≠ 0 → (renE r e).τ n = e.τ (r.q n) := fun n g1 g2 g3 => by simp [renE, g1, g2, g3]
  constructor
  · exact hw.os
  · exact hw.tape
  · exact hw.output
  · exact hw.grown
  · exact hw.hB
  · exact hw.old
  · exact hw.sdom
  · exact hw.s0
  · exact hw.s0B
  · intro n row hn
    obtain ⟨g1, g2, row0, g3, g4⟩ := boxIn n row hn
    obtain ⟨b, cs, ty, q1, q2, q3, q4, q5⟩ := hw.box _ row0 g3
    exact ⟨b, cs, ty, by rw [hρ n g1 g2]; exact q1, q2, CsWk.rcs g4 q3, q4, q5⟩
  · intro n m b hn hm hnb hmb
    obtain ⟨g1, g2, g3⟩ := boxNe n hn
    obtain ⟨k1, k2, k3⟩ := boxNe m hm
    rw [hρ n g1 g2] at hnb
    rw [hρ m k1 k2] at hmb
    have := hw.inj _ _ b g3 k3 hnb hmb
    have hne : r.ps.getD (n - 1) 0 ≠ 0 := by
      have : n - 1 < r.ps.length := by omega
      simp only [List.getD_eq_getElem?_getD, List.getElem?_eq_getElem this, Option.getD_some]
      have := List.all_eq_true.1 hp0 _ (List.getElem_mem this)
      simpa using this
    have := once_inj hp this hne
    omega
  · intro k ty hk
    obtain ⟨g1, g2, g3⟩ := tokIn k ty hk
    refine ⟨by omega, ?_⟩
    by_cases hq0 : r.q k = 0
    · exact ⟨_, hτ0 k g1 g2 hq0, .inl ⟨none, 0, rfl⟩⟩
    · have g3 := g3.resolve_left hq0
      obtain ⟨_, v, q1, q2⟩ := hw.tok _ ty g3
      refine ⟨v, by rw [hτ k g1 g2 hq0]; exact q1, q2.imp id ?_⟩
      rintro ⟨sz, n, xs, z1, z2, z3, z4⟩
      refine ⟨sz, n, xs, z1, z2, z3, fun b hb m hm => ?_⟩
      obtain ⟨k1, k2, k3⟩ := boxNe m hm
      rw [hρ m k1 k2]
      exact z4 b hb _ k3
  · intro k m v u b hk hm hv hu hvb hub hfv hfu
    obtain ⟨g1, g2, g3⟩ := tokNe k hk
    obtain ⟨k1, k2, k3⟩ := tokNe m hm
    have e1 : r.q k ≠ 0 := fun h0 => by
      rw [hτ0 k g1 g2 h0] at hv
      simp at hv; subst hv
      exact hfv ⟨none, 0, rfl⟩
    have e2 : r.q m ≠ 0 := fun h0 => by
      rw [hτ0 m k1 k2 h0] at hu
      simp at hu; subst hu
      exact hfu ⟨none, 0, rfl⟩
    rw [hτ k g1 g2 e1] at hv
    rw [hτ m k1 k2 e2] at hu
    have := hw.tokinj _ _ v u b (g3.resolve_left e1) (k3.resolve_left e2) hv hu hvb hub hfv hfu
    have := once_inj hq this e1
    omega
  · intro n hn
    have hn : bs.length + ts.length + 1 ≤ n := hn
    have b1 : ¬ n ≤ bs.length := by omega
    have b2 : ¬ n = 0 := by omega
    have b3 : ¬ (0 < n ∧ n ≤ r.ps.length) := by omega
    have b4 : ¬ (r.ps.length < n ∧ n ≤ r.ps.length + r.qs.length) := by omega
    refine ⟨?_, ?_, ?_, ?_⟩
    · simp only [hpL, hpH, b2, if_false]; exact List.getElem?_eq_none (by omega)
    · simp only [hpL, hpT, b1, if_false]; exact List.getElem?_eq_none (by omega)
    · simp only [renE, b3, if_false]
    · simp only [renE, b4, if_false]
  · exact Nat.succ_pos _
  · intro b hb
    rw [hb] at hΓ
    simp only [Option.isSome_some] at hΓ
    subst hΓ
    simp only [Bool.not_true, Bool.false_or, beq_iff_eq] at hrt
    have hlen : 1 ≤ r.ps.length := by cases hps : r.ps with | nil => rw [hps] at hrt; cases hrt | cons _ _ => simp
    rw [hρ 1 (Nat.le_refl 1) hlen]
    have hp1 : r.p 1 = 1 := by
      unfold Ren.p
      cases hps : r.ps with
      | nil => rw [hps] at hrt; cases hrt
      | cons a l => rw [hps] at hrt; simp at hrt; simp [hrt]
    rw [hp1]
    exact hw.rt b hb

end Go.Proofs.Ytgkacglpjmndbaa
