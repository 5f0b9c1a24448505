/- How code is walked: one region after the other, what follows behind a name. -/
import Derived.Test.YtgkacglpjmndbaaMn
namespace Go.Proofs.Ytgkacglpjmndbaa
open Go.RowKit

/-- A region's operations, without what is not needed. -/
structure RO where
  dst : Option Tmp
  op : Op
  g : Option (Tmp × Bool)

def roOf (ops : Array Oper) (o : Oper) : RO := ⟨o.dst, o.op, match o.guard with | none => none | some (j, want) => match guardSlot ops j with | none => none | some d => some (d, want)⟩

def guardsOk (ops : Array Oper) (o : Oper) : Bool := match o.guard with | none => true | some (j, _) => (guardSlot ops j).isSome

def boolA (p : Bool) : AV := .c (.d (.v (.bool p)))

/-- Where a guard is not known it splits, and is known. -/
def aGd (σ : Nat → AV) (g : Option (Tmp × Bool)) (run skip : (Nat → AV) → Prop) : Prop :=
  match g with
  | none => run σ
  | some (d, want) => match σ d with
    | .c (.d (.v (.bool p))) => (p = want → run (upd σ d (boolA want))) ∧ (p = !want → skip (upd σ d (boolA !want)))
    | .c (.d (.v (.tuple _))) => skip σ
    | _ => False

def aRO (t : Tab) (K : (Nat → AV) → Hp → Prop) : List RO → (Nat → AV) → Hp → Prop
  | [], σ, h => K σ h
  | o :: l, σ, h => aGd σ o.g (fun σ => (aop t.P t.Φ t.Ψ o.op σ h).pre ∧ aRO t K l (putA σ o.dst (aop t.P t.Φ t.Ψ o.op σ h).val) (aop t.P t.Φ t.Ψ o.op σ h).h) (fun σ => aRO t K l (putA σ o.dst undefA) h)

theorem upd_self {σ : Nat → AV} {d : Nat} {p q : Bool} (h : σ d = .c (.d (.v (.bool p)))) (hp : p = q) : upd σ d (boolA q) = σ := by
  funext i
  by_cases hi : i = d
  · subst hi; simp [upd, boolA, h, hp]
  · simp [upd, hi]

theorem aOps_of_RO {t : Tab} {ops : Array Oper} {K : (Nat → AV) → Hp → Prop} : ∀ (l : List Oper) (σ : Nat → AV) (h : Hp), (l.all (guardsOk ops)) = true → aRO t K (l.map (roOf ops)) σ h → aOps t ops K l σ h
  | [], _, _, _, hh => hh
  | o :: l, σ, h, hg, hh => by
    simp only [List.all_cons, Bool.and_eq_true] at hg
    simp only [List.map_cons, aRO] at hh
    simp only [aOps, aOp]
    have ih := fun σ h => aOps_of_RO (K := K) (t := t) (ops := ops) l σ h hg.2
    have h1 := hg.1
    unfold guardsOk at h1
    unfold aGd roOf at hh
    unfold aGuard
    split
    · rename_i hgd; rw [hgd] at hh; exact ⟨hh.1, ih _ _ hh.2⟩
    · rename_i j want hgd
      rw [hgd] at hh h1
      simp only at hh h1
      split
      · rename_i hs; rw [hs] at h1; cases h1
      · rename_i d hs
        rw [hs] at hh
        simp only at hh
        split
        · rename_i p hp
          rw [hp] at hh
          refine ⟨fun x => ?_, fun x => ?_⟩
          · have := hh.1 x
            rw [upd_self hp x] at this
            exact ⟨this.1, ih _ _ this.2⟩
          · have := hh.2 x
            rw [upd_self hp x] at this
            exact ih _ _ this
        · rename_i hp; rw [hp] at hh; exact ih _ _ hh
        · rename_i h2 h3
          split at hh
          · rename_i p hp; exact (h2 _ hp).elim
          · rename_i vs hp; exact (h3 _ hp).elim
          · exact hh.elim

/-! The same, one operation after the other: rules without functions in them, so that nothing is reckoned ahead of its time. -/
def aStep (r : AR) (t : Tab) (K : (Nat → AV) → Hp → Prop) (dst : Option Tmp) (l : List RO) (σ : Nat → AV) : Prop := r.pre ∧ aRO t K l (putA σ dst r.val) r.h
def aGdS (v : AV) (d : Tmp) (w : Bool) (t : Tab) (K : (Nat → AV) → Hp → Prop) (dst : Option Tmp) (op : Op) (l : List RO) (σ : Nat → AV) (h : Hp) : Prop :=
  match v with
  | .c (.d (.v (.bool p))) => (p = w → aStep (aop t.P t.Φ t.Ψ op (upd σ d (boolA w)) h) t K dst l (upd σ d (boolA w))) ∧ (p = !w → aRO t K l (putA (upd σ d (boolA !w)) dst undefA) h)
  | .c (.d (.v (.tuple _))) => aRO t K l (putA σ dst undefA) h
  | _ => False
theorem aRO_nil (t : Tab) (K : (Nat → AV) → Hp → Prop) (σ : Nat → AV) (h : Hp) : aRO t K [] σ h = K σ h := rfl
theorem aRO_none (t : Tab) (K : (Nat → AV) → Hp → Prop) (dst : Option Tmp) (op : Op) (l : List RO) (σ : Nat → AV) (h : Hp) : aRO t K (⟨dst, op, none⟩ :: l) σ h = aStep (aop t.P t.Φ t.Ψ op σ h) t K dst l σ := rfl
theorem aRO_some (t : Tab) (K : (Nat → AV) → Hp → Prop) (dst : Option Tmp) (op : Op) (d : Tmp) (w : Bool) (l : List RO) (σ : Nat → AV) (h : Hp) : aRO t K (⟨dst, op, some (d, w)⟩ :: l) σ h = aGdS (σ d) d w t K dst op l σ h := rfl
theorem aStep_mk (p : Prop) (v : AV) (h : Hp) (t : Tab) (K : (Nat → AV) → Hp → Prop) (dst : Option Tmp) (l : List RO) (σ : Nat → AV) : aStep ⟨p, v, h⟩ t K dst l σ = (p ∧ aRO t K l (putA σ dst v) h) := rfl
theorem aGdS_bool (p : Bool) (d : Tmp) (w : Bool) (t : Tab) (K : (Nat → AV) → Hp → Prop) (dst : Option Tmp) (op : Op) (l : List RO) (σ : Nat → AV) (h : Hp) :
    aGdS (.c (.d (.v (.bool p)))) d w t K dst op l σ h = if p = w then aStep (aop t.P t.Φ t.Ψ op (upd σ d (boolA w)) h) t K dst l (upd σ d (boolA w)) else aRO t K l (putA (upd σ d (boolA !w)) dst undefA) h := by
  cases p <;> cases w <;> simp [aGdS]
theorem ite_intro {c : Prop} [Decidable c] {a b : Prop} (h1 : c → a) (h2 : ¬ c → b) : if c then a else b := by
  split
  · exact h1 (by assumption)
  · exact h2 (by assumption)
theorem aGdS_tup (vs : Array Value) (d : Tmp) (w : Bool) (t : Tab) (K : (Nat → AV) → Hp → Prop) (dst : Option Tmp) (op : Op) (l : List RO) (σ : Nat → AV) (h : Hp) :
    aGdS (.c (.d (.v (.tuple vs)))) d w t K dst op l σ h = aRO t K l (putA σ dst undefA) h := rfl

theorem aGdS_undef (d : Tmp) (w : Bool) (t : Tab) (K : (Nat → AV) → Hp → Prop) (dst : Option Tmp) (op : Op) (l : List RO) (σ : Nat → AV) (h : Hp) :
    aGdS (.c (.d (.v undef))) d w t K dst op l σ h = aRO t K l (putA σ dst undefA) h := rfl

/-! The rules of a walk: what follows stands behind a name. -/
def Then (t : Tab) (b : Code) (Q : APost) : APost := fun ex σ h => match ex with | .normal => ∃ σ2 h2, Wk t.rt σ h σ2 h2 ∧ Given h2.Good (aC t b σ2 h2 Q) | ex => Q ex σ h
def InBlock (id : Nat) (Q : APost) : APost := fun ex σ h => match ex with | .exit j => if j = id then Q .normal σ h else Q (.exit j) σ h | ex => Q ex σ h
def Round (rt : Bool) (n : Nat) (I : Nat → (Nat → AV) → Hp → Prop) (Q : APost) : APost := fun ex σ h => match ex with | .normal => ∃ m σ3 h3, m < n ∧ Wk rt σ h σ3 h3 ∧ I m σ3 h3 | ex => Q ex σ h
def Cut (rt : Bool) (R : (Nat → AV) → Hp → Prop) (Q : APost) : APost := fun ex σ h => match ex with | .normal => ∃ σ2 h2, Wk rt σ h σ2 h2 ∧ R σ2 h2 | ex => Q ex σ h

variable {t : Tab} {σ : Nat → AV} {h : Hp} {Q : APost}

theorem w_seq {a b : Code} (hh : aC t a σ h (Then t b Q)) : aC t (.seq a b) σ h Q := hh
theorem w_skip (hh : Q .normal σ h) : aC t .skip σ h Q := hh
theorem w_ret (hh : Q .ret σ h) : aC t .ret σ h Q := hh
theorem w_exit {id : Nat} (hh : Q (.exit id) σ h) : aC t (.exit id) σ h Q := hh
theorem w_block {id : Nat} {b : Code} (hh : aC t b σ h (InBlock id Q)) : aC t (.block id b) σ h Q := hh
theorem w_condT {c : Operand} {x y : Code} (hc : evA σ c = .c (.d (.v (.bool true)))) (hx : aC t x σ h Q) : aC t (.cond c x y) σ h Q := by
  simp only [aC, hc]; exact ⟨fun _ => hx, fun h => by cases h⟩
theorem w_condF {c : Operand} {x y : Code} (hc : evA σ c = .c (.d (.v (.bool false)))) (hx : aC t y σ h Q) : aC t (.cond c x y) σ h Q := by
  simp [aC, hc]; exact hx
theorem w_region {id : Nat} {ops : Array Oper} {draw : Bool} (hg : (ops.toList.all (guardsOk ops)) = true) (hh : ∀ K : (Nat → AV) → Hp → Prop, (∀ σ h, Q .normal σ h → K σ h) → aRO t K (ops.toList.map (roOf ops)) σ h) : aC t (.region id ops draw) σ h Q :=
  aOps_of_RO _ _ _ hg (hh _ fun _ _ x => x)
theorem then_normal {b : Code} (hh : aC t b σ h Q) : Then t b Q .normal σ h := ⟨σ, h, Wk.refl _ _ _, ⟨fun _ => hh⟩⟩
theorem then_ret {b : Code} (hh : Q .ret σ h) : Then t b Q .ret σ h := hh
theorem then_exit {b : Code} {i : Nat} (hh : Q (.exit i) σ h) : Then t b Q (.exit i) σ h := hh
theorem block_normal {id : Nat} (hh : Q .normal σ h) : InBlock id Q .normal σ h := hh
theorem block_ret {id : Nat} (hh : Q .ret σ h) : InBlock id Q .ret σ h := hh
theorem block_exit {id : Nat} (hh : Q .normal σ h) : InBlock id Q (.exit id) σ h := by simp only [InBlock, if_true]; exact hh
theorem block_other {id j : Nat} (hne : (j == id) = false) (hh : Q (.exit j) σ h) : InBlock id Q (.exit j) σ h := by
  have : j ≠ id := by simpa using hne
  simp only [InBlock, this, if_false]; exact hh
theorem round_ret {rt : Bool} {n : Nat} {I : Nat → (Nat → AV) → Hp → Prop} (hh : Q .ret σ h) : Round rt n I Q .ret σ h := hh
theorem round_exit {rt : Bool} {n i : Nat} {I : Nat → (Nat → AV) → Hp → Prop} (hh : Q (.exit i) σ h) : Round rt n I Q (.exit i) σ h := hh
theorem cut_ret {rt : Bool} {R : (Nat → AV) → Hp → Prop} (hh : Q .ret σ h) : Cut rt R Q .ret σ h := hh
theorem cut_exit {rt : Bool} {R : (Nat → AV) → Hp → Prop} {i : Nat} (hh : Q (.exit i) σ h) : Cut rt R Q (.exit i) σ h := hh

theorem aC_mono {t : Tab} : ∀ (c : Code) (σ : Nat → AV) (h : Hp) (Q Q' : APost), (∀ ex σ h, Q ex σ h → Q' ex σ h) → aC t c σ h Q → aC t c σ h Q'
  | .skip, σ, h, Q, Q', hQ, hh => hQ _ _ _ hh
  | .region id ops draw, σ, h, Q, Q', hQ, hh => aOps_mono (fun σ h hk => hQ _ _ _ hk) hh
  | .seq a b, σ, h, Q, Q', hQ, hh => by
    refine aC_mono a σ h _ _ (fun ex σ h hk => ?_) hh
    cases ex with
    | normal =>
      obtain ⟨σ2, h2, hwk, hk⟩ := hk
      exact ⟨σ2, h2, hwk, ⟨fun hg => aC_mono b σ2 h2 Q Q' hQ (hk.get hg)⟩⟩
    | exit id => exact hQ _ _ _ hk
    | goto l => exact hQ _ _ _ hk
    | ret => exact hQ _ _ _ hk
    | panic ch => exact hQ _ _ _ hk
    | outgrown => exact hQ _ _ _ hk
  | .cond c x y, σ, h, Q, Q', hQ, hh => by
    simp only [aC] at hh ⊢
    split at hh
    · exact ⟨fun p => aC_mono x σ h Q Q' hQ (hh.1 p), fun p => aC_mono y σ h Q Q' hQ (hh.2 p)⟩
    · exact hh
  | .block id b, σ, h, Q, Q', hQ, hh => by
    refine aC_mono b σ h _ _ (fun ex σ h hk => ?_) hh
    cases ex with
    | normal => exact hQ _ _ _ hk
    | exit j =>
      simp only at hk ⊢
      split
      · rename_i hj; rw [if_pos hj] at hk; exact hQ _ _ _ hk
      · rename_i hj; rw [if_neg hj] at hk; exact hQ _ _ _ hk
    | goto l => exact hQ _ _ _ hk
    | ret => exact hQ _ _ _ hk
    | panic ch => exact hQ _ _ _ hk
    | outgrown => exact hQ _ _ _ hk
  | .loop b, σ, h, Q, Q', hQ, hh => by
    obtain ⟨I, h0, hr⟩ := hh
    refine ⟨I, h0, fun n σ' h' hI hg => aC_mono b σ' h' _ _ (fun ex σ h hk => ?_) (hr n σ' h' hI hg)⟩
    cases ex with
    | normal => exact hk
    | exit id => exact hQ _ _ _ hk
    | goto l => exact hQ _ _ _ hk
    | ret => exact hQ _ _ _ hk
    | panic ch => exact hQ _ _ _ hk
    | outgrown => exact hQ _ _ _ hk
  | .exit id, σ, h, Q, Q', hQ, hh => hQ _ _ _ hh
  | .ret, σ, h, Q, Q', hQ, hh => hQ _ _ _ hh
  | .rangeFunc _ _ _ _, _, _, _, _, _, hh => hh.elim
  | .scope _, _, _, _, _, _, hh => hh.elim
  | .label _, _, _, _, _, _, hh => hh.elim
  | .goto _, _, _, _, _, _, hh => hh.elim
  | .refuse _, _, _, _, _, _, hh => hh.elim


theorem w_cutG {a b : Code} (R : (Nat → AV) → Hp → Prop) (ha : aC t a σ h (Cut t.rt R Q)) (hb : ∀ σ h, R σ h → aC t b σ h Q) : aC t (.seq a b) σ h Q := by
  refine aC_mono a σ h _ _ (fun ex σ h hk => ?_) ha
  cases ex with
  | normal =>
    obtain ⟨σ2, h2, hwk, hR⟩ := hk
    exact ⟨σ2, h2, hwk, ⟨fun _ => hb σ2 h2 hR⟩⟩
  | exit id => exact hk
  | goto l => exact hk
  | ret => exact hk
  | panic ch => exact hk
  | outgrown => exact hk

/-- A cut where ways meet: a function of data goes on from there. -/
def At {S R : Type} (J : S → Option R) (L : S → List (Nat × AV)) (B : S → List (List C)) (ts : List TypeId) (out : R) (σ : Nat → AV) (h : Hp) : Prop :=
  ∃ s, σ = sigL (L s) ∧ h = hpL (B s) ts ∧ J s = some out
theorem w_cut {S R : Type} {a b : Code} (J : S → Option R) (L : S → List (Nat × AV)) (B : S → List (List C)) (ts : List TypeId) (out : R)
    (ha : aC t a σ h (Cut t.rt (At J L B ts out) Q)) (hb : ∀ s, J s = some out → aC t b (sigL (L s)) (hpL (B s) ts) Q) : aC t (.seq a b) σ h Q :=
  w_cutG _ ha (by rintro σ h ⟨s, rfl, rfl, hJ⟩; exact hb s hJ)
theorem cut_at {rt : Bool} {S R : Type} {J : S → Option R} {L : S → List (Nat × AV)} {B : S → List (List C)} {ts : List TypeId} {out : R} {s : S} (hJ : J s = some out)
    (hwk : Wk rt σ h (sigL (L s)) (hpL (B s) ts)) : Cut rt (At J L B ts out) Q .normal σ h := ⟨_, _, hwk, s, rfl, rfl, hJ⟩

/-! ### Loops of data -/
section
variable {S R : Type}
inductive Itn (b : S → Option (S ⊕ R)) : Nat → S → R → Prop
  | done {s : S} {r : R} : b s = some (.inr r) → Itn b 0 s r
  | step {n : Nat} {s s' : S} {r : R} : b s = some (.inl s') → Itn b n s' r → Itn b (n + 1) s r

theorem Itn.det {b : S → Option (S ⊕ R)} {n m : Nat} {s : S} {r r' : R} (h : Itn b n s r) (k : Itn b m s r') : r = r' := by
  induction h generalizing m with
  | done h =>
    cases k with
    | done k => rw [h] at k; simpa using k
    | step k _ => rw [h] at k; simp at k
  | step h _ ih =>
    cases k with
    | done k => rw [h] at k; simp at k
    | step k k2 => rw [h] at k; simp at k; subst k; exact ih k2

open Classical in
noncomputable def loopO (b : S → Option (S ⊕ R)) (s : S) : Option R := if h : ∃ r n, Itn b n s r then some (Classical.choose h) else none

theorem loopO_some {b : S → Option (S ⊕ R)} {s : S} {r : R} : loopO b s = some r ↔ ∃ n, Itn b n s r := by
  unfold loopO
  constructor
  · intro h
    split at h
    · rename_i hx
      simp at h
      rw [← h]
      exact Classical.choose_spec hx
    · cases h
  · rintro ⟨n, h⟩
    have hx : ∃ r n, Itn b n s r := ⟨r, n, h⟩
    rw [dif_pos hx]
    obtain ⟨m, hm⟩ := Classical.choose_spec hx
    rw [hm.det h]

theorem loopO_none {b : S → Option (S ⊕ R)} {s : S} (h : ∀ r n, ¬ Itn b n s r) : loopO b s = none := by
  unfold loopO
  rw [dif_neg]
  rintro ⟨r, n, k⟩
  exact h r n k

theorem loopO_eq (b : S → Option (S ⊕ R)) (s : S) : loopO b s = match b s with | none => none | some (.inl s') => loopO b s' | some (.inr r) => some r := by
  split
  · rename_i h
    refine loopO_none fun r n k => ?_
    cases k with
    | done k => rw [h] at k; cases k
    | step k _ => rw [h] at k; cases k
  · rename_i s' h
    cases hl : loopO b s' with
    | some r =>
      obtain ⟨n, hn⟩ := loopO_some.1 hl
      exact loopO_some.2 ⟨n + 1, .step h hn⟩
    | none =>
      refine loopO_none fun r n k => ?_
      cases k with
      | done k => rw [h] at k; simp at k
      | step k k2 =>
        rw [h] at k; simp at k; subst k
        rw [loopO_some.2 ⟨_, k2⟩] at hl
        cases hl
  · rename_i r h
    exact loopO_some.2 ⟨0, .done h⟩

/-- What has to be shown of a loop: what holds at each round, what falls, what holds behind it. -/
theorem loopO_rule {b : S → Option (S ⊕ R)} (I : S → Prop) (μ : S → Nat) (post : R → Prop)
    (h : ∀ s, I s → ∃ o, b s = some o ∧ (match o with | .inl s' => I s' ∧ μ s' < μ s | .inr r => post r)) : ∀ s, I s → ∃ r, loopO b s = some r ∧ post r := by
  intro s hs
  generalize hn : μ s = n
  induction n using Nat.strongRecOn generalizing s with
  | ind n ih =>
    obtain ⟨o, ho, hp⟩ := h s hs
    cases o with
    | inl s' =>
      obtain ⟨r, h1, h2⟩ := ih (μ s') (by omega) s' hp.1 rfl
      exact ⟨r, by rw [loopO_eq, ho]; exact h1, h2⟩
    | inr r => exact ⟨r, by rw [loopO_eq, ho], hp⟩

/-- Of a loop that ended: what holds at each round holds at the last one. -/
theorem loopO_inv {b : S → Option (S ⊕ R)} {s : S} {r : R} (hl : loopO b s = some r) (I : S → Prop) (post : R → Prop) (h0 : I s)
    (h : ∀ s o, I s → b s = some o → (match o with | .inl s' => I s' | .inr r => post r)) : post r := by
  obtain ⟨n, hn⟩ := loopO_some.1 hl
  clear hl
  induction hn with
  | done hb => exact h _ _ h0 hb
  | step hb _ ih => exact ih (h _ _ h0 hb)

def Fin' (b : S → Option (S ⊕ R)) (n : Nat) (o : S ⊕ R) (out : R) : Prop := match o with | .inl s' => ∃ m, m < n ∧ Itn b m s' out | .inr r => r = out
theorem Itn.inv {b : S → Option (S ⊕ R)} {n : Nat} {s : S} {out : R} (h : Itn b n s out) : ∃ o, b s = some o ∧ Fin' b n o out := by
  cases h with
  | done h => exact ⟨_, h, rfl⟩
  | step h k => exact ⟨_, h, _, Nat.lt_succ_self _, k⟩
def LI (b : S → Option (S ⊕ R)) (L : S → List (Nat × AV)) (B : S → List (List C)) (ts : List TypeId) (out : R) (n : Nat) (σ : Nat → AV) (h : Hp) : Prop :=
  ∃ s, σ = sigL (L s) ∧ h = hpL (B s) ts ∧ Itn b n s out

theorem w_loop {c : Code} (b : S → Option (S ⊕ R)) (L : S → List (Nat × AV)) (B : S → List (List C)) (ts : List TypeId) {s0 : S} {out : R} (H : loopO b s0 = some out)
    (hwk : Wk t.rt σ h (sigL (L s0)) (hpL (B s0) ts))
    (hr : ∀ n s o, b s = some o → Fin' b n o out → aC t c (sigL (L s)) (hpL (B s) ts) (Round t.rt n (LI b L B ts out) Q)) : aC t (.loop c) σ h Q := by
  obtain ⟨n, hn⟩ := loopO_some.1 H
  refine ⟨LI b L B ts out, ⟨n, _, _, hwk, s0, rfl, rfl, hn⟩, ?_⟩
  rintro n _ _ ⟨s, rfl, rfl, hI⟩ _
  obtain ⟨o, h1, h2⟩ := hI.inv
  exact hr n s o h1 h2

theorem round_at {rt : Bool} {b : S → Option (S ⊕ R)} {L : S → List (Nat × AV)} {B : S → List (List C)} {ts : List TypeId} {out : R} {n : Nat} {s' : S} (hF : Fin' b n (.inl s') out)
    (hwk : Wk rt σ h (sigL (L s')) (hpL (B s') ts)) : Round rt n (LI b L B ts out) Q .normal σ h := by
  obtain ⟨m, hm, hI⟩ := hF
  exact ⟨m, _, _, hm, hwk, s', rfl, rfl, hI⟩

def inrO (x : Option R) : Option (S ⊕ R) := x.map .inr
theorem inrO_some {x : Option R} {o : S ⊕ R} (h : inrO x = some o) : ∃ r, x = some r ∧ o = .inr r := by
  unfold inrO at h
  rw [Option.map_eq_some_iff] at h
  obtain ⟨r, h1, h2⟩ := h
  exact ⟨r, h1, h2.symm⟩
theorem inrO_of {x : Option R} {r : R} (h : x = some r) : inrO x = some (.inr r : S ⊕ R) := by rw [h]; rfl
end

/-! ### Ways of data -/
theorem bsplit {α : Type} {p : Bool} {A B o : Option α} (H : (if p = true then A else B) = o) : (p = true ∧ A = o) ∨ (p = false ∧ B = o) := by
  cases p
  · exact .inr ⟨rfl, by simpa using H⟩
  · exact .inl ⟨rfl, by simpa using H⟩
theorem gsplit {α : Type} {p : Prop} [Decidable p] {A : Option α} {o : α} (H : (if p then A else none) = some o) : p ∧ A = some o := by
  by_cases hp : p
  · exact ⟨hp, by simpa [hp] using H⟩
  · simp [hp] at H
theorem osplit {α β : Type} {x : Option α} {f : α → Option β} {o : β} (H : x.bind f = some o) : ∃ a, x = some a ∧ f a = some o := by
  cases x with
  | none => simp at H
  | some a => exact ⟨a, rfl, H⟩
theorem map_getD {α β : Type} (f : α → β) (l : List α) (n : Nat) (d : β) (e : α) (h : n < l.length) : (l.map f).getD n d = f (l.getD n e) := by
  simp [List.getD_eq_getElem?_getD, List.getElem?_eq_getElem h]

/-! ### Data of a type -/
def dI (n : Int) : D := .v (.int .i64 n)
def dB (b : Bool) : D := .v (.bool b)
def dS (l : List UInt8) : D := .v (str l)
def dU (c : UInt8) : D := .v (.int .u8 (c.toNat : Int))
def dL {α : Type} (sz : Nat) (e : α → D) (l : List α) : D := .sl sz (l.map e)
theorem dI_inj (a b : Int) (h : dI a = dI b) : a = b := by simpa [dI] using h
theorem dB_inj (a b : Bool) (h : dB a = dB b) : a = b := by simpa [dB] using h
theorem dS_inj (a b : List UInt8) (h : dS a = dS b) : a = b := by simpa [dS] using h
theorem dU_inj (a b : UInt8) (h : dU a = dU b) : a = b := by
  simp only [dU, D.v.injEq, Value.int.injEq, true_and] at h
  exact UInt8.toNat_inj.1 (by omega)
theorem map_inj' {α β : Type} {f : α → β} (hf : ∀ a b, f a = f b → a = b) : ∀ (l m : List α), l.map f = m.map f → l = m
  | [], [], _ => rfl
  | [], _ :: _, h => by simp at h
  | _ :: _, [], h => by simp at h
  | a :: l, b :: m, h => by
    simp only [List.map_cons, List.cons.injEq] at h
    rw [hf a b h.1, map_inj' hf l m h.2]
theorem dL_inj {α : Type} {sz : Nat} {e : α → D} (he : ∀ a b, e a = e b → a = b) (l m : List α) (h : dL sz e l = dL sz e m) : l = m := by
  simp only [dL, D.sl.injEq, true_and] at h
  exact map_inj' he l m h
theorem unU8_dU (l : List UInt8) : (l.map dU).map unU8 = l := by
  have := unU8s l
  exact this
theorem dU_u8s (l : List UInt8) : ∃ bs, l.map dU = u8s bs := ⟨l, rfl⟩
theorem all_map {α : Type} {e : α → D} (he : ∀ a, (e a).cells.all D.one = true) (l : List α) : ∀ y ∈ l.map e, y.cells.all D.one = true := by
  intro y hy
  obtain ⟨a, _, rfl⟩ := List.mem_map.1 hy
  exact he a
theorem one_dI (a : Int) : (dI a).cells.all D.one = true := rfl
theorem one_dB (a : Bool) : (dB a).cells.all D.one = true := rfl
theorem one_dS (a : List UInt8) : (dS a).cells.all D.one = true := rfl
theorem one_dU (a : UInt8) : (dU a).cells.all D.one = true := rfl
theorem one_dL {α : Type} (sz : Nat) (e : α → D) (a : List α) : (dL sz e a).cells.all D.one = true := rfl

/-! ### Functions of data -/
open Classical in
noncomputable def PF.of {A R : Type} (enc : A → List D) (f : A → Option R) (e : R → D) : PF :=
  ⟨fun l => ∃ a r, les1 l (enc a) ∧ f a = some r, fun l => if h : ∃ d, ∃ a r, les1 l (enc a) ∧ f a = some r ∧ d = e r then Classical.choose h else .v undef⟩
def Inj {A : Type} (enc : A → List D) : Prop := ∀ a b, (enc a).map strip1 = (enc b).map strip1 → a = b
theorem PF.of_prel {A R : Type} {enc : A → List D} {f : A → Option R} {e : R → D} {l : List D} {a : A} {r : R} (hl : les1 l (enc a)) (H : f a = some r) : (PF.of enc f e).pre l = True :=
  eq_true ⟨a, r, hl, H⟩
theorem PF.of_vall {A R : Type} {enc : A → List D} {f : A → Option R} {e : R → D} (inj : Inj enc) {l : List D} {a : A} {r : R} (hl : les1 l (enc a)) (H : f a = some r) : (PF.of enc f e).val l = e r := by
  have hx : ∃ d, ∃ a' r', les1 l (enc a') ∧ f a' = some r' ∧ d = e r' := ⟨_, a, r, hl, H, rfl⟩
  simp only [PF.of]
  rw [dif_pos hx]
  obtain ⟨a', r', h1, h2, h3⟩ := Classical.choose_spec hx
  rw [h3]
  have := inj a a' ((les1_strip hl).symm.trans (les1_strip h1))
  subst this
  rw [H] at h2
  cases h2
  rfl
theorem PF.of_pre {A R : Type} {enc : A → List D} {f : A → Option R} {e : R → D} {a : A} {r : R} (H : f a = some r) : (PF.of enc f e).pre (enc a) = True :=
  PF.of_prel (les1_refl _) H
theorem PF.of_val {A R : Type} {enc : A → List D} {f : A → Option R} {e : R → D} (inj : Inj enc) {a : A} {r : R} (H : f a = some r) : (PF.of enc f e).val (enc a) = e r :=
  PF.of_vall inj (les1_refl _) H
theorem pure_of {A R : Type} {enc : A → List D} {f : A → Option R} {e : R → D} (inj : Inj enc) {t : Tab} (hrt : t.rt = false) {pure : Nat → Bool} (ht : TabOk t) (hm : t.P.follows .mixedOrders = true) (hpure : ∀ n, pure n = true → (t.Φ n).isSome)
    {k : Nat} {fn : Func} {c : Code} (hf : t.P.funcs[k]? = some fn) (hb : fn.body = some c) (hcode : (codeOk pure fn.ntmps c && fn.results.toList.all (resIn fn.ntmps)) = true)
    (hl : ∀ a, (enc a).length ≤ fn.ntmps)
    (h : ∀ a r, f a = some r → aC t c (sig0 ((enc a).map fun d => .c (.d d))) hp0 (QRet t.P fn (e r))) : PureOk t.P k (PF.of enc f e) := by
  have hx : ∀ a r, f a = some r → PureOk t.P k ⟨fun l => l = enc a, fun _ => e r⟩ := fun a r H => by
    refine pure_of_aC ht hm hpure hf hb hcode _ ?_
    rintro args rfl
    exact ⟨hl a, hrt, _, _, Wk.refl _ _ _, fun _ => h a r H⟩
  intro w S args vs hargs hS hp
  obtain ⟨a, r, hle, H⟩ := hp
  have := hx a r H w S (enc a) vs (les1_Rn hle hargs) hS rfl
  rwa [PF.of_vall inj hle H]

noncomputable def tabOf (P : Program) (l : List (Nat × PF)) (m : List (Nat × MF)) : Tab := ⟨P, fun n => l.lookup n, fun n => m.lookup n, false⟩
noncomputable def tabOfM (P : Program) (l : List (Nat × PF)) (m : List (Nat × MF)) : Tab := ⟨P, fun n => l.lookup n, fun n => m.lookup n, true⟩
theorem lookup_mem {α : Type} : ∀ {l : List (Nat × α)} {n : Nat} {x : α}, l.lookup n = some x → (n, x) ∈ l
  | [], _, _, h => by cases h
  | (k, y) :: l, n, x, h => by
    rw [List.lookup_cons] at h
    split at h
    · rename_i hk; simp at hk h; subst hk; subst h; simp
    · exact List.mem_cons_of_mem _ (lookup_mem h)
/-- Each of a list, one behind the other. -/
def AllOk (P : Program) : List (Nat × PF) → Prop
  | [] => True
  | (k, pf) :: l => (Callable P k ∧ PureOk P k pf) ∧ AllOk P l
def AllOkM (P : Program) : List (Nat × MF) → Prop
  | [] => True
  | (k, mf) :: l => (Callable P k ∧ MethOk P k mf) ∧ AllOkM P l
theorem AllOk.mem {P : Program} : ∀ {l : List (Nat × PF)}, AllOk P l → ∀ p ∈ l, Callable P p.1 ∧ PureOk P p.1 p.2
  | (_, _) :: _, ⟨h1, h2⟩, p, hp => by
    rcases List.mem_cons.1 hp with rfl | hp
    · exact h1
    · exact AllOk.mem h2 p hp
theorem AllOkM.mem {P : Program} : ∀ {l : List (Nat × MF)}, AllOkM P l → ∀ p ∈ l, Callable P p.1 ∧ MethOk P p.1 p.2
  | (_, _) :: _, ⟨h1, h2⟩, p, hp => by
    rcases List.mem_cons.1 hp with rfl | hp
    · exact h1
    · exact AllOkM.mem h2 p hp
theorem tabOf_ok {P : Program} {l : List (Nat × PF)} {m : List (Nat × MF)} (h1 : AllOk P l) (h2 : AllOkM P m) : TabOk (tabOf P l m) :=
  ⟨fun _ _ h => h1.mem _ (lookup_mem h), fun _ _ h => h2.mem _ (lookup_mem h)⟩
theorem tabOfM_ok {P : Program} {l : List (Nat × PF)} {m : List (Nat × MF)} (h1 : AllOk P l) (h2 : AllOkM P m) : TabOk (tabOfM P l m) :=
  ⟨fun _ _ h => h1.mem _ (lookup_mem h), fun _ _ h => h2.mem _ (lookup_mem h)⟩
theorem tabOf_pure {P : Program} {m : List (Nat × MF)} : ∀ {l : List (Nat × PF)} {ks : List Nat}, l.map Prod.fst = ks → ∀ n, ks.contains n = true → ((tabOf P l m).Φ n).isSome
  | [], ks, h, n, hn => by subst h; simp at hn
  | (k, pf) :: l, ks, h, n, hn => by
    subst h
    have ih := tabOf_pure (P := P) (m := m) (l := l) rfl n
    simp only [List.map_cons, List.contains_cons, Bool.or_eq_true, beq_iff_eq] at hn
    simp only [tabOf, List.lookup_cons] at ih ⊢
    split
    · rfl
    · rename_i hne
      refine ih (hn.resolve_left fun he => ?_)
      subst he
      simp at hne

theorem tabOfM_pure {P : Program} {m : List (Nat × MF)} {l : List (Nat × PF)} {ks : List Nat} (h : l.map Prod.fst = ks) (n : Nat) (hn : ks.contains n = true) : ((tabOfM P l m).Φ n).isSome :=
  tabOf_pure (P := P) (m := m) h n hn

end Go.Proofs.Ytgkacglpjmndbaa
