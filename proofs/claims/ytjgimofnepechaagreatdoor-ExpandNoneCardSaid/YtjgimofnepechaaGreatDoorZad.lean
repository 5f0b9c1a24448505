/- How code is walked: one region after the other, what follows behind a name. -/
import Derived.Test.YtjgimofnepechaaGreatDoorZac
import Derived.Recover
set_option linter.unusedVariables false
set_option linter.unusedSimpArgs false
namespace Go.Proofs.YtjgimofnepechaaGreatDoor
open Go.RowKit
structure RdO where
 dst : Option Tmp
 op : Op
 g : Option (Tmp × Bool)
def roOf (ops : Array Oper) (o : Oper) : RdO := ⟨o.dst, o.op, match o.guard with | none => none | some (j, want) => match guardSlot ops j with | none => none | some d => some (d, want)⟩
def guardsOk (ops : Array Oper) (o : Oper) : Bool := match o.guard with | none => true | some (j, _) => (guardSlot ops j).isSome
def boolA (p : Bool) : AV := .c (.d (.v (.bool p)))
def aGd (σ : Nat → AV) (g : Option (Tmp × Bool)) (run skip : (Nat → AV) → Prop) : Prop :=
 match g with
 | none => run σ
 | some (d, want) => match σ d with
  | .c (.d (.v (.bool p))) => (p = want → run (upd σ d (boolA want))) ∧ (p = !want → skip (upd σ d (boolA !want)))
  | .c (.d (.v (.tuple _))) => skip σ
  | _ => False
def aRO (t : Tab) (K : (Nat → AV) → Hp → Prop) : List RdO → (Nat → AV) → Hp → Prop
 | [], σ, h => K σ h
 | o :: l, σ, h => aGd σ o.g (fun σ => (aop t.P t.Φ t.Ψ o.op σ h).pre ∧ aRO t K l (putA σ o.dst (aop t.P t.Φ t.Ψ o.op σ h).val) (aop t.P t.Φ t.Ψ o.op σ h).h) (fun σ => aRO t K l (putA σ o.dst undefA) h)
theorem upd_self {σ : Nat → AV} {d : Nat} {p q : Bool} (h : σ d = .c (.d (.v (.bool p)))) (hp : p = q) : upd σ d (boolA q) = σ := by
 funext i
 by_cases hi : i = d
 ·subst hi; simp [upd, boolA, h, hp]
 ·simp [upd, hi]
def aRG (t : Tab) (K : (Nat → AV) → Hp → Prop) (Kp : Value → Hp → Prop) : List RdO → (Nat → AV) → Hp → Prop
 | [], σ, h => K σ h
 | o :: l, σ, h => aGd σ o.g (fun σ => aRun t o.op o.dst (aRG t K Kp l) Kp σ h) (fun σ => aRG t K Kp l (putA σ o.dst undefA) h)
theorem aOps_of_RG {t : Tab} {ops : Array Oper} {K : (Nat → AV) → Hp → Prop} {Kp : Value → Hp → Prop} : ∀ (l : List Oper) (σ : Nat → AV) (h : Hp), (l.all (guardsOk ops)) = true → aRG t K Kp (l.map (roOf ops)) σ h → aOps t ops K Kp l σ h
 | [], _, _, _, hh => hh
 | o :: l, σ, h, hg, hh => by
  simp only [List.all_cons, Bool.and_eq_true] at hg
  simp only [List.map_cons, aRG] at hh
  simp only [aOps, aOp]
  have ih := fun σ h => aOps_of_RG (K := K) (Kp := Kp) (t := t) (ops := ops) l σ h hg.2
  have h1 := hg.1
  unfold guardsOk at h1
  unfold aGd roOf at hh
  unfold aGuard
  split
  ·rename_i hgd; rw [hgd] at hh; exact aRun_mono (fun _ _ => ih _ _) (fun _ _ x => x) hh
  ·rename_i j want hgd
   rw [hgd] at hh h1
   simp only at hh h1
   split
   ·rename_i hs; rw [hs] at h1; cases h1
   ·rename_i d hs
    rw [hs] at hh
    simp only at hh
    split
    ·rename_i p hp
     rw [hp] at hh
     refine ⟨fun x => ?_, fun x => ?_⟩
     ·have := hh.1 x
      rw [upd_self hp x] at this
      exact aRun_mono (fun _ _ => ih _ _) (fun _ _ x => x) this
     ·have := hh.2 x
      rw [upd_self hp x] at this
      exact ih _ _ this
    ·rename_i hp; rw [hp] at hh; exact ih _ _ hh
    ·rename_i h2 h3
     split at hh
     ·rename_i p hp; exact (h2 _ hp).elim
     ·rename_i vs hp; exact (h3 _ hp).elim
     ·exact hh.elim
theorem aop_plain {t : Tab} {op : Op} {σ : Nat → AV} {h : Hp} (hp : (aop t.P t.Φ t.Ψ op σ h).pre) : gCall t σ op = none ∧ ¬ isDP op = true := by
 refine ⟨?_, fun hd => ?_⟩
 ·cases hg : gCall t σ op with
  | none => rfl
  | some x =>
   exfalso
   unfold gCall at hg
   split at hg
   case h_2 => cases hg
   rename_i c
   obtain ⟨callee, args, ts⟩ := c
   simp only at hg
   split at hg
   case h_2 => cases hg
   rename_i f
   simp only [aop, aCall] at hp
   split at hg
   ·rename_i n fs cs hev
    split at hg
    case isFalse => cases hg
    rename_i hc
    rw [hev] at hp
    simp only [Option.isNone_iff_eq_none] at hc
    simp only [hc.2.2.1, hc.2.2.2] at hp
    exact hp
   ·rename_i n ns hev
    rw [hev] at hp
    exact hp
   ·cases hg
 ·cases op <;> first | (cases hd; done) | exact hp
theorem aRG_seg {t : Tab} {K : (Nat → AV) → Hp → Prop} {Kp : Value → Hp → Prop} {l2 : List RdO} : ∀ {l1 : List RdO} {σ : Nat → AV} {h : Hp}, aRO t (aRG t K Kp l2) l1 σ h → aRG t K Kp (l1 ++ l2) σ h
 | [], _, _, hh => hh
 | o :: l1, σ, h, hh => by
  simp only [aRO, aRG, List.cons_append] at hh ⊢
  unfold aGd at *
  have run : ∀ σ, ((aop t.P t.Φ t.Ψ o.op σ h).pre ∧ aRO t (aRG t K Kp l2) l1 (putA σ o.dst (aop t.P t.Φ t.Ψ o.op σ h).val) (aop t.P t.Φ t.Ψ o.op σ h).h) → aRun t o.op o.dst (aRG t K Kp (l1 ++ l2)) Kp σ h := fun σ x => by
   obtain ⟨q1, q2⟩ := aop_plain x.1
   unfold aRun
   rw [q1]
   simp only
   rw [if_neg q2]
   exact ⟨x.1, aRG_seg x.2⟩
  split at hh
  ·exact run _ hh
  ·split at hh
   ·exact ⟨fun x => run _ (hh.1 x), fun x => aRG_seg (hh.2 x)⟩
   ·exact aRG_seg hh
   ·exact hh.elim
theorem aRO_mono {t : Tab} {K K' : (Nat → AV) → Hp → Prop} (hk : ∀ σ h, K σ h → K' σ h) : ∀ {l : List RdO} {σ : Nat → AV} {h : Hp}, aRO t K l σ h → aRO t K' l σ h
 | [], _, _, hh => hk _ _ hh
 | o :: l, σ, h, hh => by
  simp only [aRO] at hh ⊢
  unfold aGd at *
  split at hh
  ·exact ⟨hh.1, aRO_mono hk hh.2⟩
  ·split at hh
   ·exact ⟨fun x => ⟨(hh.1 x).1, aRO_mono hk (hh.1 x).2⟩, fun x => aRO_mono hk (hh.2 x)⟩
   ·exact aRO_mono hk hh
   ·exact hh.elim
theorem aRG_of_RO {t : Tab} {K : (Nat → AV) → Hp → Prop} {Kp : Value → Hp → Prop} {l : List RdO} {σ : Nat → AV} {h : Hp} (hh : aRO t K l σ h) : aRG t K Kp l σ h := by
 have := aRG_seg (l2 := []) (K := K) (Kp := Kp) (l1 := l) (aRO_mono (fun _ _ x => x) hh)
 simpa using this
def aStep (r : AR) (t : Tab) (K : (Nat → AV) → Hp → Prop) (dst : Option Tmp) (l : List RdO) (σ : Nat → AV) : Prop := r.pre ∧ aRO t K l (putA σ dst r.val) r.h
def aGdS (v : AV) (d : Tmp) (w : Bool) (t : Tab) (K : (Nat → AV) → Hp → Prop) (dst : Option Tmp) (op : Op) (l : List RdO) (σ : Nat → AV) (h : Hp) : Prop :=
 match v with
 | .c (.d (.v (.bool p))) => (p = w → aStep (aop t.P t.Φ t.Ψ op (upd σ d (boolA w)) h) t K dst l (upd σ d (boolA w))) ∧ (p = !w → aRO t K l (putA (upd σ d (boolA !w)) dst undefA) h)
 | .c (.d (.v (.tuple _))) => aRO t K l (putA σ dst undefA) h
 | _ => False
theorem aRO_nil (t : Tab) (K : (Nat → AV) → Hp → Prop) (σ : Nat → AV) (h : Hp) : aRO t K [] σ h = K σ h := rfl
theorem aRO_none (t : Tab) (K : (Nat → AV) → Hp → Prop) (dst : Option Tmp) (op : Op) (l : List RdO) (σ : Nat → AV) (h : Hp) : aRO t K (⟨dst, op, none⟩ :: l) σ h = aStep (aop t.P t.Φ t.Ψ op σ h) t K dst l σ := rfl
theorem aRO_some (t : Tab) (K : (Nat → AV) → Hp → Prop) (dst : Option Tmp) (op : Op) (d : Tmp) (w : Bool) (l : List RdO) (σ : Nat → AV) (h : Hp) : aRO t K (⟨dst, op, some (d, w)⟩ :: l) σ h = aGdS (σ d) d w t K dst op l σ h := rfl
theorem aStep_mk (p : Prop) (v : AV) (h : Hp) (t : Tab) (K : (Nat → AV) → Hp → Prop) (dst : Option Tmp) (l : List RdO) (σ : Nat → AV) : aStep ⟨p, v, h⟩ t K dst l σ = (p ∧ aRO t K l (putA σ dst v) h) := rfl
theorem aGdS_bool (p : Bool) (d : Tmp) (w : Bool) (t : Tab) (K : (Nat → AV) → Hp → Prop) (dst : Option Tmp) (op : Op) (l : List RdO) (σ : Nat → AV) (h : Hp) :
  aGdS (.c (.d (.v (.bool p)))) d w t K dst op l σ h = if p = w then aStep (aop t.P t.Φ t.Ψ op (upd σ d (boolA w)) h) t K dst l (upd σ d (boolA w)) else aRO t K l (putA (upd σ d (boolA !w)) dst undefA) h := by
 cases p <;> cases w <;> simp [aGdS]
theorem aGdS_tup (vs : Array Value) (d : Tmp) (w : Bool) (t : Tab) (K : (Nat → AV) → Hp → Prop) (dst : Option Tmp) (op : Op) (l : List RdO) (σ : Nat → AV) (h : Hp) :
  aGdS (.c (.d (.v (.tuple vs)))) d w t K dst op l σ h = aRO t K l (putA σ dst undefA) h := rfl
theorem aGdS_undef (d : Tmp) (w : Bool) (t : Tab) (K : (Nat → AV) → Hp → Prop) (dst : Option Tmp) (op : Op) (l : List RdO) (σ : Nat → AV) (h : Hp) :
  aGdS (.c (.d (.v undef))) d w t K dst op l σ h = aRO t K l (putA σ dst undefA) h := rfl
def Then (t : Tab) (b : Code) (Q : APost) : APost := fun ex σ h => match ex with | .normal => ∃ σ2 h2, Wk t.rt σ h σ2 h2 ∧ Given h2.Good (aC t b σ2 h2 Q) | ex => Q ex σ h
def InBlock (id : Nat) (Q : APost) : APost := fun ex σ h => match ex with | .exit j => if j = id then Q .normal σ h else Q (.exit j) σ h | ex => Q ex σ h
def Round (rt : Nat) (n : Nat) (I : Nat → (Nat → AV) → Hp → Prop) (Q : APost) : APost := fun ex σ h => match ex with | .normal => ∃ m σ3 h3, m < n ∧ Wk rt σ h σ3 h3 ∧ I m σ3 h3 | ex => Q ex σ h
def Cut (rt : Nat) (R : (Nat → AV) → Hp → Prop) (Q : APost) : APost := fun ex σ h => match ex with | .normal => ∃ σ2 h2, Wk rt σ h σ2 h2 ∧ R σ2 h2 | ex => Q ex σ h
variable {t : Tab} {σ : Nat → AV} {h : Hp} {Q : APost}
theorem w_seq {a b : Code} (hh : aC t a σ h (Then t b Q)) : aC t (.seq a b) σ h Q := hh
theorem w_skip (hh : Q .normal σ h) : aC t .skip σ h Q := hh
theorem w_ret (hh : Q .ret σ h) : aC t .ret σ h Q := hh
theorem w_exit {id : Nat} (hh : Q (.exit id) σ h) : aC t (.exit id) σ h Q := hh
theorem w_block {id : Nat} {b : Code} (hh : aC t b σ h (InBlock id Q)) : aC t (.block id b) σ h Q := hh
theorem w_condT {c : Operand} {x y : Code} (hc : evA σ c = .c (.d (.v (.bool true)))) (hx : aC t x σ h Q) : aC t (.cond c x y) σ h Q := by
 simp only [aC, hc]; exact ⟨fun _ => hx, fun h => by cases h⟩
theorem w_condF {c : Operand} {x y : Code} (hc : evA σ c = .c (.d (.v (.bool false)))) (hx : aC t y σ h Q) : aC t (.cond c x y) σ h Q := by
 simp [aC, hc]; exact hx
theorem w_region {id : Nat} {ops : Array Oper} {draw : Bool} (hl : (draw && t.lk.contains id) = false) (hg : (ops.toList.all (guardsOk ops)) = true) (hh : ∀ K : (Nat → AV) → Hp → Prop, (∀ σ h, Q .normal σ h → K σ h) → aRO t K (ops.toList.map (roOf ops)) σ h) : aC t (.region id ops draw) σ h Q :=
 ⟨σ, h, Wk.refl _ _ _, .inl (aReg_plain hl (aOps_of_RG _ _ _ hg (aRG_of_RO (hh _ fun _ _ x => x))))⟩
theorem w_regionG {id : Nat} {ops : Array Oper} {draw : Bool} (hl : (draw && t.lk.contains id) = false) (hg : (ops.toList.all (guardsOk ops)) = true) (hh : aRG t (Q .normal) (fun v h' => Q (.panic [{ v := v, recovered := false }]) (forget ops σ) h') (ops.toList.map (roOf ops)) σ h) : aC t (.region id ops draw) σ h Q :=
 ⟨σ, h, Wk.refl _ _ _, .inl (aReg_plain hl (aOps_of_RG _ _ _ hg hh))⟩
theorem then_normal {b : Code} (hh : aC t b σ h Q) : Then t b Q .normal σ h := ⟨σ, h, Wk.refl _ _ _, ⟨fun _ => hh⟩⟩
theorem then_ret {b : Code} (hh : Q .ret σ h) : Then t b Q .ret σ h := hh
theorem then_exit {b : Code} {i : Nat} (hh : Q (.exit i) σ h) : Then t b Q (.exit i) σ h := hh
theorem block_normal {id : Nat} (hh : Q .normal σ h) : InBlock id Q .normal σ h := hh
theorem block_ret {id : Nat} (hh : Q .ret σ h) : InBlock id Q .ret σ h := hh
theorem block_exit {id : Nat} (hh : Q .normal σ h) : InBlock id Q (.exit id) σ h := by simp only [InBlock, if_true]; exact hh
theorem block_other {id j : Nat} (hne : (j == id) = false) (hh : Q (.exit j) σ h) : InBlock id Q (.exit j) σ h := by
 have : j ≠ id := by simpa using hne
 simp only [InBlock, this, if_false]; exact hh
theorem round_ret {rt : Nat} {n : Nat} {I : Nat → (Nat → AV) → Hp → Prop} (hh : Q .ret σ h) : Round rt n I Q .ret σ h := hh
theorem round_exit {rt : Nat} {n i : Nat} {I : Nat → (Nat → AV) → Hp → Prop} (hh : Q (.exit i) σ h) : Round rt n I Q (.exit i) σ h := hh
theorem cut_ret {rt : Nat} {R : (Nat → AV) → Hp → Prop} (hh : Q .ret σ h) : Cut rt R Q .ret σ h := hh
theorem cut_exit {rt : Nat} {R : (Nat → AV) → Hp → Prop} {i : Nat} (hh : Q (.exit i) σ h) : Cut rt R Q (.exit i) σ h := hh
theorem aC_mono {t : Tab} : ∀ (c : Code) (σ : Nat → AV) (h : Hp) (Q Q' : APost), (∀ ex σ h, Q ex σ h → Q' ex σ h) → aC t c σ h Q → aC t c σ h Q'
 | .skip, σ, h, Q, Q', hQ, hh => hQ _ _ _ hh
 | .region id ops draw, σ, h, Q, Q', hQ, ⟨σ1, h1, hwk, hh⟩ => ⟨σ1, h1, hwk, hh.imp (aReg_mono (fun σ h hk => hQ _ _ _ hk) (fun v h hk => hQ _ _ _ hk)) fun ⟨σ2, h2, x, y⟩ => ⟨σ2, h2, x, hQ _ _ _ y⟩⟩
 | .seq a b, σ, h, Q, Q', hQ, hh => by
  refine aC_mono a σ h _ _ (fun ex σ h hk => ?_) hh
  cases ex with
  | normal =>
   obtain ⟨σ2, h2, hwk, hk⟩ := hk
   exact ⟨σ2, h2, hwk, ⟨fun hg => aC_mono b σ2 h2 Q Q' hQ (hk.get hg)⟩⟩
  | exit id => exact hQ _ _ _ hk
  | goto l => exact hQ _ _ _ hk
  | ret => exact hQ _ _ _ hk
  | panic ch => exact hQ _ _ _ hk
  | outgrown => exact hQ _ _ _ hk
 | .cond c x y, σ, h, Q, Q', hQ, hh => by
  simp only [aC] at hh ⊢
  split at hh
  ·exact ⟨fun p => aC_mono x σ h Q Q' hQ (hh.1 p), fun p => aC_mono y σ h Q Q' hQ (hh.2 p)⟩
  ·exact hh
 | .block id b, σ, h, Q, Q', hQ, hh => by
  refine aC_mono b σ h _ _ (fun ex σ h hk => ?_) hh
  cases ex with
  | normal => exact hQ _ _ _ hk
  | exit j =>
   simp only at hk ⊢
   split
   ·rename_i hj; rw [if_pos hj] at hk; exact hQ _ _ _ hk
   ·rename_i hj; rw [if_neg hj] at hk; exact hQ _ _ _ hk
  | goto l => exact hQ _ _ _ hk
  | ret => exact hQ _ _ _ hk
  | panic ch => exact hQ _ _ _ hk
  | outgrown => exact hQ _ _ _ hk
 | .loop b, σ, h, Q, Q', hQ, hh => by
  obtain ⟨I, h0, hr⟩ := hh
  refine ⟨I, h0, fun n σ' h' hI hg => aC_mono b σ' h' _ _ (fun ex σ h hk => ?_) (hr n σ' h' hI hg)⟩
  cases ex with
  | normal => exact hk
  | exit id => exact hQ _ _ _ hk
  | goto l => exact hQ _ _ _ hk
  | ret => exact hQ _ _ _ hk
  | panic ch => exact hQ _ _ _ hk
  | outgrown => exact hQ _ _ _ hk
 | .exit id, σ, h, Q, Q', hQ, hh => hQ _ _ _ hh
 | .ret, σ, h, Q, Q', hQ, hh => hQ _ _ _ hh
 | .rangeFunc _ _ _ _, _, _, _, _, _, hh => hh.elim
 | .scope _, _, _, _, _, _, hh => hh.elim
 | .label _, _, _, _, _, _, hh => hh.elim
 | .goto _, _, _, _, _, _, hh => hh.elim
 | .refuse _, _, _, _, _, _, hh => hh.elim
theorem w_cutG {a b : Code} (R : (Nat → AV) → Hp → Prop) (ha : aC t a σ h (Cut t.rt R Q)) (hb : ∀ σ h, R σ h → aC t b σ h Q) : aC t (.seq a b) σ h Q := by
 refine aC_mono a σ h _ _ (fun ex σ h hk => ?_) ha
 cases ex with
 | normal =>
  obtain ⟨σ2, h2, hwk, hR⟩ := hk
  exact ⟨σ2, h2, hwk, ⟨fun _ => hb σ2 h2 hR⟩⟩
 | exit id => exact hk
 | goto l => exact hk
 | ret => exact hk
 | panic ch => exact hk
 | outgrown => exact hk
def At {S R : Type} (J : S → Option R) (L : S → List (Nat × AV)) (B : S → List (List C)) (ts : List TypeId) (out : R) (σ : Nat → AV) (h : Hp) : Prop :=
 ∃ s, σ = sigL (L s) ∧ h = hpL (B s) ts ∧ J s = some out
theorem w_cut {S R : Type} {a b : Code} (J : S → Option R) (L : S → List (Nat × AV)) (B : S → List (List C)) (ts : List TypeId) (out : R)
  (ha : aC t a σ h (Cut t.rt (At J L B ts out) Q)) (hb : ∀ s, J s = some out → aC t b (sigL (L s)) (hpL (B s) ts) Q) : aC t (.seq a b) σ h Q :=
 w_cutG _ ha (by rintro σ h ⟨s, rfl, rfl, hJ⟩; exact hb s hJ)
theorem cut_at {rt : Nat} {S R : Type} {J : S → Option R} {L : S → List (Nat × AV)} {B : S → List (List C)} {ts : List TypeId} {out : R} {s : S} (hJ : J s = some out)
  (hwk : Wk rt σ h (sigL (L s)) (hpL (B s) ts)) : Cut rt (At J L B ts out) Q .normal σ h := ⟨_, _, hwk, s, rfl, rfl, hJ⟩
section
variable {S R : Type}
inductive Itn (b : S → Option (S ⊕ R)) : Nat → S → R → Prop
 | done {s : S} {r : R} : b s = some (.inr r) → Itn b 0 s r
 | step {n : Nat} {s s' : S} {r : R} : b s = some (.inl s') → Itn b n s' r → Itn b (n + 1) s r
theorem Itn.det {b : S → Option (S ⊕ R)} {n m : Nat} {s : S} {r r' : R} (h : Itn b n s r) (k : Itn b m s r') : r = r' := by
 induction h generalizing m with
 | done h =>
  cases k with
  | done k => rw [h] at k; simpa using k
  | step k _ => rw [h] at k; simp at k
 | step h _ ih =>
  cases k with
  | done k => rw [h] at k; simp at k
  | step k k2 => rw [h] at k; simp at k; subst k; exact ih k2
open Classical in
noncomputable def loopX (b : S → Option (S ⊕ R)) (s : S) : Option R := if h : ∃ r n, Itn b n s r then some (Classical.choose h) else none
theorem loopX_some {b : S → Option (S ⊕ R)} {s : S} {r : R} : loopX b s = some r ↔ ∃ n, Itn b n s r := by
 unfold loopX
 constructor
 ·intro h
  split at h
  ·rename_i hx
   simp at h
   rw [← h]
   exact Classical.choose_spec hx
  ·cases h
 ·rintro ⟨n, h⟩
  have hx : ∃ r n, Itn b n s r := ⟨r, n, h⟩
  rw [dif_pos hx]
  obtain ⟨m, hm⟩ := Classical.choose_spec hx
  rw [hm.det h]
theorem loopX_none {b : S → Option (S ⊕ R)} {s : S} (h : ∀ r n, ¬ Itn b n s r) : loopX b s = none := by
 unfold loopX
 rw [dif_neg]
 rintro ⟨r, n, k⟩
 exact h r n k
def bigF : Nat := 18446744073709551616
theorem bigF_le : 2 ^ 64 ≤ bigF := Nat.le_refl _
noncomputable def loopN {S R : Type} (b : S → Option (S ⊕ R)) (n : Nat) : S → Option R :=
 Nat.rec (fun _ => none) (fun _ ih s => match b s with | none => none | some (.inl s') => ih s' | some (.inr r) => some r) n
theorem loopN_some {b : S → Option (S ⊕ R)} {r : R} : ∀ {n : Nat} {s : S}, loopN b n s = some r → ∃ k, Itn b k s r
 | 0, s, h => by cases h
 | n + 1, s, h => by
  have h : (match b s with | none => none | some (.inl s') => loopN b n s' | some (.inr r) => some r) = some r := h
  split at h
  ·cases h
  ·rename_i s' hs
   obtain ⟨k, hk⟩ := loopN_some h
   exact ⟨k + 1, .step hs hk⟩
  ·rename_i r' hs
   cases h
   exact ⟨0, .done hs⟩
noncomputable def loopO (b : S → Option (S ⊕ R)) (s : S) : Option R := match loopN b bigF s with | some r => some r | none => loopX b s
theorem loopO_X (b : S → Option (S ⊕ R)) (s : S) : loopO b s = loopX b s := by
 unfold loopO
 split
 ·rename_i r h
  exact (loopX_some.2 (loopN_some h)).symm
 ·rfl
theorem loopO_some {b : S → Option (S ⊕ R)} {s : S} {r : R} : loopO b s = some r ↔ ∃ n, Itn b n s r := by rw [loopO_X]; exact loopX_some
theorem loopO_none {b : S → Option (S ⊕ R)} {s : S} (h : ∀ r n, ¬ Itn b n s r) : loopO b s = none := by rw [loopO_X]; exact loopX_none h
theorem loopO_eq (b : S → Option (S ⊕ R)) (s : S) : loopO b s = match b s with | none => none | some (.inl s') => loopO b s' | some (.inr r) => some r := by
 split
 ·rename_i h
  refine loopO_none fun r n k => ?_
  cases k with
  | done k => rw [h] at k; cases k
  | step k _ => rw [h] at k; cases k
 ·rename_i s' h
  cases hl : loopO b s' with
  | some r =>
   obtain ⟨n, hn⟩ := loopO_some.1 hl
   exact loopO_some.2 ⟨n + 1, .step h hn⟩
  | none =>
   refine loopO_none fun r n k => ?_
   cases k with
   | done k => rw [h] at k; simp at k
   | step k k2 =>
    rw [h] at k; simp at k; subst k
    rw [loopO_some.2 ⟨_, k2⟩] at hl
    cases hl
 ·rename_i r h
  exact loopO_some.2 ⟨0, .done h⟩
theorem loopO_rule {b : S → Option (S ⊕ R)} (I : S → Prop) (μ : S → Nat) (post : R → Prop)
  (h : ∀ s, I s → ∃ o, b s = some o ∧ (match o with | .inl s' => I s' ∧ μ s' < μ s | .inr r => post r)) : ∀ s, I s → ∃ r, loopO b s = some r ∧ post r := by
 intro s hs
 generalize hn : μ s = n
 induction n using Nat.strongRecOn generalizing s with
 | ind n ih =>
  obtain ⟨o, ho, hp⟩ := h s hs
  cases o with
  | inl s' =>
   obtain ⟨r, h1, h2⟩ := ih (μ s') (by omega) s' hp.1 rfl
   exact ⟨r, by rw [loopO_eq, ho]; exact h1, h2⟩
  | inr r => exact ⟨r, by rw [loopO_eq, ho], hp⟩
def Fin' (b : S → Option (S ⊕ R)) (n : Nat) (o : S ⊕ R) (out : R) : Prop := match o with | .inl s' => ∃ m, m < n ∧ Itn b m s' out | .inr r => r = out
theorem Itn.inv {b : S → Option (S ⊕ R)} {n : Nat} {s : S} {out : R} (h : Itn b n s out) : ∃ o, b s = some o ∧ Fin' b n o out := by
 cases h with
 | done h => exact ⟨_, h, rfl⟩
 | step h k => exact ⟨_, h, _, Nat.lt_succ_self _, k⟩
def LI (b : S → Option (S ⊕ R)) (L : S → List (Nat × AV)) (B : S → List (List C)) (ts : List TypeId) (out : R) (n : Nat) (σ : Nat → AV) (h : Hp) : Prop :=
 ∃ s, σ = sigL (L s) ∧ h = hpL (B s) ts ∧ Itn b n s out
theorem w_loop {c : Code} (b : S → Option (S ⊕ R)) (L : S → List (Nat × AV)) (B : S → List (List C)) (ts : List TypeId) {s0 : S} {out : R} (H : loopO b s0 = some out)
  (hwk : Wk t.rt σ h (sigL (L s0)) (hpL (B s0) ts))
  (hr : ∀ n s o, b s = some o → Fin' b n o out → aC t c (sigL (L s)) (hpL (B s) ts) (Round t.rt n (LI b L B ts out) Q)) : aC t (.loop c) σ h Q := by
 obtain ⟨n, hn⟩ := loopO_some.1 H
 refine ⟨LI b L B ts out, ⟨n, _, _, hwk, s0, rfl, rfl, hn⟩, ?_⟩
 rintro n _ _ ⟨s, rfl, rfl, hI⟩ _
 obtain ⟨o, h1, h2⟩ := hI.inv
 exact hr n s o h1 h2
def UnR (t : Tab) (c : Code) (Q : APost) : Nat → APost
 | 0 => fun ex σ h => match ex with | .normal => False | ex => Q ex σ h
 | k + 1 => fun ex σ h => match ex with | .normal => aC t c σ h (UnR t c Q k) | ex => Q ex σ h
theorem un_next {c : Code} {k : Nat} (hh : aC t c σ h (UnR t c Q k)) : UnR t c Q (k + 1) .normal σ h := hh
theorem un_ret {c : Code} {k : Nat} (hh : Q .ret σ h) : UnR t c Q k .ret σ h := by cases k <;> exact hh
theorem un_exit {c : Code} {k i : Nat} (hh : Q (.exit i) σ h) : UnR t c Q k (.exit i) σ h := by cases k <;> exact hh
theorem un_panic {c : Code} {k : Nat} {ch : List PanicEntry} (hh : Q (.panic ch) σ h) : UnR t c Q k (.panic ch) σ h := by cases k <;> exact hh
theorem round_at {rt : Nat} {b : S → Option (S ⊕ R)} {L : S → List (Nat × AV)} {B : S → List (List C)} {ts : List TypeId} {out : R} {n : Nat} {s' : S} (hF : Fin' b n (.inl s') out)
  (hwk : Wk rt σ h (sigL (L s')) (hpL (B s') ts)) : Round rt n (LI b L B ts out) Q .normal σ h := by
 obtain ⟨m, hm, hI⟩ := hF
 exact ⟨m, _, _, hm, hwk, s', rfl, rfl, hI⟩
def inrO (x : Option R) : Option (S ⊕ R) := x.map .inr
theorem inrO_some {x : Option R} {o : S ⊕ R} (h : inrO x = some o) : ∃ r, x = some r ∧ o = .inr r := by
 unfold inrO at h
 rw [Option.map_eq_some_iff] at h
 obtain ⟨r, h1, h2⟩ := h
 exact ⟨r, h1, h2.symm⟩
end
theorem bsplit {α : Type} {p : Bool} {A B o : Option α} (H : (if p = true then A else B) = o) : (p = true ∧ A = o) ∨ (p = false ∧ B = o) := by
 cases p
 ·exact .inr ⟨rfl, by simpa using H⟩
 ·exact .inl ⟨rfl, by simpa using H⟩
theorem gsplit {α : Type} {p : Prop} [Decidable p] {A : Option α} {o : α} (H : (if p then A else none) = some o) : p ∧ A = some o := by
 by_cases hp : p
 ·exact ⟨hp, by simpa [hp] using H⟩
 ·simp [hp] at H
theorem osplit {α β : Type} {x : Option α} {f : α → Option β} {o : β} (H : x.bind f = some o) : ∃ a, x = some a ∧ f a = some o := by
 cases x with
 | none => simp at H
 | some a => exact ⟨a, rfl, H⟩
theorem map_getD {α β : Type} (f : α → β) (l : List α) (n : Nat) (d : β) (e : α) (h : n < l.length) : (l.map f).getD n d = f (l.getD n e) := by
 simp [List.getD_eq_getElem?_getD, List.getElem?_eq_getElem h]
def dI (n : Int) : D := .v (.int .i64 n)
def dB (b : Bool) : D := .v (.bool b)
def dE (b : Bool) : D := .ne b
def dS (l : List UInt8) : D := .v (str l)
def dU (c : UInt8) : D := .v (.int .u8 (c.toNat : Int))
def dL {α : Type} (sz : Nat) (e : α → D) (l : List α) : D := .sl sz (l.map e)
theorem dI_inj (a b : Int) (h : dI a = dI b) : a = b := by simpa [dI] using h
theorem dB_inj (a b : Bool) (h : dB a = dB b) : a = b := by simpa [dB] using h
theorem dS_inj (a b : List UInt8) (h : dS a = dS b) : a = b := by simpa [dS] using h
theorem dU_inj (a b : UInt8) (h : dU a = dU b) : a = b := by
 simp only [dU, D.v.injEq, Value.int.injEq, true_and] at h
 exact UInt8.toNat_inj.1 (by omega)
theorem map_inj' {α β : Type} {f : α → β} (hf : ∀ a b, f a = f b → a = b) : ∀ (l m : List α), l.map f = m.map f → l = m
 | [], [], _ => rfl
 | [], _ :: _, h => by simp at h
 | _ :: _, [], h => by simp at h
 | a :: l, b :: m, h => by
  simp only [List.map_cons, List.cons.injEq] at h
  rw [hf a b h.1, map_inj' hf l m h.2]
theorem dL_inj {α : Type} {sz : Nat} {e : α → D} (he : ∀ a b, e a = e b → a = b) (l m : List α) (h : dL sz e l = dL sz e m) : l = m := by
 simp only [dL, D.sl.injEq, true_and] at h
 exact map_inj' he l m h
theorem unU8_dU (l : List UInt8) : (l.map dU).map unU8 = l := by
 have := unU8s l
 exact this
theorem dU_u8s (l : List UInt8) : ∃ bs, l.map dU = u8s bs := ⟨l, rfl⟩
theorem all_map {α : Type} {e : α → D} (he : ∀ a, (e a).cells.all D.one = true) (l : List α) : ∀ y ∈ l.map e, y.cells.all D.one = true := by
 intro y hy
 obtain ⟨a, _, rfl⟩ := List.mem_map.1 hy
 exact he a
theorem one_dI (a : Int) : (dI a).cells.all D.one = true := rfl
theorem one_dS (a : List UInt8) : (dS a).cells.all D.one = true := rfl
theorem one_dU (a : UInt8) : (dU a).cells.all D.one = true := rfl
theorem one_dL {α : Type} (sz : Nat) (e : α → D) (a : List α) : (dL sz e a).cells.all D.one = true := rfl
open Classical in
noncomputable def PF.of {A R : Type} (enc : A → List D) (f : A → Option R) (e : R → D) : PF :=
 ⟨fun l => ∃ a r, les1 l (enc a) ∧ f a = some r, fun l => if h : ∃ d, ∃ a r, les1 l (enc a) ∧ f a = some r ∧ d = e r then Classical.choose h else .v undef⟩
def Inj {A : Type} (enc : A → List D) : Prop := ∀ a b, (enc a).map strip1 = (enc b).map strip1 → a = b
theorem PF.of_prel {A R : Type} {enc : A → List D} {f : A → Option R} {e : R → D} {l : List D} {a : A} {r : R} (hl : les1 l (enc a)) (H : f a = some r) : (PF.of enc f e).pre l = True :=
 eq_true ⟨a, r, hl, H⟩
theorem PF.of_vall {A R : Type} {enc : A → List D} {f : A → Option R} {e : R → D} (inj : Inj enc) {l : List D} {a : A} {r : R} (hl : les1 l (enc a)) (H : f a = some r) : (PF.of enc f e).val l = e r := by
 have hx : ∃ d, ∃ a' r', les1 l (enc a') ∧ f a' = some r' ∧ d = e r' := ⟨_, a, r, hl, H, rfl⟩
 simp only [PF.of]
 rw [dif_pos hx]
 obtain ⟨a', r', h1, h2, h3⟩ := Classical.choose_spec hx
 rw [h3]
 have := inj a a' ((les1_strip hl).symm.trans (les1_strip h1))
 subst this
 rw [H] at h2
 cases h2
 rfl
theorem PF.of_pre {A R : Type} {enc : A → List D} {f : A → Option R} {e : R → D} {a : A} {r : R} (H : f a = some r) : (PF.of enc f e).pre (enc a) = True :=
 PF.of_prel (les1_refl _) H
theorem PF.of_val {A R : Type} {enc : A → List D} {f : A → Option R} {e : R → D} (inj : Inj enc) {a : A} {r : R} (H : f a = some r) : (PF.of enc f e).val (enc a) = e r :=
 PF.of_vall inj (les1_refl _) H
theorem pure_of {A R : Type} {enc : A → List D} {f : A → Option R} {e : R → D} (inj : Inj enc) {t : Tab} (hrt : t.rt = 0) {pure : Nat → Nat} (ht : TabOk t) (hm : t.P.follows .mixedOrders = true) (hpure : ∀ n, pure n = 0 → (t.Φ n).isSome) (hnp : ∀ n, pure n = 1 → ∀ g, t.G n g → ∃ val bs ts, g.out = .ret val bs ts)
  {k : Nat} {fn : Func} {c : Code} (hf : t.P.funcs[k]? = some fn) (hb : fn.body = some c) (hcode : (codeOk pure t.lk fn.ntmps c && fn.results.toList.all (resIn fn.ntmps) && fn.ntmps.ble DS) = true)
  (hl : ∀ a, (enc a).length ≤ fn.ntmps)
  (h : ∀ a r, f a = some r → aC t c (sig0 ((enc a).map fun d => .c (.d d))) hp0 (QRetW t.P t.rt fn (e r))) : PureOk t.P k (PF.of enc f e) := by
 have hx : ∀ a r, f a = some r → PureOk t.P k ⟨fun l => l = enc a, fun _ => e r⟩ := fun a r H => by
  refine pure_of_aC ht hm hpure hnp hf hb hcode _ ?_
  rintro args rfl
  exact ⟨hl a, hrt, _, _, Wk.refl _ _ _, fun _ => h a r H⟩
 intro w S args vs hG hargs hS hp
 obtain ⟨a, r, hle, H⟩ := hp
 have := hx a r H w S (enc a) vs hG (les1_Rn hle hargs) hS rfl
 rwa [PF.of_vall inj hle H]
noncomputable def tab (P : Program) (l : List (Nat × PF)) (gl : List (Nat × Bool × (GI → Prop))) (dl : List (Nat × (DI → Prop))) (rt : Nat) (lk : List Nat) : Tab :=
 ⟨P, fun n => l.lookup n, fun _ => none, rt, fun n g => ∃ p ∈ gl, p.1 = n ∧ p.2.2 g, fun n d => ∃ p ∈ dl, p.1 = n ∧ p.2 d, lk⟩
theorem lookup_mem {α : Type} : ∀ {l : List (Nat × α)} {n : Nat} {x : α}, l.lookup n = some x → (n, x) ∈ l
 | [], _, _, h => by cases h
 | (k, y) :: l, n, x, h => by
  rw [List.lookup_cons] at h
  split at h
  ·rename_i hk; simp at hk h; subst hk; subst h; simp
  ·exact List.mem_cons_of_mem _ (lookup_mem h)
def AllOk (P : Program) : List (Nat × PF) → Prop
 | [] => True
 | (k, pf) :: l => (Callable P k ∧ PureOk P k pf) ∧ AllOk P l
def AllOkG (P : Program) : List (Nat × Bool × (GI → Prop)) → Prop
 | [] => True
 | (k, np, S) :: l => (Callable P k ∧ (∀ g, S g → GenOk P k g) ∧ (np = true → ∀ g, S g → ∃ val bs ts, g.out = .ret val bs ts)) ∧ AllOkG P l
def AllOkD (P : Program) : List (Nat × (DI → Prop)) → Prop
 | [] => True
 | (k, S) :: l => (Callable P k ∧ ∀ d, S d → DOk P k d) ∧ AllOkD P l
theorem AllOk.mem {P : Program} : ∀ {l : List (Nat × PF)}, AllOk P l → ∀ p ∈ l, Callable P p.1 ∧ PureOk P p.1 p.2
 | (_, _) :: _, ⟨h1, h2⟩, p, hp => by
  rcases List.mem_cons.1 hp with rfl | hp
  ·exact h1
  ·exact AllOk.mem h2 p hp
theorem AllOkG.mem {P : Program} : ∀ {l : List (Nat × Bool × (GI → Prop))}, AllOkG P l → ∀ p ∈ l, Callable P p.1 ∧ (∀ g, p.2.2 g → GenOk P p.1 g) ∧ (p.2.1 = true → ∀ g, p.2.2 g → ∃ val bs ts, g.out = .ret val bs ts)
 | (_, _, _) :: _, ⟨h1, h2⟩, p, hp => by
  rcases List.mem_cons.1 hp with rfl | hp
  ·exact h1
  ·exact AllOkG.mem h2 p hp
theorem AllOkD.mem {P : Program} : ∀ {l : List (Nat × (DI → Prop))}, AllOkD P l → ∀ p ∈ l, Callable P p.1 ∧ ∀ d, p.2 d → DOk P p.1 d
 | (_, _) :: _, ⟨h1, h2⟩, p, hp => by
  rcases List.mem_cons.1 hp with rfl | hp
  ·exact h1
  ·exact AllOkD.mem h2 p hp
theorem tab_ok {P : Program} {l : List (Nat × PF)} {gl : List (Nat × Bool × (GI → Prop))} {dl : List (Nat × (DI → Prop))} {rt : Nat} {lk : List Nat} (h1 : AllOk P l) (h2 : AllOkG P gl) (h3 : AllOkD P dl) : TabOk (tab P l gl dl rt lk) := by
 refine ⟨fun _ _ h => h1.mem _ (lookup_mem h), fun _ _ h => (by cases h), ?_, ?_⟩
 ·rintro f g ⟨p, hp, rfl, hg⟩
  exact ⟨(h2.mem p hp).1, (h2.mem p hp).2.1 g hg⟩
 ·rintro f d ⟨p, hp, rfl, hd⟩
  exact ⟨(h3.mem p hp).1, (h3.mem p hp).2 d hd⟩
def kindOf (ks : List Nat) (gs : List (Nat × Bool)) (n : Nat) : Nat := if ks.contains n then 0 else if gs.any (fun p => p.1 == n) && gs.all (fun p => p.1 != n || p.2) then 1 else 2
theorem lookup_of : ∀ {l : List (Nat × PF)} {n : Nat}, (l.map Prod.fst).contains n = true → (l.lookup n).isSome
 | [], n, h => by simp at h
 | (k, pf) :: l, n, h => by
  rw [List.lookup_cons]
  split
  ·rfl
  ·rename_i hk
   simp only [List.map_cons, List.contains_cons, Bool.or_eq_true] at h
   rcases h with h | h
   ·simp at hk h; exact absurd h hk
   ·exact lookup_of h
theorem tab_pure {P : Program} {l : List (Nat × PF)} {gl : List (Nat × Bool × (GI → Prop))} {dl : List (Nat × (DI → Prop))} {rt : Nat} {lk : List Nat} (n : Nat) (hn : kindOf (l.map Prod.fst) (gl.map fun p => (p.1, p.2.1)) n = 0) : ((tab P l gl dl rt lk).Φ n).isSome := by
 unfold kindOf at hn
 split at hn
 ·rename_i h; exact lookup_of h
 ·split at hn <;> cases hn
theorem tab_np {P : Program} {l : List (Nat × PF)} {gl : List (Nat × Bool × (GI → Prop))} {dl : List (Nat × (DI → Prop))} {rt : Nat} {lk : List Nat} (h2 : AllOkG P gl) (n : Nat) (hn : kindOf (l.map Prod.fst) (gl.map fun p => (p.1, p.2.1)) n = 1) (g : GI) (hg : (tab P l gl dl rt lk).G n g) :
  ∃ val bs ts, g.out = .ret val bs ts := by
 unfold kindOf at hn
 split at hn
 ·cases hn
 ·split at hn
  ·rename_i h
   simp only [Bool.and_eq_true, List.all_eq_true, List.mem_map] at h
   obtain ⟨p, hp, rfl, hS⟩ := hg
   refine (h2.mem p hp).2.2 ?_ g hS
   have := h.2 (p.1, p.2.1) ⟨p, hp, rfl⟩
   simpa using this
  ·cases hn
end Go.Proofs.YtjgimofnepechaaGreatDoor
namespace Go.Proofs.YtjgimofnepechaaGreatDoor
open Go.RowKit
def aResG1 (P : Program) (σ : Nat → AV) (h : Hp) : ResultVar → Prop × AV
 | .tmp t => (True, σ t)
 | .cell a ty => match σ a with
  | .c (.pt n 0) => match h.H n with
   | some row => (rowP row = true ∧ (aLoadRow P h ty row 0).pre, (aLoadRow P h ty row 0).val)
   | none => (False, undefA)
  | _ => (False, undefA)
def aResGs (P : Program) (σ : Nat → AV) (h : Hp) : List ResultVar → Prop × List AV
 | [] => (True, [])
 | r :: rs => ((aResG1 P σ h r).1 ∧ (aResGs P σ h rs).1, (aResG1 P σ h r).2 :: (aResGs P σ h rs).2)
def compsOf : List AV → Option (List (Bool × List C))
 | [] => some []
 | .c x :: l => (compsOf l).map fun m => (false, [x]) :: m
 | .ag y :: l => (compsOf l).map fun m => (true, y) :: m
 | _ :: _ => none
def joinA : List AV → Option AV
 | [a] => some a
 | l => (compsOf l).map .tu
theorem compsOf_rts {e : Env} : ∀ {l : List AV} {m : List (Bool × List C)} {vs : List Value}, compsOf l = some m → RAs e l vs → RTs e m vs
 | [], _, [], h, _ => by cases h; trivial
 | .c x :: l, _, v :: vs, h, ⟨k1, k2⟩ => by
  obtain ⟨m, h1, rfl⟩ := Option.map_eq_some_iff.1 h
  exact ⟨⟨x, rfl, k1⟩, compsOf_rts h1 k2⟩
 | .ag y :: l, _, v :: vs, h, ⟨k1, k2⟩ => by
  obtain ⟨m, h1, rfl⟩ := Option.map_eq_some_iff.1 h
  exact ⟨k1, compsOf_rts h1 k2⟩
 | .tu _ :: _, _, _ :: _, h, _ => by cases h
 | .df _ :: _, _, _ :: _, h, _ => by cases h
 | [], _, _ :: _, _, k => k.elim
 | _ :: _, _, [], _, k => k.elim
theorem run_resG1 {Γ : Ctx} {σ : Nat → AV} {h : Hp} {a : Act} {e : Env} (hs : ∀ i, i < Γ.nt → RA e (σ i) (a.tmps.getD i undef)) (hw : WInv Γ h e) {r : ResultVar} (hin : resIn Γ.nt r = true) (hp : (aResG1 Γ.P σ h r).1) :
  ∃ v, (match r with | .tmp t => pure (a.tmps.getD t undef) | .cell x ty => do loadVar ty (← asAddr (a.tmps.getD x undef)) : Sem Value).run Γ.P e.w = .ok v e.w ∧ RA e (aResG1 Γ.P σ h r).2 v := by
 cases r with
 | tmp t =>
  simp only [resIn, decide_eq_true_eq] at hin
  exact ⟨_, by simp, hs t hin⟩
 | cell x ty =>
  simp only [resIn, decide_eq_true_eq] at hin
  have hx := hs x hin
  simp only [aResG1] at hp ⊢
  split at hp
  ·rename_i n hσ
   split at hp
   ·rename_i row hrow
    rw [hσ] at hx
    obtain ⟨b, h2, h3⟩ := hx
    obtain ⟨b', cs, ty', h4, h5, h6, h7, _⟩ := hw.boxAt h2 row hrow (noBar_of_rowP hp.1)
    rw [h2] at h4
    simp at h4
    subst h4
    obtain ⟨v, h8, h9⟩ := load_row (b := b) (o := 0) hp.2 (h6.plain hp.1) (fun i x hx => by simp [World.cell?, h5]; simpa using hx)
    refine ⟨v, ?_, h9⟩
    simp only [Nat.zero_add] at h8
    simp only [h3, asAddr, Sem.run_bind, Sem.run_pure, Result.andThen_ok]
    simpa [Instr.loadAt, Instr.sureAddr] using h8
   ·exact hp.elim
  ·exact hp.elim
theorem run_resGs {Γ : Ctx} {σ : Nat → AV} {h : Hp} {a : Act} {e : Env} (hs : ∀ i, i < Γ.nt → RA e (σ i) (a.tmps.getD i undef)) (hw : WInv Γ h e) : ∀ (rs : List ResultVar), (rs.all (resIn Γ.nt)) = true → (aResGs Γ.P σ h rs).1 →
  ∃ vs, (rs.mapM fun r => (match r with | .tmp t => pure (a.tmps.getD t undef) | .cell x ty => do loadVar ty (← asAddr (a.tmps.getD x undef)) : Sem Value)).run Γ.P e.w = .ok vs e.w ∧ RAs e (aResGs Γ.P σ h rs).2 vs
 | [], _, _ => ⟨[], by simp, trivial⟩
 | r :: rs, hin, hp => by
  simp only [List.all_cons, Bool.and_eq_true] at hin
  obtain ⟨v, h1, h2⟩ := run_resG1 hs hw hin.1 hp.1
  obtain ⟨vs, h3, h4⟩ := run_resGs hs hw rs hin.2 hp.2
  refine ⟨v :: vs, ?_, h2, h4⟩
  rw [List.mapM_cons, Sem.run_bind, h1, Result.andThen_ok, Sem.run_bind, h3]
  rfl
theorem run_resGFn {Γ : Ctx} {σ : Nat → AV} {h : Hp} {a : Act} {e : Env} {fn : Func} {av : AV} (hs : ∀ i, i < Γ.nt → RA e (σ i) (a.tmps.getD i undef)) (hw : WInv Γ h e) (hin : (fn.results.toList.all (resIn Γ.nt)) = true)
  (hr : (aResGs Γ.P σ h fn.results.toList).1) (hj : joinA (aResGs Γ.P σ h fn.results.toList).2 = some av) : ∃ v, (results fn a.tmps).run Γ.P e.w = .ok v e.w ∧ RA e av v := by
 obtain ⟨vs, h1, h2⟩ := run_resGs hs hw fn.results.toList hin hr
 have hrun : (fn.results.mapM fun r => (match r with | .tmp t => pure (a.tmps.getD t undef) | .cell x ty => do loadVar ty (← asAddr (a.tmps.getD x undef)) : Sem Value)).run Γ.P e.w = .ok vs.toArray e.w := by
  rw [Array.mapM_eq_mapM_toList, Sem.run_map, h1]; rfl
 refine ⟨if h : vs.toArray.size = 1 then vs.toArray[0] else .tuple vs.toArray, ?_, ?_⟩
 ·unfold results
  rw [Sem.run_bind]
  erw [hrun]
  rfl
 ·generalize (aResGs Γ.P σ h fn.results.toList).2 = as at h2 hj
  match as, vs, h2, hj with
  | [], [], _, hj => cases hj; exact ⟨[], rfl, trivial⟩
  | [x], [v], ⟨k1, _⟩, hj => cases hj; simpa using k1
  | [x], v :: u :: vs, ⟨_, k2⟩, _ => exact k2.elim
  | x :: y :: as, [v], ⟨_, k2⟩, _ => exact k2.elim
  | x :: y :: as, v :: u :: vs, k, hj =>
   have hj : (compsOf (x :: y :: as)).map AV.tu = some av := hj
   obtain ⟨m, h3, rfl⟩ := Option.map_eq_some_iff.1 hj
   rw [dif_neg (by simp)]
   exact ⟨_, rfl, compsOf_rts h3 k⟩
structure FinWk (nb : Nat) (r : Ren) (h : Hp) (bs : List (List C)) (ts : List TypeId) : Prop where
 lb : bs.length = r.ps.length
 lt : ts.length = r.qs.length
 op : once r.ps = true
 oq : once r.qs = true
 bwk : BWk r h 1 bs
 twk : TWk r h (r.ps.length + 1) ts
 rt : (r.ps.take nb == List.range' 1 nb) = true
 nb : nb ≤ bs.length
def QL (t : Tab) (rs : List ResultVar) (nb : Nat) (out : GOut) : List (Nat × List C) → Option Value → (Nat → AV) → Hp → Prop
 | [], none, σ, h => match out with
  | .ret val bs ts => ∃ r av, FinWk nb r h bs ts ∧ (aResGs t.P σ h rs).1 ∧ joinA (aResGs t.P σ h rs).2 = some av ∧ AWk r av val
  | _ => False
 | [], some v, _, h => match out with
  | .pan v' bs ts => v = v' ∧ ∃ r, FinWk nb r h bs ts
  | _ => False
 | (f, cs) :: l, u, σ, h => ∃ d r, t.D f d ∧ d.u = u ∧ GHands h r ⟨d.args, d.bs, d.ts, .ret undefA [] []⟩ (cs.map AV.c) ∧ QL t rs nb out l d.u' σ (h.after r d.bs' d.ts')
theorem renE_canon {r : Ren} {e : Env} {Γ : Ctx} {bs : List (List C)} {ts : List TypeId} (hw : WInv Γ (hpL bs ts) (renE r e)) : Canon (renE r e) (bs.length + ts.length) := by
 intro i hi
 rcases hi with rfl | hi
 ·refine ⟨?_, ?_⟩
  ·simp [renE]
  ·simp [renE]
 ·exact (hw.fresh i (by simp [hpL]; omega)).2.2
theorem FinWk.fin {P : Program} {Γ : Ctx} {nb nt0 : Nat} {e0 e : Env} {r : Ren} {h : Hp} {bs : List (List C)} {ts : List TypeId} (k : FinWk nb r h bs ts) (hroot : Γ.root.length = nb) (hw : WInv Γ h e)
  (hΓ : ∀ e', WInv Γ (hpL bs ts) e' → WInv (ctxG P nb nt0 e0) (hpL bs ts) e') : GFin P nb nt0 e0 bs ts (renE r e) := by
 have h1 := ren_inv r k.lb k.lt k.op k.oq k.bwk k.twk k.rt hroot hw
 exact ⟨hΓ _ h1, renE_canon h1, k.nb⟩
theorem QL_sound {t : Tab} (ht : TabOk t) {Γ : Ctx} (hP : t.P = Γ.P) {nb nt0 : Nat} {out : GOut} {fn : Func} (hroot : Γ.root.length = nb) {e0 : Env} (hΓ : ∀ bs ts e', WInv Γ (hpL bs ts) e' → WInv (ctxG Γ.P nb nt0 e0) (hpL bs ts) e')
  (hin : (fn.results.toList.all (resIn Γ.nt)) = true) : ∀ (l : List (Nat × List C)) (u : Option Value) (σ : Nat → AV) (h : Hp) (a : Act) (e : Env) (dl : List Deferred), QL t fn.results.toList nb out l u σ h → RDl e l dl →
   (∀ i, i < Γ.nt → RA e (σ i) (a.tmps.getD i undef)) → WInv Γ h e → Leaves Γ.P fn a.tmps (GPost Γ.P e0 nb nt0 out) dl (modeOf u) e.w
 | [], none, σ, h, a, e, dl, hq, hd, hs, hw => by
  cases dl with
  | cons _ _ => exact hd.elim
  | nil =>
   unfold QL at hq
   split at hq
   ·obtain ⟨r, av, k1, k2, k3, k4⟩ := hq
    rw [hP] at k2 k3
    obtain ⟨v, h1, h2⟩ := run_resGFn (Γ := Γ) hs hw hin k2 k3
    exact ⟨v, h1, v, renE r e, rfl, rfl, k1.fin hroot hw (hΓ _ _), AWk.ra k4 h2⟩
   ·exact hq.elim
 | [], some v, σ, h, a, e, dl, hq, hd, hs, hw => by
  cases dl with
  | cons _ _ => exact hd.elim
  | nil =>
   unfold QL at hq
   split at hq
   ·obtain ⟨rfl, r, k1⟩ := hq
    exact ⟨renE r e, rfl, rfl, k1.fin hroot hw (hΓ _ _)⟩
   ·exact hq.elim
 | (f, cs) :: l, u, σ, h, a, e, dl, hq, hd, hs, hw => by
  cases dl with
  | nil => exact hd.elim
  | cons q dl =>
   obtain ⟨⟨cap, vs, k1, k2, k3⟩, hd⟩ := hd
   obtain ⟨d, r, hD, hu, hH, hq⟩ := hq
   obtain ⟨hcall, hdok⟩ := ht.df _ _ hD
   rw [hP] at hcall hdok
   have hands : Hands Γ h e r d.bs d.ts := ⟨hw, hH.lb, hH.lt, hH.op, hH.oq, hH.bwk, hH.twk, hH.live⟩
   obtain ⟨q1, q2⟩ := hands.enter
   have hargs : RAs e (cs.map AV.c) vs := by
    have : ∀ {cs : List C} {vs : List Value}, RCs e cs vs → RAs e (cs.map AV.c) vs := by
     intro cs
     induction cs with
     | nil => intro vs h; cases vs with | nil => trivial | cons _ _ => exact h.elim
     | cons c cs ih => intro vs h; cases vs with
      | nil => exact h.elim
      | cons v vs => exact ⟨h.1, ih h.2⟩
    exact this k3
   refine ⟨by cases u <;> simp [modeOf], .func f, cap, f, ⟨vs⟩, k1, ?_, ?_⟩
   ·rw [k1]
    simp only [invoke, k2]
    exact hcall _ _
   ·have := hdok (renE r e) vs q1 q2 (AsWk.ras hH.args hargs)
    rw [hu] at this
    refine this.mono ?_
    rintro en u' w' ⟨v, e', rfl, hst, rfl, p1, p2, p3⟩
    show Leaves Γ.P fn a.tmps _ dl (settle u') e'.w
    rw [hst]
    have hle := hands.le p1
    exact QL_sound ht hP hroot hΓ hin l d.u' σ _ a (backE h e e') dl hq (hd.mono hle) (fun i hi => RA.mono hle (hs i hi)) (hands.leave p1 p2 p3)
def QGen (t : Tab) (fn : Func) (nb : Nat) (out : GOut) : APost := fun ex σ h =>
 match ex with
 | .ret => QL t fn.results.toList nb out (dfL (σ DS)) none σ h
 | .normal => QL t fn.results.toList nb out (dfL (σ DS)) none σ h
 | .panic chain => ∃ v, chain = [{ v := v, recovered := false }] ∧ QL t fn.results.toList nb out (dfL (σ DS)) (some v) σ h
 | _ => False
def QGenW (t : Tab) (fn : Func) (nb : Nat) (out : GOut) : APost := fun ex σ h => ∃ σ' h', Wk nb σ h σ' h' ∧ QGen t fn nb out ex σ' h'
theorem RAs.get {e : Env} : ∀ {l : List AV} {vs : List Value}, RAs e l vs → ∀ i, (h : i < l.length) → ∃ v, vs[i]? = some v ∧ RA e l[i] v
 | [], [], _, i, h => by simp at h
 | a :: l, v :: vs, ⟨k1, k2⟩, i, h => by
  cases i with
  | zero => exact ⟨v, rfl, k1⟩
  | succ i => simpa using RAs.get k2 i (by simpa using h)
theorem slots0 {nt : Nat} {args : List AV} {vs : List Value} {e : Env} (h : RAs e args vs) (hl : args.length ≤ nt) (hd : nt ≤ DS) :
  SlotsOk nt [] (sig0 args) { tmps := (⟨vs⟩ : Array Value) ++ Array.replicate (nt - (⟨vs⟩ : Array Value).size) undef, defers := [] } e := by
 have hlen := h.length
 refine ⟨by simp [hlen]; omega, ⟨⟨[], rfl, by rw [sig0_ds (by omega)]; trivial⟩, hd⟩, fun i hi => ?_⟩
 rcases Nat.lt_or_ge i args.length with hlt | hge
 ·obtain ⟨v, h1, h2⟩ := h.get i hlt
  have e1 : sig0 args i = args[i] := by simp [sig0, hlt]
  have e2 : ((⟨vs⟩ : Array Value) ++ Array.replicate (nt - (⟨vs⟩ : Array Value).size) undef).getD i undef = v := by
   have hiv : i < vs.length := by omega
   simp only [Array.getD_eq_getD_getElem?]
   rw [Array.getElem?_append_left (by simpa using hiv)]
   simp [h1]
  rw [e1, e2]
  exact h2
 ·have e1 : sig0 args i = undefA := by simp [sig0, hge]
  have e2 : ((⟨vs⟩ : Array Value) ++ Array.replicate (nt - (⟨vs⟩ : Array Value).size) undef).getD i undef = undef := by
   simp only [Array.getD_eq_getD_getElem?]
   rw [Array.getElem?_append_right (by simp; omega), Array.getElem?_replicate]
   split <;> rfl
  rw [e1, e2]
  exact RA.undef e
theorem WInv.reCtx {Γ Γ' : Ctx} {h : Hp} {e : Env} (hw : WInv Γ h e) (h1 : Γ'.P = Γ.P) (h2 : Γ'.w0 = Γ.w0) (h3 : Γ'.B = Γ.B) (h4 : Γ'.S0 = Γ.S0) (h5 : Γ'.M = Γ.M) (h6 : Γ'.root = Γ.root) : WInv Γ' h e := by
 obtain ⟨P, w0, B, S0, M, nt, ds, root⟩ := Γ
 obtain ⟨P', w0', B', S0', M', nt', ds', root'⟩ := Γ'
 simp only at h1 h2 h3 h4 h5 h6
 subst h1; subst h2; subst h3; subst h4; subst h5; subst h6
 exact ⟨hw.g0, hw.os, hw.tape, hw.output, hw.grown, hw.hB, hw.old, hw.sdom, hw.s0, hw.s0B, hw.keep, hw.box, hw.inj, hw.tok, hw.tokinj, hw.fresh, hw.nx0, hw.rt⟩
theorem gen_of_aC {t : Tab} {pure : Nat → Nat} (ht : TabOk t) (hm : t.P.follows .mixedOrders = true) (hpure : ∀ n, pure n = 0 → (t.Φ n).isSome) (hnp : ∀ n, pure n = 1 → ∀ g, t.G n g → ∃ val bs ts, g.out = .ret val bs ts) {f : Nat} {fn : Func} {c : Code} (hf : t.P.funcs[f]? = some fn) (hb : fn.body = some c)
  (hcode : (codeOk pure t.lk fn.ntmps c && fn.results.toList.all (resIn fn.ntmps) && fn.ntmps.ble DS) = true) (g : GI) (hrt : t.rt = g.bs.length) (hl : g.args.length ≤ fn.ntmps)
  (h : aC t c (sig0 g.args) (hpL g.bs g.ts) (QGenW t fn g.bs.length g.out)) : GenOk t.P f g := by
 simp only [Bool.and_eq_true] at hcode
 intro e vs hw hcan hargs
 refine calls_of_wp_defers hf hb ?_
 let Γ : Ctx := { ctxG t.P g.bs.length g.ts.length e with nt := fn.ntmps }
 have hwΓ : WInv Γ (hpL g.bs g.ts) e := hw.reCtx rfl rfl rfl rfl rfl rfl
 have hroot : Γ.root.length = g.bs.length := by simp [Γ, ctxG]
 refine aC_sound (Γ := Γ) (t := t) (pure := pure) ht rfl (by rw [hroot, hrt]) hm hpure hnp c _ _ hcode.1.1 (fun ex σ h a e1 hk hs1 hw1 => ?_) _ _ _ e h (slots0 hargs hl (Nat.le_of_ble_eq_true hcode.2)) hwΓ
 obtain ⟨σ, h, hwk, hk⟩ := hk
 obtain ⟨e', he', hs', hw'⟩ := hwk Γ a e1 hroot hs1 hw1
 rw [← he']
 have fin : ∀ u, QL t fn.results.toList g.bs.length g.out (dfL (σ DS)) u σ h → Leaves t.P fn a.tmps (GPost t.P e g.bs.length g.ts.length g.out) a.defers (modeOf u) e'.w := fun u hq => by
  obtain ⟨r, h1, h2⟩ := hs'.2.1.1
  have h1 : a.defers = r := by simpa [Γ, ctxG] using h1
  rw [h1]
  exact QL_sound (Γ := Γ) ht rfl hroot (fun bs ts e' hw => hw.reCtx rfl rfl rfl rfl rfl rfl) hcode.1.2 _ u σ h a e' r hq h2 hs'.2.2 hw'
 cases ex with
 | normal => exact fin none hk
 | ret => exact fin none hk
 | exit id => exact hk.elim
 | goto l => exact hk.elim
 | panic ch =>
  obtain ⟨v, rfl, hk⟩ := hk
  exact fin (some v) hk
 | outgrown => exact hk.elim
def QDf (t : Tab) (fn : Func) (d : DI) : APost := fun ex σ h =>
 match ex with
 | .ret => (∃ r, FinWk d.bs.length r h d.bs' d.ts') ∧ (aResGs t.P σ h fn.results.toList).1 ∧ (joinA (aResGs t.P σ h fn.results.toList).2).isSome = true ∧ dfL (σ DS) = [] ∧ d.u' = d.u
 | .normal => (∃ r, FinWk d.bs.length r h d.bs' d.ts') ∧ (aResGs t.P σ h fn.results.toList).1 ∧ (joinA (aResGs t.P σ h fn.results.toList).2).isSome = true ∧ dfL (σ DS) = [] ∧ d.u' = d.u
 | _ => False
theorem dfr_of_aC {t : Tab} {pure : Nat → Nat} (ht : TabOk t) (hm : t.P.follows .mixedOrders = true) (hpure : ∀ n, pure n = 0 → (t.Φ n).isSome) (hnp : ∀ n, pure n = 1 → ∀ g, t.G n g → ∃ val bs ts, g.out = .ret val bs ts) {f : Nat} {fn : Func} {c : Code} (hf : t.P.funcs[f]? = some fn) (hb : fn.body = some c)
  (hcode : (codeOk pure t.lk fn.ntmps c && fn.results.toList.all (resIn fn.ntmps) && fn.ntmps.ble DS) = true) (d : DI) (hrt : t.rt = d.bs.length) (hl : d.args.length ≤ fn.ntmps)
  (h : aC t c (sig0 d.args) (hpL d.bs d.ts) (QDf t fn d)) : DOk t.P f d := by
 simp only [Bool.and_eq_true] at hcode
 intro e vs hw hcan hargs
 let Γ : Ctx := { ctxG t.P d.bs.length d.ts.length e with nt := fn.ntmps }
 have hwΓ : WInv Γ (hpL d.bs d.ts) e := hw.reCtx rfl rfl rfl rfl rfl rfl
 have hroot : Γ.root.length = d.bs.length := by simp [Γ, ctxG]
 have key := callsD_of_wp (P := t.P) (u := modeOf d.u) (args := ⟨vs⟩) (w := e.w) (R := fun en w' => ∃ v e', en = .returned v ∧ d.u' = d.u ∧ e'.w = w' ∧ GFin t.P d.bs.length d.ts.length e d.bs' d.ts' e') hf hb (by
  refine aC_sound (Γ := Γ) (t := t) (pure := pure) ht rfl (by rw [hroot, hrt]) hm hpure hnp c _ _ hcode.1.1 (fun ex σ h a e' hk hs' hw' => ?_) _ _ _ e h (slots0 hargs hl (Nat.le_of_ble_eq_true hcode.2)) hwΓ
  have fin : ((∃ r, FinWk d.bs.length r h d.bs' d.ts') ∧ (aResGs t.P σ h fn.results.toList).1 ∧ (joinA (aResGs t.P σ h fn.results.toList).2).isSome = true ∧ dfL (σ DS) = [] ∧ d.u' = d.u) →
    a.defers = [] ∧ ∃ v, (results fn a.tmps).run t.P e'.w = .ok v e'.w ∧ ∃ v2 e2, Ending.returned v = .returned v2 ∧ d.u' = d.u ∧ e2.w = e'.w ∧ GFin t.P d.bs.length d.ts.length e d.bs' d.ts' e2 := by
   rintro ⟨⟨r, k1⟩, k2, k3, k4, k5⟩
   obtain ⟨av, k3⟩ := Option.isSome_iff_exists.1 k3
   obtain ⟨v, h1, h2⟩ := run_resGFn (Γ := Γ) hs'.2.2 hw' hcode.1.2 k2 k3
   exact ⟨hs'.2.1.1.nil k4, v, h1, v, renE r e', rfl, k5, rfl, k1.fin hroot hw' (fun e' hw => hw.reCtx rfl rfl rfl rfl rfl rfl)⟩
  cases ex with
  | normal => exact fin hk
  | ret => exact fin hk
  | exit id => exact hk.elim
  | goto l => exact hk.elim
  | panic ch => exact hk.elim
  | outgrown => exact hk.elim)
 refine key.mono ?_
 rintro en u' w' ⟨rfl, v, e', h1, h2, h3⟩
 refine ⟨v, e', h1, ?_, h3⟩
 rw [h2]
 cases d.u <;> rfl
def recOps (k ty : Nat) (ps : String) : Array Oper := #[{ dst := some k, op := .call { callee := .builtin .recover, args := #[], argTypes := #[] }, type := ty, pos := ps, after := #[], guard := none }]
theorem dok_recover {t : Tab} {pure : Nat → Nat} (ht : TabOk t) (hm : t.P.follows .mixedOrders = true) (hpure : ∀ n, pure n = 0 → (t.Φ n).isSome) (hnp : ∀ n, pure n = 1 → ∀ g, t.G n g → ∃ val bs ts, g.out = .ret val bs ts) {f : Nat} {fn : Func} {id k ty : Nat} {ps : String} {c : Code} (hf : t.P.funcs[f]? = some fn) (hb : fn.body = some (.seq (.region id (recOps k ty ps) false) c))
  (hcode : (codeOk pure t.lk fn.ntmps c && fn.results.toList.all (resIn fn.ntmps) && fn.ntmps.ble DS && k.blt DS) = true) (d : DI) (hu' : d.u' = none) (hrt : t.rt = d.bs.length) (hl : d.args.length ≤ fn.ntmps)
  (h : aC t c (upd (sig0 d.args) k (.c (.d (.v (d.u.getD .nilIface))))) (hpL d.bs d.ts) (QDf t fn { d with u' := d.u })) : DOk t.P f d := by
 simp only [Bool.and_eq_true] at hcode
 intro e vs hw hcan hargs
 let Γ : Ctx := { ctxG t.P d.bs.length d.ts.length e with nt := fn.ntmps }
 have hwΓ : WInv Γ (hpL d.bs d.ts) e := hw.reCtx rfl rfl rfl rfl rfl rfl
 have hroot : Γ.root.length = d.bs.length := by simp [Γ, ctxG]
 refine callsD_of_wpS hf hb fun c₀ cs hu => ?_
 have key : ∀ c1 : Frame, (∃ u1, c1 = { c₀ with mode := u1 } ∧ settle u1 = .returning) → c.wpS t.P (bodyPostS t.P fn c₀ cs fun en u' w' => ∃ v e', en = .returned v ∧ settle u' = modeOf d.u' ∧ e'.w = w' ∧ GFin t.P d.bs.length d.ts.length e d.bs' d.ts' e')
   (({ tmps := (⟨vs⟩ : Array Value) ++ Array.replicate (fn.ntmps - (⟨vs⟩ : Array Value).size) undef, defers := [] } : Act).put (some k) (d.u.getD .nilIface)) (c1 :: cs) e.w := by
  rintro _ ⟨u1, rfl, hs1⟩
  refine wpS_of_wp ?_
  refine aC_sound (Γ := Γ) (t := t) (pure := pure) ht rfl (by rw [hroot, hrt]) hm hpure hnp c _ _ hcode.1.1.1 (fun ex σ h a e' hk hs' hw' => ?_) _ _ _ e h ((slots0 hargs hl (Nat.le_of_ble_eq_true hcode.1.2)).put (some k) (by
   have := Nat.le_of_ble_eq_true hcode.2
   simp only [ne_eq, Option.some.injEq]
   intro h; subst h; exact absurd this (Nat.not_succ_le_self _)) (.v _)) hwΓ
  have fin : ((∃ r, FinWk d.bs.length r h d.bs' d.ts') ∧ (aResGs t.P σ h fn.results.toList).1 ∧ (joinA (aResGs t.P σ h fn.results.toList).2).isSome = true ∧ dfL (σ DS) = [] ∧ d.u = d.u) →
    a.defers = [] ∧ ∃ u', ({ c₀ with mode := u1 } : Frame) :: cs = { c₀ with mode := u' } :: cs ∧ ∃ v, (results fn a.tmps).run t.P e'.w = .ok v e'.w ∧ ∃ v2 e2, Ending.returned v = .returned v2 ∧ settle u' = modeOf d.u' ∧ e2.w = e'.w ∧ GFin t.P d.bs.length d.ts.length e d.bs' d.ts' e2 := by
   rintro ⟨⟨r, k1⟩, k2, k3, k4, -⟩
   obtain ⟨av, k3⟩ := Option.isSome_iff_exists.1 k3
   obtain ⟨v, h1, h2⟩ := run_resGFn (Γ := Γ) hs'.2.2 hw' hcode.1.1.2 k2 k3
   exact ⟨hs'.2.1.1.nil k4, u1, rfl, v, h1, v, renE r e', rfl, by rw [hs1, hu']; rfl, rfl, k1.fin hroot hw' (fun e' hw => hw.reCtx rfl rfl rfl rfl rfl rfl)⟩
  cases ex with
  | normal => exact fin hk
  | ret => exact fin hk
  | exit id => exact hk.elim
  | goto l => exact hk.elim
  | panic ch => exact hk.elim
  | outgrown => exact hk.elim
 refine wpS_seq (wpS_region ?_)
 have hrun : ∀ (a : Act) (o : Oper), o.op = .call { callee := .builtin .recover, args := #[], argTypes := #[] } → (execOp a.eval o).run t.P e.w = .ok .recover e.w := by
  intro a o ho; simp only [execOp, ho]; rfl
 show wpOpsS t.P (recOps k ty ps) _ [0] _ _ _
 unfold wpOpsS
 have h0 : (recOps k ty ps)[0]? = some { dst := some k, op := .call { callee := .builtin .recover, args := #[], argTypes := #[] }, type := ty, pos := ps, after := #[], guard := none } := rfl
 rw [h0]
 dsimp only
 rw [if_pos (by rfl), hrun _ _ rfl]
 cases hdu : d.u with
 | none =>
  rw [hdu] at hu key
  have : recoverD (c₀ :: cs) = none := by simp [recoverD, hu, modeOf]
  simp only [this]
  exact key c₀ ⟨c₀.mode, rfl, by rw [hu]; rfl⟩
 | some v =>
  rw [hdu] at hu key
  have : recoverD (c₀ :: cs) = some (v, { c₀ with mode := .panicking [{ v := v, recovered := true }] } :: cs) := by simp [recoverD, hu, modeOf]
  simp only [this]
  exact key _ ⟨_, rfl, rfl⟩
end Go.Proofs.YtjgimofnepechaaGreatDoor
namespace Go.Proofs.YtjgimofnepechaaGreatDoor
open Go.RowKit
section
variable {t : Tab} {ops : Array Oper} {pure : Nat → Nat} {fl : List Nat}
abbrev LK := Hp → Prop
abbrev XK := LK → List Hp → (Nat → AV) → Hp → Prop
def clsF (pure : Nat → Nat) (fl : List Nat) (op : Op) (dst : Option Tmp) : Nat :=
 if cls pure op = 1 ∧ (match dst with | some d => fl.contains d | none => false) = false then 8 else cls pure op
def ClsOf (pure : Nat → Nat) (op : Op) (c : Nat) : Prop := cls pure op = c ∨ (c = 8 ∧ cls pure op = 1)
theorem clsF_of (pure : Nat → Nat) (fl : List Nat) (op : Op) (dst : Option Tmp) : ClsOf pure op (clsF pure fl op dst) := by
 unfold ClsOf clsF
 by_cases h : cls pure op = 1 ∧ (match dst with | some d => fl.contains d | none => false) = false
 ·rw [if_pos h]; exact .inr ⟨rfl, h.1⟩
 ·rw [if_neg h]; exact .inl rfl
theorem ClsOf.ne {pure : Nat → Nat} {op : Op} {c : Nat} (h : ClsOf pure op c) (h8 : c ≠ 8) : cls pure op = c := h.resolve_right fun x => h8 x.1
theorem ClsOf.read {pure : Nat → Nat} {op : Op} {c : Nat} (h : ClsOf pure op c) (h8 : c = 1 ∨ c = 8) : cls pure op = 1 := by
 rcases h with h | h
 ·rcases h8 with h8 | h8
  ·rw [h, h8]
  ·exfalso
   rw [h8] at h
   have : ∀ op, cls pure op ≠ 8 := fun op h => by
    cases op <;> simp only [cls] at h <;> first | (exact absurd h (by decide)) | skip
    case call c =>
     obtain ⟨callee, args, ts⟩ := c
     cases callee with
     | invoke _ _ => simp at h
     | value f => cases f <;> simp at h; (repeat' split at h) <;> simp at h
     | builtin b => cases b <;> simp at h; (have := clsA_cases ts.toList; omega)
   exact this op h
 ·exact h.2
def lockOf (t : Tab) (op : Op) (σ : Nat → AV) (h h' : Hp) : Prop := (aop t.P t.Φ t.Ψ op σ h').pre ∧ (aop t.P t.Φ t.Ψ op σ h').val = (aop t.P t.Φ t.Ψ op σ h).val
def aRunX (t : Tab) (c : Nat) (op : Op) (dst : Option Tmp) (K : XK) (Kp : Value → Hp → Prop) (L : LK) (M : List Hp) (σ : Nat → AV) (h : Hp) : Prop :=
 if c = 1 then (∀ h0 ∈ M, lockOf t op σ h h0) ∧ aRun t op dst (K (fun h' => L h' ∧ lockOf t op σ h h') M) Kp σ h
 else if c = 2 ∨ c = 4 ∨ c = 6 then aRun t op dst (fun σ' h' => L h' ∧ K L (h :: M) σ' h') Kp σ h
 else aRun t op dst (K L M) Kp σ h
def aOpX (t : Tab) (pure : Nat → Nat) (fl : List Nat) (ops : Array Oper) (o : Oper) (K : XK) (Kp : Value → Hp → Prop) (L : LK) (M : List Hp) (σ : Nat → AV) (h : Hp) : Prop :=
 aGuard ops σ o.guard (aRunX t (clsF pure fl o.op o.dst) o.op o.dst K Kp L M σ h) (K L M (putA σ o.dst undefA) h)
def KMono (K : XK) : Prop := ∀ (L L' : LK) (M M' : List Hp) (σ : Nat → AV) (h : Hp), (∀ h, L h → L' h) → (∀ x ∈ M', x ∈ M) → K L M σ h → K L' M' σ h
theorem aRunX_mono {c : Nat} {op : Op} {dst : Option Tmp} {K K' : XK} {Kp Kp' : Value → Hp → Prop} (hk : ∀ L M σ h, K L M σ h → K' L M σ h) (hp : ∀ v h, Kp v h → Kp' v h) {L : LK} {M : List Hp} {σ : Nat → AV} {h : Hp} (hh : aRunX t c op dst K Kp L M σ h) : aRunX t c op dst K' Kp' L M σ h := by
 unfold aRunX at *
 split at hh
 ·rename_i h0; rw [if_pos h0]; exact ⟨hh.1, aRun_mono (fun _ _ => hk _ _ _ _) hp hh.2⟩
 ·rename_i h0; rw [if_neg h0]
  split at hh
  ·rename_i h1; rw [if_pos h1]; exact aRun_mono (fun _ _ x => ⟨x.1, hk _ _ _ _ x.2⟩) hp hh
  ·rename_i h1; rw [if_neg h1]; exact aRun_mono (fun _ _ => hk _ _ _ _) hp hh
theorem aOpX_mono {o : Oper} {K K' : XK} {Kp Kp' : Value → Hp → Prop} (hk : ∀ L M σ h, K L M σ h → K' L M σ h) (hp : ∀ v h, Kp v h → Kp' v h) {L : LK} {M : List Hp} {σ : Nat → AV} {h : Hp} (hh : aOpX t pure fl ops o K Kp L M σ h) : aOpX t pure fl ops o K' Kp' L M σ h :=
 aGuard_mono (aRunX_mono hk hp) (hk _ _ _ _) hh
theorem aOpX_lm {o : Oper} {K : XK} {Kp : Value → Hp → Prop} (hk : KMono K) {L L' : LK} {M M' : List Hp} {σ : Nat → AV} {h : Hp} (hL : ∀ h, L h → L' h) (hM : ∀ x ∈ M', x ∈ M) (hh : aOpX t pure fl ops o K Kp L M σ h) : aOpX t pure fl ops o K Kp L' M' σ h := by
 refine aGuard_mono (fun x => ?_) (hk _ _ _ _ _ _ hL hM) hh
 unfold aRunX at *
 split at x
 ·rename_i h0; rw [if_pos h0]
  exact ⟨fun h0 hm => x.1 h0 (hM _ hm), aRun_mono (fun _ _ => hk _ _ _ _ _ _ (fun h' q => ⟨hL _ q.1, q.2⟩) hM) (fun _ _ x => x) x.2⟩
 ·rename_i h0; rw [if_neg h0]
  split at x
  ·rename_i h1; rw [if_pos h1]
   exact aRun_mono (fun _ _ q => ⟨hL _ q.1, hk _ _ _ _ _ _ hL (fun y hy => by
    rcases List.mem_cons.1 hy with rfl | hy
    ·simp
    ·exact List.mem_cons_of_mem _ (hM _ hy)) q.2⟩) (fun _ _ x => x) x
  ·rename_i h1; rw [if_neg h1]
   exact aRun_mono (fun _ _ => hk _ _ _ _ _ _ hL hM) (fun _ _ x => x) x
theorem aRunX_drop {c : Nat} {op : Op} {dst : Option Tmp} {K : XK} {Kp : Value → Hp → Prop} {L : LK} {M : List Hp} {σ : Nat → AV} {h : Hp} (hh : aRunX t c op dst K Kp L M σ h) : aRun t op dst (fun σ' h' => ∃ L M, K L M σ' h') Kp σ h := by
 unfold aRunX at hh
 split at hh
 ·exact aRun_mono (fun _ _ x => ⟨_, _, x⟩) (fun _ _ x => x) hh.2
 ·split at hh
  ·exact aRun_mono (fun _ _ x => ⟨_, _, x.2⟩) (fun _ _ x => x) hh
  ·exact aRun_mono (fun _ _ x => ⟨_, _, x⟩) (fun _ _ x => x) hh
theorem aRun_fresh {op : Op} {dst : Option Tmp} {K : (Nat → AV) → Hp → Prop} {Kp : Value → Hp → Prop} {σ : Nat → AV} {h : Hp} (hf : h.Fr) (x : aRun t op dst K Kp σ h) : aRun t op dst (fun σ' h' => h'.Fr ∧ K σ' h') Kp σ h := by
 unfold aRun at *
 split at x
 ·split at x
  ·rename_i hd
   rw [if_pos hd]
   unfold aDP at *
   split at x
   ·split at x
    ·exact ⟨hf, x⟩
    ·exact x.elim
   ·split at x
    ·exact x
    ·exact x.elim
   ·exact x.elim
  ·rename_i hd
   rw [if_neg hd]
   exact ⟨x.1, aop_fresh hf, x.2⟩
 ·obtain ⟨g, r, k1, k2, k3⟩ := x
  refine ⟨g, r, k1, k2, ?_⟩
  split at k3
  ·rename_i ho; exact ⟨after_fresh hf k2 _ _, k3⟩
  ·exact k3
theorem aOpX_fresh {o : Oper} {K : XK} {Kp : Value → Hp → Prop} {L : LK} {M : List Hp} {σ : Nat → AV} {h : Hp} (hf : h.Fr) (hh : aOpX t pure fl ops o K Kp L M σ h) : aOpX t pure fl ops o (fun L M σ' h' => h'.Fr ∧ K L M σ' h') Kp L M σ h := by
 refine aGuard_mono (fun x => ?_) (fun x => ⟨hf, x⟩) hh
 unfold aRunX at *
 split at x
 ·rename_i h0; rw [if_pos h0]; exact ⟨x.1, aRun_fresh hf x.2⟩
 ·rename_i h0; rw [if_neg h0]
  split at x
  ·rename_i h1; rw [if_pos h1]; exact aRun_mono (fun _ _ q => ⟨q.2.1, q.1, q.2.2⟩) (fun _ _ q => q) (aRun_fresh hf x)
  ·rename_i h1; rw [if_neg h1]; exact aRun_fresh hf x
theorem aOpX_drop {o : Oper} {K : XK} {Kp : Value → Hp → Prop} {L : LK} {M : List Hp} {σ : Nat → AV} {h : Hp} (hh : aOpX t pure fl ops o K Kp L M σ h) : aOp t ops o (fun σ' h' => ∃ L M, K L M σ' h') Kp σ h :=
 aGuard_mono aRunX_drop (fun x => ⟨_, _, x⟩) hh
def compatX (i j : Nat) : Bool := i != 7 && j != 7 && (i == 0 || (j == 0 && i != 6) || (i == 1 && (j == 1 || j == 2 || j == 3 || j == 4 || j == 6 || j == 8)) || (i == 8 && (j == 1 || j == 3 || j == 4 || j == 8)) || ((i == 2 || i == 3 || i == 4) && j == 1) || (i == 3 && j == 8))
theorem guard2 {σ : Nat → AV} {g g' : Option (Nat × Bool)} {Pi Pj RR RS SR SS RR' RS' SR' SS' : Prop} (hh : aGuard ops σ g (Pi ∧ aGuard ops σ g' RR RS) (aGuard ops σ g' SR SS))
  (h1 : Pi → RR → Pj ∧ RR') (h2 : SR → Pj ∧ SR') (h3 : Pi → RS → RS') (h4 : SS → SS') : aGuard ops σ g' (Pj ∧ aGuard ops σ g RR' SR') (aGuard ops σ g RS' SS') := by
 have k := aGuard_swap (aGuard_mono (r' := aGuard ops σ g' (Pj ∧ RR') RS') (s' := aGuard ops σ g' (Pj ∧ SR') SS') (fun x => aGuard_mono (h1 x.1) (h3 x.1) x.2) (fun x => aGuard_mono h2 h4 x) hh)
 exact aGuard_mono (fun x => aGuard_and x) (fun x => x) k
def preX (t : Tab) (c : Nat) (op : Op) (L : LK) (M : List Hp) (σ : Nat → AV) (h : Hp) : Prop :=
 (c = 1 → ∀ h0 ∈ M, lockOf t op σ h h0) ∧ (aop t.P t.Φ t.Ψ op σ h).pre ∧ ((c = 2 ∨ c = 4 ∨ c = 6) → L (aop t.P t.Φ t.Ψ op σ h).h)
def lkX (t : Tab) (c : Nat) (op : Op) (L : LK) (σ : Nat → AV) (h : Hp) : LK := fun h' => L h' ∧ (c = 1 → lockOf t op σ h h')
def mX (c : Nat) (M : List Hp) (h : Hp) : List Hp := if c = 2 ∨ c = 4 ∨ c = 6 then h :: M else M
theorem aRunX_own {c : Nat} {op : Op} {dst : Option Tmp} {K : XK} (hk : KMono K) {Kp : Value → Hp → Prop} {L : LK} {M : List Hp} {σ : Nat → AV} {h : Hp} (hg : gCall t σ op = none) (hd : ¬ isDP op = true) :
  aRunX t c op dst K Kp L M σ h ↔ preX t c op L M σ h ∧ K (lkX t c op L σ h) (mX c M h) (putA σ dst (aop t.P t.Φ t.Ψ op σ h).val) (aop t.P t.Φ t.Ψ op σ h).h := by
 unfold aRunX aRun preX mX
 simp only [hg, if_neg hd]
 by_cases h1 : c = 1
 ·subst h1
  simp only [if_true, true_implies]
  constructor
  ·rintro ⟨a, b, d⟩
   exact ⟨⟨a, b, fun hx => by rcases hx with hx | hx | hx <;> cases hx⟩, hk _ _ _ _ _ _ (fun h' q => ⟨q.1, fun _ => q.2⟩) (fun x hx => hx) d⟩
  ·rintro ⟨⟨a, b, _⟩, d⟩
   exact ⟨a, b, hk _ _ _ _ _ _ (fun h' q => ⟨q.1, q.2 rfl⟩) (fun x hx => hx) d⟩
 ·rw [if_neg h1]
  by_cases h2 : c = 2 ∨ c = 4 ∨ c = 6
  ·simp only [if_pos h2]
   constructor
   ·rintro ⟨b, l, d⟩
    exact ⟨⟨fun hx => absurd hx h1, b, fun _ => l⟩, hk _ _ _ _ _ _ (fun h' q => ⟨q, fun hx => absurd hx h1⟩) (fun x hx => hx) d⟩
   ·rintro ⟨⟨_, b, l⟩, d⟩
    exact ⟨b, l h2, hk _ _ _ _ _ _ (fun h' q => q.1) (fun x hx => hx) d⟩
  ·simp only [if_neg h2]
   constructor
   ·rintro ⟨b, d⟩
    exact ⟨⟨fun hx => absurd hx h1, b, fun hx => absurd hx h2⟩, hk _ _ _ _ _ _ (fun h' q => ⟨q, fun hx => absurd hx h1⟩) (fun x hx => hx) d⟩
   ·rintro ⟨⟨_, b, _⟩, d⟩
    exact ⟨b, hk _ _ _ _ _ _ (fun h' q => q.1) (fun x hx => hx) d⟩
theorem KMono.opX {o : Oper} {K : XK} {Kp : Value → Hp → Prop} (hk : KMono K) : KMono (fun L M σ h => aOpX t pure fl ops o K Kp L M σ h) := fun _ _ _ _ _ _ hL hM hh => aOpX_lm hk hL hM hh
theorem swapX (hpure : ∀ n, pure n = 0 → (t.Φ n).isSome) {i j : Op} {ci cj : Nat} (hi : ClsOf pure i ci) (hj : ClsOf pure j cj) (hc : compatX ci cj = true) {L : LK} {M : List Hp} {σ : Nat → AV} {h : Hp} (hfr : h.Fr)
  (h1 : preX t ci i L M σ h) (h2 : preX t cj j (lkX t ci i L σ h) (mX ci M h) σ (aop t.P t.Φ t.Ψ i σ h).h) :
  preX t cj j L M σ h ∧ (preX t ci i (lkX t cj j L σ h) (mX cj M h) σ (aop t.P t.Φ t.Ψ j σ h).h) ∧
  (aop t.P t.Φ t.Ψ j σ h).val = (aop t.P t.Φ t.Ψ j σ (aop t.P t.Φ t.Ψ i σ h).h).val ∧ (aop t.P t.Φ t.Ψ i σ (aop t.P t.Φ t.Ψ j σ h).h).val = (aop t.P t.Φ t.Ψ i σ h).val ∧
  (aop t.P t.Φ t.Ψ i σ (aop t.P t.Φ t.Ψ j σ h).h).h = (aop t.P t.Φ t.Ψ j σ (aop t.P t.Φ t.Ψ i σ h).h).h ∧
  (∀ x ∈ mX ci (mX cj M h) (aop t.P t.Φ t.Ψ j σ h).h, x ∈ mX cj (mX ci M h) (aop t.P t.Φ t.Ψ i σ h).h) ∧
  (∀ h', lkX t cj j (lkX t ci i L σ h) σ (aop t.P t.Φ t.Ψ i σ h).h h' → lkX t ci i (lkX t cj j L σ h) σ (aop t.P t.Φ t.Ψ j σ h).h h') := by
 simp only [compatX, Bool.and_eq_true, Bool.or_eq_true, beq_iff_eq, bne_iff_ne] at hc
 obtain ⟨_, hc⟩ := hc
 unfold preX at *
 rcases hc with ((((hc | hc) | ⟨hci, hcj⟩) | ⟨hci, hcj⟩) | ⟨hci, hcj⟩) | ⟨hci, hcj⟩
 ·-- it only reckons
  subst hc
  have hc := hi.ne (by decide)
  have a := fun h h' => aop_cls0 (P := t.P) (Φ := t.Φ) (Ψ := t.Ψ) hpure hc σ h h'
  have ah := fun h => (a h h).2.2
  simp only [mX, lkX] at *
  simp only [ah] at *
  refine ⟨⟨?_, h2.2.1, fun q => (h2.2.2 q).1⟩, ⟨by simp, by rw [(a _ h).1]; exact h1.2.1, by simp⟩, trivial, (a _ h).2.1, trivial, by simp, fun h' q => ⟨⟨q.1.1, q.2⟩, by simp⟩⟩
  intro q; have := h2.1 q; simpa using this
 ·obtain ⟨hc, hi6⟩ := hc
  subst hc
  have hc := hj.ne (by decide)
  have a := fun h h' => aop_cls0 (P := t.P) (Φ := t.Φ) (Ψ := t.Ψ) hpure hc σ h h'
  have ah := fun h => (a h h).2.2
  simp only [mX, lkX] at *
  simp only [ah] at *
  refine ⟨⟨by simp, by rw [(a h (aop t.P t.Φ t.Ψ i σ h).h).1]; exact h2.2.1, by simp⟩, ⟨?_, h1.2.1, fun q => ⟨h1.2.2 q, by simp⟩⟩, (a _ _).2.1, trivial, trivial, by simp, fun h' q => ⟨⟨q.1.1, by simp⟩, q.1.2⟩⟩
  intro q; have := h1.1 q; simpa using this
 ·-- it reads, with a lock
  subst hci
  have hci := hi.ne (by decide)
  have ah := fun h => aop_cls1 (P := t.P) (Φ := t.Φ) (Ψ := t.Ψ) hci σ h
  simp only [mX, lkX] at h1 h2 ⊢
  simp only [ah] at h1 h2 ⊢
  simp only [true_implies, show ¬ ((1 : Nat) = 2 ∨ 1 = 4 ∨ 1 = 6) by decide, if_false] at h1 h2 ⊢
  have hl : (aop t.P t.Φ t.Ψ i σ (aop t.P t.Φ t.Ψ j σ h).h).pre ∧ (aop t.P t.Φ t.Ψ i σ (aop t.P t.Φ t.Ψ j σ h).h).val = (aop t.P t.Φ t.Ψ i σ h).val := by
   have hvy : (cj = 2 ∨ cj = 4 ∨ cj = 6) → lockOf t i σ h (aop t.P t.Φ t.Ψ j σ h).h := fun q => (h2.2.2 q).2
   rcases hcj with ((((hcj | hcj) | hcj) | hcj) | hcj) | hcj
   ·rw [aop_cls1 (P := t.P) (Φ := t.Φ) (Ψ := t.Ψ) (hj.read (.inl hcj)) σ h]; exact ⟨h1.2.1, rfl⟩
   ·exact hvy (.inl hcj)
   ·have b1 := aop_cls3 (P := t.P) (Φ := t.Φ) (Ψ := t.Ψ) ((hj.ne (by omega)).trans hcj) σ h
    rw [aop_load_same (P := t.P) (Φ := t.Φ) (Ψ := t.Ψ) hci σ b1]; exact ⟨h1.2.1, rfl⟩
   ·exact hvy (.inr (.inl hcj))
   ·exact hvy (.inr (.inr hcj))
   ·rw [aop_cls1 (P := t.P) (Φ := t.Φ) (Ψ := t.Ψ) (hj.read (.inr hcj)) σ h]; exact ⟨h1.2.1, rfl⟩
  refine ⟨⟨h2.1, h2.2.1, fun q => (h2.2.2 q).1⟩, ⟨?_, hl.1, by simp⟩, trivial, hl.2, trivial, by simp, fun h' q => ⟨⟨q.1.1, q.2⟩, ?_⟩⟩
  ·intro h0 hm
   unfold lockOf
   rw [hl.2]
   split at hm
   ·rcases List.mem_cons.1 hm with rfl | hm
    ·exact ⟨h1.2.1, rfl⟩
    ·exact h1.1 h0 hm
   ·exact h1.1 h0 hm
  ·have := q.1.2
   unfold lockOf at *
   rw [hl.2]; exact this
 ·-- it reads, without one
  subst hci
  have hci := hi.read (.inr rfl)
  have ah := fun h => aop_cls1 (P := t.P) (Φ := t.Φ) (Ψ := t.Ψ) hci σ h
  simp only [mX, lkX] at h1 h2 ⊢
  simp only [ah] at h1 h2 ⊢
  simp only [show ¬ ((8 : Nat) = 1) by decide, show ¬ ((8 : Nat) = 2 ∨ 8 = 4 ∨ 8 = 6) by decide, if_false, false_implies, and_true, true_and] at h1 h2 ⊢
  have hl : (aop t.P t.Φ t.Ψ i σ (aop t.P t.Φ t.Ψ j σ h).h).pre ∧ (aop t.P t.Φ t.Ψ i σ (aop t.P t.Φ t.Ψ j σ h).h).val = (aop t.P t.Φ t.Ψ i σ h).val := by
   rcases hcj with ((hcj | hcj) | hcj) | hcj
   ·rw [aop_cls1 (P := t.P) (Φ := t.Φ) (Ψ := t.Ψ) (hj.read (.inl hcj)) σ h]; exact ⟨h1, rfl⟩
   ·have b1 := aop_cls3 (P := t.P) (Φ := t.Φ) (Ψ := t.Ψ) ((hj.ne (by omega)).trans hcj) σ h
    rw [aop_load_same (P := t.P) (Φ := t.Φ) (Ψ := t.Ψ) hci σ b1]; exact ⟨h1, rfl⟩
   ·refine aop_load hci σ h _ (fun n row hn => ?_) h1
    obtain ⟨row', hr⟩ := aop_cls4 (P := t.P) (Φ := t.Φ) (Ψ := t.Ψ) ((hj.ne (by omega)).trans hcj) σ h
    rw [hr]
    have hne : n ≠ h.nx := fun he => by have := hfr n (by omega); rw [this] at hn; cases hn
    simp [Hp.box, upd, hne, hn]
   ·rw [aop_cls1 (P := t.P) (Φ := t.Φ) (Ψ := t.Ψ) (hj.read (.inr hcj)) σ h]; exact ⟨h1, rfl⟩
  exact ⟨h2, hl.1, hl.2, fun x hx => hx, fun h' q => q⟩
 ·-- it is read, with a lock
  subst hcj
  have hcj := hj.ne (by decide)
  have ah := fun h => aop_cls1 (P := t.P) (Φ := t.Φ) (Ψ := t.Ψ) hcj σ h
  simp only [mX, lkX] at h1 h2 ⊢
  simp only [ah] at h1 h2 ⊢
  simp only [true_implies, show ¬ ((1 : Nat) = 2 ∨ 1 = 4 ∨ 1 = 6) by decide, if_false] at h1 h2 ⊢
  have hi1 : ci ≠ 1 := by omega
  have hl : (aop t.P t.Φ t.Ψ j σ h).pre ∧ (aop t.P t.Φ t.Ψ j σ h).val = (aop t.P t.Φ t.Ψ j σ (aop t.P t.Φ t.Ψ i σ h).h).val := by
   have hvy : (ci = 2 ∨ ci = 4 ∨ ci = 6) → lockOf t j σ (aop t.P t.Φ t.Ψ i σ h).h h := fun q => h2.1 h (by rw [if_pos q]; simp)
   rcases hci with (hci | hci) | hci
   ·exact hvy (.inl hci)
   ·have b1 := aop_cls3 (P := t.P) (Φ := t.Φ) (Ψ := t.Ψ) ((hi.ne (by omega)).trans hci) σ h
    have := h2.2.1
    rw [aop_load_same (P := t.P) (Φ := t.Φ) (Ψ := t.Ψ) hcj σ b1] at this ⊢; exact ⟨this, rfl⟩
   ·exact hvy (.inr (.inl hci))
  refine ⟨⟨?_, hl.1, by simp⟩, ⟨fun q => absurd q hi1, h1.2.1, fun q => ⟨h1.2.2 q, ?_⟩⟩, hl.2, trivial, trivial, by simp, fun h' q => ⟨⟨q.1.1, ?_⟩, fun q => absurd q hi1⟩⟩
  ·intro h0 hm
   unfold lockOf
   rw [hl.2]
   exact h2.1 h0 (by split <;> simp [hm])
  ·unfold lockOf
   rw [hl.2]; exact ⟨h2.2.1, rfl⟩
  ·have := q.2
   unfold lockOf at *
   rw [hl.2]; exact this
 ·-- it is read behind an append to a token
  subst hci hcj
  have hcj := hj.read (.inr rfl)
  have hci := hi.ne (by decide)
  have ah := fun h => aop_cls1 (P := t.P) (Φ := t.Φ) (Ψ := t.Ψ) hcj σ h
  simp only [mX, lkX] at h1 h2 ⊢
  simp only [ah] at h1 h2 ⊢
  simp only [show ¬ ((8 : Nat) = 1) by decide, show ¬ ((3 : Nat) = 1) by decide, show ¬ ((8 : Nat) = 2 ∨ 8 = 4 ∨ 8 = 6) by decide, show ¬ ((3 : Nat) = 2 ∨ 3 = 4 ∨ 3 = 6) by decide, if_false, false_implies, and_true, true_and] at h1 h2 ⊢
  have b1 := aop_cls3 (P := t.P) (Φ := t.Φ) (Ψ := t.Ψ) hci σ h
  rw [aop_load_same (P := t.P) (Φ := t.Φ) (Ψ := t.Ψ) hcj σ b1] at h2 ⊢
  exact ⟨h2, h1, rfl, fun x hx => hx, fun h' q => q⟩
theorem lockOf_put {o : Oper} {σ : Nat → AV} {dst : Option Tmp} {v : AV} {h h' : Hp} (hd : ∀ d, dst = some d → d ∉ o.looksAt ops) : lockOf t o.op (putA σ dst v) h h' = lockOf t o.op σ h h' := by
 unfold lockOf; rw [aop_put hd, aop_put hd]
theorem preX_put {o : Oper} {c : Nat} {L : LK} {M : List Hp} {σ : Nat → AV} {dst : Option Tmp} {v : AV} {h : Hp} (hd : ∀ d, dst = some d → d ∉ o.looksAt ops) : preX t c o.op L M (putA σ dst v) h = preX t c o.op L M σ h := by
 unfold preX; simp only [lockOf_put hd, aop_put hd]
theorem lkX_put {o : Oper} {c : Nat} {L : LK} {σ : Nat → AV} {dst : Option Tmp} {v : AV} {h : Hp} (hd : ∀ d, dst = some d → d ∉ o.looksAt ops) : lkX t c o.op L (putA σ dst v) h = lkX t c o.op L σ h := by
 unfold lkX; simp only [lockOf_put hd]
theorem aOpX_own {o : Oper} {K : XK} (hk : KMono K) {Kp : Value → Hp → Prop} {L : LK} {M : List Hp} {σ : Nat → AV} {h : Hp} (hg : gCall t σ o.op = none) (hd : ¬ isDP o.op = true) :
  aOpX t pure fl ops o K Kp L M σ h = aGuard ops σ o.guard (preX t (clsF pure fl o.op o.dst) o.op L M σ h ∧ K (lkX t (clsF pure fl o.op o.dst) o.op L σ h) (mX (clsF pure fl o.op o.dst) M h) (putA σ o.dst (aop t.P t.Φ t.Ψ o.op σ h).val) (aop t.P t.Φ t.Ψ o.op σ h).h) (K L M (putA σ o.dst undefA) h) := by
 unfold aOpX
 rw [propext (aRunX_own hk hg hd)]
theorem compatX_7 {i j : Nat} (h : compatX i j = true) : i ≠ 7 ∧ j ≠ 7 := by
 simp only [compatX, Bool.and_eq_true, bne_iff_ne] at h
 exact h.1
theorem clsF_7 {op : Op} {dst : Option Tmp} (h : cls pure op = 7) : clsF pure fl op dst = 7 := by
 unfold clsF
 rw [if_neg (by rw [h]; simp), h]
theorem clsF_g {op : Op} {dst : Option Tmp} (h : cls pure op = 2 ∨ cls pure op = 6) : clsF pure fl op dst = cls pure op := by
 unfold clsF
 rw [if_neg (by omega)]
theorem commX_own (hpure : ∀ n, pure n = 0 → (t.Φ n).isSome) {oi oj : Oper} (hap : oi.apart ops oj = true) (hc : compatX (clsF pure fl oi.op oi.dst) (clsF pure fl oj.op oj.dst) = true) {K : XK} (hk : KMono K) {Kp : Value → Hp → Prop} {L : LK} {M : List Hp} {σ : Nat → AV} {h : Hp} (hfr : h.Fr)
  (hgi : gCall t σ oi.op = none) (hgj : gCall t σ oj.op = none) (hh : aOpX t pure fl ops oi (fun L M σ h => aOpX t pure fl ops oj K Kp L M σ h) Kp L M σ h) : aOpX t pure fl ops oj (fun L M σ h => aOpX t pure fl ops oi K Kp L M σ h) Kp L M σ h := by
 obtain ⟨h1, h2, h3⟩ := Oper.apart_spec hap
 have hd1 := isDP_cls (pure := pure) (fun h => (compatX_7 hc).1 ((clsF_7 h)))
 have hd2 := isDP_cls (pure := pure) (fun h => (compatX_7 hc).2 ((clsF_7 h)))
 have gj : ∀ v, gCall t (putA σ oi.dst v) oj.op = none := fun v => by rw [gCall_put h1]; exact hgj
 have gi : ∀ v, gCall t (putA σ oj.dst v) oi.op = none := fun v => by rw [gCall_put h3]; exact hgi
 rw [aOpX_own hk.opX hgi hd1] at hh
 rw [aOpX_own hk.opX hgj hd2]
 simp only [aOpX_own hk (gj _) hd2, aGuard_put (o := oj) h1, preX_put (o := oj) h1, lkX_put (o := oj) h1, aop_put (o := oj) h1] at hh
 simp only [aOpX_own hk (gi _) hd1, aGuard_put (o := oi) h3, preX_put (o := oi) h3, lkX_put (o := oi) h3, aop_put (o := oi) h3]
 refine guard2 hh (fun a b => ?_) (fun b => ⟨b.1, ?_⟩) (fun a b => ⟨a, ?_⟩) (fun b => ?_)
 ·obtain ⟨s1, s2, s3, s4, s5, s6, s7⟩ := swapX hpure (clsF_of pure fl oi.op oi.dst) (clsF_of pure fl oj.op oj.dst) hc hfr a b.1
  refine ⟨s1, s2, ?_⟩
  rw [s5, s4, s3, ← putA_comm h2]
  exact hk _ _ _ _ _ _ s7 s6 b.2
 ·rw [← putA_comm h2]; exact b.2
 ·rw [← putA_comm h2]; exact b
 ·rw [← putA_comm h2]; exact b
theorem aOpX_gen (hpure : ∀ n, pure n = 0 → (t.Φ n).isSome) {o : Oper} {K : XK} {Kp : Value → Hp → Prop} {L : LK} {M : List Hp} {σ : Nat → AV} {h : Hp} {x : Nat × List AV} (hx : gCall t σ o.op = some x) :
  aOpX t pure fl ops o K Kp L M σ h = aGuard ops σ o.guard (aGen t x h (fun v h' => L h' ∧ K L (h :: M) (putA σ o.dst v) h') Kp) (K L M (putA σ o.dst undefA) h) := by
 have hc := gCall_cls hpure hx
 have he := clsF_g (fl := fl) (dst := o.dst) hc
 unfold aOpX aRunX
 simp only [he]
 rw [if_neg (by omega), if_pos (by omega)]
 unfold aRun
 simp only [hx]
theorem lkX_call (hpure : ∀ n, pure n = 0 → (t.Φ n).isSome) {i : Op} (hc : cls pure i = 0 ∨ cls pure i = 1) {L : LK} {M : List Hp} {σ : Nat → AV} {h h' : Hp} (h1 : preX t (cls pure i) i L M σ h) (h2 : lkX t (cls pure i) i L σ h h') :
  preX t (cls pure i) i L (h :: M) σ h' ∧ (aop t.P t.Φ t.Ψ i σ h').val = (aop t.P t.Φ t.Ψ i σ h).val ∧ (aop t.P t.Φ t.Ψ i σ h').h = h' ∧ (∀ h2, lkX t (cls pure i) i L σ h h2 → lkX t (cls pure i) i L σ h' h2) := by
 rcases hc with hc | hc
 ·have a := fun h h' => aop_cls0 (P := t.P) (Φ := t.Φ) (Ψ := t.Ψ) hpure hc σ h h'
  unfold preX lkX at *
  simp only [hc] at *
  exact ⟨⟨by simp, by rw [(a h' h).1]; exact h1.2.1, by simp⟩, (a _ _).2.1, (a h' h).2.2, fun _ q => ⟨q.1, by simp⟩⟩
 ·have ah := fun h => aop_cls1 (P := t.P) (Φ := t.Φ) (Ψ := t.Ψ) hc σ h
  unfold preX lkX at *
  simp only [hc, true_implies] at *
  refine ⟨⟨fun h0 hm => ?_, h2.2.1, by simp⟩, h2.2.2, ah _, fun h3 q => ⟨q.1, ?_⟩⟩
  ·unfold lockOf
   rw [h2.2.2]
   rcases List.mem_cons.1 hm with rfl | hm
   ·exact ⟨h1.2.1, rfl⟩
   ·exact h1.1 h0 hm
  ·have := q.2
   unfold lockOf at *
   rw [h2.2.2]; exact this
theorem commX_gen (hpure : ∀ n, pure n = 0 → (t.Φ n).isSome) {oi oj : Oper} (hap : oi.apart ops oj = true) (hc : clsF pure fl oi.op oi.dst = 0 ∨ clsF pure fl oi.op oi.dst = 1) {K : XK} (hk : KMono K) {Kp : Value → Hp → Prop} {L : LK} {M : List Hp} {σ : Nat → AV} {h : Hp}
  {x : Nat × List AV} (hx : gCall t σ oj.op = some x) (hgi : gCall t σ oi.op = none) (hh : aOpX t pure fl ops oi (fun L M σ h => aOpX t pure fl ops oj K Kp L M σ h) Kp L M σ h) : aOpX t pure fl ops oj (fun L M σ h => aOpX t pure fl ops oi K Kp L M σ h) Kp L M σ h := by
 obtain ⟨h1, h2, h3⟩ := Oper.apart_spec hap
 have he : clsF pure fl oi.op oi.dst = cls pure oi.op := ((clsF_of pure fl oi.op oi.dst).ne (by omega)).symm
 simp only [he] at hc
 have hd1 : ¬ isDP oi.op = true := isDP_cls (pure := pure) (by omega)
 have gj : ∀ v, gCall t (putA σ oi.dst v) oj.op = some x := fun v => by rw [gCall_put h1]; exact hx
 have gi : ∀ v, gCall t (putA σ oj.dst v) oi.op = none := fun v => by rw [gCall_put h3]; exact hgi
 rw [aOpX_own hk.opX hgi hd1] at hh
 rw [aOpX_gen hpure hx]
 simp only [aOpX_gen hpure (gj _), aGuard_put (o := oj) h1] at hh
 simp only [aOpX_own hk (gi _) hd1, aGuard_put (o := oi) h3, preX_put (o := oi) h3, lkX_put (o := oi) h3, aop_put (o := oi) h3]
 simp only [he] at hh ⊢
 have hhi : (aop t.P t.Φ t.Ψ oi.op σ h).h = h := by
  rcases hc with hc | hc
  ·exact (aop_cls0 (P := t.P) (Φ := t.Φ) (Ψ := t.Ψ) hpure hc σ h h).2.2
  ·exact aop_cls1 (P := t.P) (Φ := t.Φ) (Ψ := t.Ψ) hc σ h
 have hmi : ∀ M h, mX (cls pure oi.op) M h = M := fun M h => by unfold mX; rw [if_neg (by omega)]
 simp only [hhi, hmi] at hh ⊢
 have hh' := aGuard_swap (aGuard_mono (fun x => aGuard_mono (fun y => (⟨x.1, y⟩ : preX t (cls pure oi.op) oi.op L M σ h ∧ _)) (fun y => (⟨x.1, y⟩ : preX t (cls pure oi.op) oi.op L M σ h ∧ _)) x.2) (fun x => x) hh)
 refine aGuard_mono (fun y => ?_) (fun y => ?_) hh'
 ·refine aGen_mono (fun v h' k => ?_) (fun _ _ k => k) (gen_guard y)
  refine aGuard_and (aGuard_mono (fun z => ?_) (fun z => ?_) k)
  ·obtain ⟨z1, z2, z3⟩ := z
   obtain ⟨a1, a2, a3, a4⟩ := lkX_call hpure hc z1 z2
   refine ⟨z2.1, a1, ?_⟩
   rw [a2, a3, ← putA_comm h2]
   exact hk _ _ _ _ _ _ a4 (fun _ q => q) z3
  ·refine ⟨z.1, ?_⟩
   rw [← putA_comm h2]; exact z.2
 ·refine aGuard_mono (fun z => ?_) (fun z => ?_) y
  ·refine ⟨z.1, ?_⟩
   rw [← putA_comm h2]; exact z.2
  ·rw [← putA_comm h2]; exact z
theorem commX_gen2 (hpure : ∀ n, pure n = 0 → (t.Φ n).isSome) (hnp : ∀ n, pure n = 1 → ∀ g, t.G n g → ∃ val bs ts, g.out = .ret val bs ts) {oi oj : Oper} (hap : oi.apart ops oj = true) (hc : clsF pure fl oj.op oj.dst = 0 ∨ clsF pure fl oj.op oj.dst = 1) (h6 : cls pure oi.op ≠ 6) {K : XK} (hk : KMono K) {Kp : Value → Hp → Prop} {L : LK} {M : List Hp} {σ : Nat → AV} {h : Hp}
  {x : Nat × List AV} (hx : gCall t σ oi.op = some x) (hgj : gCall t σ oj.op = none) (hh : aOpX t pure fl ops oi (fun L M σ h => aOpX t pure fl ops oj K Kp L M σ h) Kp L M σ h) : aOpX t pure fl ops oj (fun L M σ h => aOpX t pure fl ops oi K Kp L M σ h) Kp L M σ h := by
 obtain ⟨h1, h2, h3⟩ := Oper.apart_spec hap
 have hret : ∀ g, t.G x.1 g → ∃ val bs ts, g.out = .ret val bs ts := by
  have hc := gCall_cls hpure hx
  unfold gCall at hx
  split at hx
  case h_2 => cases hx
  rename_i c heq
  rw [heq] at hc h6
  obtain ⟨callee, args, ts⟩ := c
  simp only at hx
  split at hx
  case h_2 => cases hx
  rename_i f
  cases f with
  | func n =>
   simp only [evA] at hx
   split at hx
   ·cases hx
    simp only [cls] at hc h6
    split at h6
    ·rename_i hz; rw [if_pos hz] at hc; omega
    ·split at h6
     ·rename_i h1; exact hnp n h1
     ·exact absurd rfl h6
   ·cases hx
  | _ => exact absurd rfl h6
 have he : clsF pure fl oj.op oj.dst = cls pure oj.op := ((clsF_of pure fl oj.op oj.dst).ne (by omega)).symm
 simp only [he] at hc
 have hd1 : ¬ isDP oj.op = true := isDP_cls (pure := pure) (by omega)
 have gj : ∀ v, gCall t (putA σ oi.dst v) oj.op = none := fun v => by rw [gCall_put h1]; exact hgj
 have gi : ∀ v, gCall t (putA σ oj.dst v) oi.op = some x := fun v => by rw [gCall_put h3]; exact hx
 rw [aOpX_gen hpure hx] at hh
 rw [aOpX_own hk.opX hgj hd1]
 simp only [aOpX_own hk (gj _) hd1, aGuard_put (o := oj) h1, preX_put (o := oj) h1, lkX_put (o := oj) h1, aop_put (o := oj) h1] at hh
 simp only [aOpX_gen hpure (gi _), aGuard_put (o := oi) h3]
 simp only [he] at hh ⊢
 have hhj : ∀ h, (aop t.P t.Φ t.Ψ oj.op σ h).h = h := fun h => by
  rcases hc with hc | hc
  ·exact (aop_cls0 (P := t.P) (Φ := t.Φ) (Ψ := t.Ψ) hpure hc σ h h).2.2
  ·exact aop_cls1 (P := t.P) (Φ := t.Φ) (Ψ := t.Ψ) hc σ h
 have hmj : ∀ M h, mX (cls pure oj.op) M h = M := fun M h => by unfold mX; rw [if_neg (by omega)]
 simp only [hhj, hmj] at hh ⊢
 -- what it reads behind the call it reads ahead of it
 have back : ∀ h', preX t (cls pure oj.op) oj.op L (h :: M) σ h' → preX t (cls pure oj.op) oj.op L M σ h ∧ (aop t.P t.Φ t.Ψ oj.op σ h).val = (aop t.P t.Φ t.Ψ oj.op σ h').val ∧ (∀ h2, lkX t (cls pure oj.op) oj.op L σ h' h2 → lkX t (cls pure oj.op) oj.op L σ h h2) ∧ (L h' → lkX t (cls pure oj.op) oj.op L σ h h') := by
  intro h' q
  rcases hc with hc | hc
  ·have a := fun h h' => aop_cls0 (P := t.P) (Φ := t.Φ) (Ψ := t.Ψ) hpure hc σ h h'
   unfold preX lkX at *
   simp only [hc] at *
   exact ⟨⟨by simp, by rw [(a h h').1]; exact q.2.1, by simp⟩, (a _ _).2.1, fun _ q => ⟨q.1, by simp⟩, fun q => ⟨q, by simp⟩⟩
  ·unfold preX lkX at *
   simp only [hc, true_implies] at *
   have q0 := q.1 h (by simp)
   unfold lockOf at q0
   refine ⟨⟨fun h0 hm => ?_, q0.1, by simp⟩, q0.2, fun h3 r => ⟨r.1, ?_⟩, fun r => ⟨r, ?_⟩⟩
   ·have := q.1 h0 (by simp [hm])
    unfold lockOf at *
    rw [q0.2]; exact this
   ·have := r.2
    unfold lockOf at *
    rw [q0.2]; exact this
   ·unfold lockOf
    rw [q0.2]; exact ⟨q.2.1, rfl⟩
 have pull : ∀ {g : Option (Nat × Bool)} {A B : AV → Hp → Prop}, aGen t x h (fun v h' => L h' ∧ aGuard ops σ g (A v h') (B v h')) Kp → aGuard ops σ g (aGen t x h (fun v h' => L h' ∧ A v h') Kp) (aGen t x h (fun v h' => L h' ∧ B v h') Kp) := by
  intro g A B hg
  obtain ⟨gi, r, k1, k2, k3⟩ := hg
  obtain ⟨val, bs, ts, ho⟩ := hret gi k1
  rw [ho] at k3
  refine aGuard_mono (fun y => ?_) (fun y => ?_) k3.2
  ·exact ⟨gi, r, k1, k2, by rw [ho]; exact ⟨k3.1, y⟩⟩
  ·exact ⟨gi, r, k1, k2, by rw [ho]; exact ⟨k3.1, y⟩⟩
 have hh' := aGuard_swap (aGuard_mono (fun y => pull y) (fun y => y) hh)
 refine aGuard_mono (fun y => aGuard_and (aGuard_mono (fun z => ?_) (fun z => ?_) y)) (fun y => aGuard_mono (fun z => ?_) (fun z => ?_) y) hh'
 ·obtain ⟨gi, r, k1, k2, k3⟩ := z
  obtain ⟨val, bs, ts, ho⟩ := hret gi k1
  rw [ho] at k3
  obtain ⟨b1, b2, b3, b4⟩ := back _ k3.2.1
  refine ⟨b1, gi, r, k1, k2, ?_⟩
  rw [ho]
  refine ⟨b4 k3.1, ?_⟩
  rw [b2, ← putA_comm h2]
  exact hk _ _ _ _ _ _ b3 (fun _ q => q) k3.2.2
 ·refine ⟨z.1, ?_⟩
  rw [← putA_comm h2]; exact z.2
 ·refine aGen_mono (fun v h' k => ⟨k.1, ?_⟩) (fun _ _ k => k) z
  rw [← putA_comm h2]; exact k.2
 ·rw [← putA_comm h2]; exact z
theorem commX (hpure : ∀ n, pure n = 0 → (t.Φ n).isSome) (hnp : ∀ n, pure n = 1 → ∀ g, t.G n g → ∃ val bs ts, g.out = .ret val bs ts) {oi oj : Oper} (hap : oi.apart ops oj = true) (hc : compatX (clsF pure fl oi.op oi.dst) (clsF pure fl oj.op oj.dst) = true) {K : XK} (hk : KMono K) {Kp : Value → Hp → Prop} {L : LK} {M : List Hp} {σ : Nat → AV} {h : Hp} (hfr : h.Fr)
  (hh : aOpX t pure fl ops oi (fun L M σ h => aOpX t pure fl ops oj K Kp L M σ h) Kp L M σ h) : aOpX t pure fl ops oj (fun L M σ h => aOpX t pure fl ops oi K Kp L M σ h) Kp L M σ h := by
 have hc' := hc
 simp only [compatX, Bool.and_eq_true, Bool.or_eq_true, beq_iff_eq, bne_iff_ne] at hc'
 cases hgi : gCall t σ oi.op with
 | some xi =>
  have k1 := gCall_cls hpure hgi
  have e1 := clsF_g (fl := fl) (dst := oi.dst) k1
  cases hgj : gCall t σ oj.op with
  | some xj =>
   have k2 := gCall_cls hpure hgj
   have e2 := clsF_g (fl := fl) (dst := oj.dst) k2
   omega
  | none => exact commX_gen2 hpure hnp hap (by omega) (by omega) hk hgi hgj hh
 | none =>
  cases hgj : gCall t σ oj.op with
  | some xj =>
   have k2 := gCall_cls hpure hgj
   have e2 := clsF_g (fl := fl) (dst := oj.dst) k2
   exact commX_gen hpure hap (by omega) hk hgj hgi hh
  | none => exact commX_own hpure hap hc hk hfr hgi hgj hh
def aOpAtX (t : Tab) (pure : Nat → Nat) (fl : List Nat) (ops : Array Oper) (i : Nat) (K : XK) (Kp : Value → Hp → Prop) (L : LK) (M : List Hp) (σ : Nat → AV) (h : Hp) : Prop :=
 match ops[i]? with
 | none => K L M σ h
 | some o => aOpX t pure fl ops o K Kp L M σ h
def aAnyX (t : Tab) (pure : Nat → Nat) (fl : List Nat) (ops : Array Oper) (K : (Nat → AV) → Hp → Prop) (Kp : Value → Hp → Prop) : Nat → Array Bool → LK → List Hp → (Nat → AV) → Hp → Prop
 | 0, listed, _, _, σ, h => Region.ready .any ops listed = [] ∧ K σ h
 | f + 1, listed, L, M, σ, h => (Region.ready .any ops listed = [] → K σ h) ∧ ∀ i ∈ Region.ready .any ops listed, aOpAtX t pure fl ops i (fun L M σ h => aAnyX t pure fl ops K Kp f (listed.setIfInBounds i true) L M σ h) Kp L M σ h
theorem aAnyX_lm {K : (Nat → AV) → Hp → Prop} {Kp : Value → Hp → Prop} : ∀ {f : Nat} {listed : Array Bool}, KMono (fun L M σ h => aAnyX t pure fl ops K Kp f listed L M σ h)
 | 0, _, _, _, _, _, _, _, _, _, hh => hh
 | f + 1, _, _, _, _, _, _, _, hL, hM, hh => ⟨hh.1, fun i hi => by
  have := hh.2 i hi
  unfold aOpAtX at *
  split
  ·rename_i h0; rw [h0] at this; exact aAnyX_lm _ _ _ _ _ _ hL hM this
  ·rename_i o h0; rw [h0] at this; exact aOpX_lm aAnyX_lm hL hM this⟩
theorem aAnyX_drop {K : (Nat → AV) → Hp → Prop} {Kp : Value → Hp → Prop} : ∀ {f : Nat} {listed : Array Bool} {L : LK} {M : List Hp} {σ : Nat → AV} {h : Hp}, aAnyX t pure fl ops K Kp f listed L M σ h → aAny t ops K Kp f listed σ h
 | 0, _, _, _, _, _, hh => hh
 | f + 1, _, _, _, _, _, hh => ⟨hh.1, fun i hi => by
  have := hh.2 i hi
  unfold aOpAtX at this
  unfold aOpAt
  split
  ·rename_i h0; rw [h0] at this; exact aAnyX_drop this
  ·rename_i o h0; rw [h0] at this
   exact aOp_mono (fun _ _ ⟨_, _, x⟩ => aAnyX_drop x) (fun _ _ x => x) (aOpX_drop this)⟩
def freeAtX (pure : Nat → Nat) (fl : List Nat) (ops : Array Oper) (listed : Array Bool) (k : Nat) : Bool :=
 match ops[k]? with
 | none => false
 | some ok => (List.range ops.size).all fun j => j == k || listed.getD j true || waitsOn ops j k ||
   (match ops[j]? with
    | some oj => ok.apart ops oj && (compatX (clsF pure fl ok.op ok.dst) (clsF pure fl oj.op oj.dst) || waits ops 9 j k)
    | none => true)
theorem free_readyX {listed : Array Bool} {i j : Nat} {oi oj : Oper} (hi : ops[i]? = some oi) (hj : ops[j]? = some oj) (hji : j ≠ i) (hdc : DC ops listed) (hin : ∀ m, listed.getD m false = true → (ops[m]?).isSome)
  (hf : freeAtX pure fl ops listed i = true) (hiun : listed.getD i true = false) (hr : j ∈ Region.ready .any ops listed) : oi.apart ops oj = true ∧ compatX (clsF pure fl oi.op oi.dst) (clsF pure fl oj.op oj.dst) = true := by
 obtain ⟨hjun, oj', hoj', hall⟩ := mem_ready.1 hr
 rw [hj] at hoj'; cases hoj'
 have hjlt : j < ops.size := (Array.getElem?_eq_some_iff.1 hj).1
 simp only [freeAtX, hi, List.all_eq_true, List.mem_range] at hf
 have h1 := hf j hjlt
 simp only [hj, hjun, Bool.or_eq_true, beq_iff_eq, hji, Bool.false_eq_true, or_false, false_or, Bool.and_eq_true] at h1
 have hnot : listed.getD i false = false := getD_tf hiun
 rcases h1 with h1 | ⟨h1, h2 | h2⟩
 ·simp only [waitsOn, hj, List.any_eq_true, Bool.and_eq_true, beq_iff_eq] at h1
  obtain ⟨e, he, hb, rfl⟩ := h1
  have := hall e (by simpa using he) hb
  rw [hnot] at this; cases this
 ·exact ⟨h1, h2⟩
 ·have := waits_listed hdc 9 j oj hj hall hin h2
  rw [hnot] at this; cases this
theorem freeAtX_set {listed : Array Bool} {i j : Nat} (h : freeAtX pure fl ops listed i = true) (hji : j ≠ i) : freeAtX pure fl ops (listed.setIfInBounds j true) i = true := by
 unfold freeAtX at *
 split
 ·simp_all
 ·rename_i ok hk
  simp only [hk, List.all_eq_true, List.mem_range] at h ⊢
  intro m hm
  have := h m hm
  by_cases hmj : j = m
  ·subst hmj
   have hs : (listed.setIfInBounds j true).getD j true = true := by simp [Array.getElem?_setIfInBounds]; split <;> simp_all
   simp [hs]
  ·rw [getD_set_ne true hmj]; exact this
theorem aAnyX_first {K : (Nat → AV) → Hp → Prop} {Kp : Value → Hp → Prop} (hpure : ∀ n, pure n = 0 → (t.Φ n).isSome) (hnp : ∀ n, pure n = 1 → ∀ g, t.G n g → ∃ val bs ts, g.out = .ret val bs ts) {i : Nat} {oi : Oper} (hi : ops[i]? = some oi) :
  ∀ (fuel : Nat) (listed : Array Bool) (L : LK) (M : List Hp) (σ : Nat → AV) (h : Hp), unl listed ≤ fuel + 1 → h.Fr → DC ops listed → (∀ m, listed.getD m false = true → (ops[m]?).isSome) → freeAtX pure fl ops listed i = true → i ∈ Region.ready .any ops listed →
   aOpX t pure fl ops oi (fun L M σ h => aAnyX t pure fl ops K Kp fuel (listed.setIfInBounds i true) L M σ h) Kp L M σ h → aAnyX t pure fl ops K Kp (fuel + 1) listed L M σ h := by
 intro fuel
 induction fuel with
 | zero =>
  intro listed L M σ h hu hfr hdc hin hf hr H
  refine ⟨fun h' => (by rw [h'] at hr; cases hr), fun j hj => ?_⟩
  by_cases hji : j = i
  ·subst hji; simp only [aOpAtX, hi]; exact H
  ·have h2 := ready_mono hj hji
   have h3 : Region.ready .any ops (listed.setIfInBounds i true) = [] := unl_ready (by have := unl_set (mem_ready.1 hr).1; omega)
   rw [h3] at h2
   cases h2
 | succ fuel ih =>
  intro listed L M σ h hu hfr hdc hin hf hr H
  refine ⟨fun h' => (by rw [h'] at hr; cases hr), fun j hj => ?_⟩
  by_cases hji : j = i
  ·subst hji; simp only [aOpAtX, hi]; exact H
  ·obtain ⟨hjun, oj, hoj, hall⟩ := mem_ready.1 hj
   have hiun := (mem_ready.1 hr).1
   obtain ⟨hap, hc⟩ := free_readyX hi hoj hji hdc hin hf hiun hj
   have h1 : aOpX t pure fl ops oi (fun L M σ h => aOpX t pure fl ops oj (fun L M σ h => aAnyX t pure fl ops K Kp fuel ((listed.setIfInBounds i true).setIfInBounds j true) L M σ h) Kp L M σ h) Kp L M σ h := aOpX_mono (fun L' M' σ' h' hx => by
    have := hx.2 j (ready_mono hj hji)
    simp only [aOpAtX, hoj] at this
    exact this) (fun _ _ x => x) H
   have h2 := aOpX_fresh hfr (commX hpure hnp hap hc aAnyX_lm hfr h1)
   simp only [aOpAtX, hoj]
   refine aOpX_mono (fun L' M' σ' h' hx => ih (listed.setIfInBounds j true) L' M' σ' h' (by have := unl_set hjun; omega) hx.1 (hdc.set hj) (in_set hin (by rw [hoj]; rfl)) (freeAtX_set hf hji) (ready_mono hr (Ne.symm hji)) ?_) (fun _ _ x => x) h2
   rw [Array.setIfInBounds_comm _ _ hji]
   exact hx.2
def aOpsX (t : Tab) (pure : Nat → Nat) (fl : List Nat) (ops : Array Oper) (K : XK) (Kp : Value → Hp → Prop) : List Oper → LK → List Hp → (Nat → AV) → Hp → Prop
 | [], L, M, σ, h => K L M σ h
 | o :: l, L, M, σ, h => aOpX t pure fl ops o (fun L M σ h => aOpsX t pure fl ops K Kp l L M σ h) Kp L M σ h
def Jcn (pure : Nat → Nat) (fl : List Nat) (ops : Array Oper) : Nat → Nat → Array Bool → Bool
 | 0, _, _ => true
 | f + 1, k, listed => (Region.ready .any ops listed).contains k && freeAtX pure fl ops listed k && Jcn pure fl ops f (k + 1) (listed.setIfInBounds k true)
def listX (n : Nat) : Nat → Nat → Array Bool → Array Bool
 | 0, _, l => l
 | f + 1, k, l => listX n f (k + 1) (l.setIfInBounds k true)
theorem aAnyX_lex {K : (Nat → AV) → Hp → Prop} {Kp : Value → Hp → Prop} (hpure : ∀ n, pure n = 0 → (t.Φ n).isSome) (hnp : ∀ n, pure n = 1 → ∀ g, t.G n g → ∃ val bs ts, g.out = .ret val bs ts) (n : Nat) : ∀ (l : List Oper) (k : Nat) (listed : Array Bool) (L : LK) (M : List Hp) (σ : Nat → AV) (h : Hp), unl listed ≤ l.length + n → h.Fr → DC ops listed → (∀ m, listed.getD m false = true → (ops[m]?).isSome) →
  (∀ j, j < l.length → l[j]? = ops[k + j]?) → Jcn pure fl ops l.length k listed = true → aOpsX t pure fl ops (fun L M σ h => aAnyX t pure fl ops K Kp n (listX n l.length k listed) L M σ h) Kp l L M σ h → aAnyX t pure fl ops K Kp (l.length + n) listed L M σ h
 | [], _, _, _, _, _, _, _, _, _, _, _, _, hh => by simpa [aOpsX, listX] using hh
 | o :: l, k, listed, L, M, σ, h, hu, hfr, hdc, hin, hl, hB, hh => by
  have h0 : ops[k]? = some o := by simpa using (hl 0 (by simp)).symm
  simp only [List.length_cons, Jcn, Bool.and_eq_true] at hB
  obtain ⟨⟨hr, hf⟩, hB'⟩ := hB
  have hr' : k ∈ Region.ready .any ops listed := by simpa using hr
  have e : (o :: l).length + n = (l.length + n) + 1 := by simp; omega
  rw [e]
  refine aAnyX_first hpure hnp h0 (l.length + n) listed L M σ h (by rw [← e]; exact hu) hfr hdc hin hf hr' ?_
  refine aOpX_mono (fun L' M' σ' h' hx => ?_) (fun _ _ x => x) (aOpX_fresh hfr hh)
  exact aAnyX_lex hpure hnp n l (k + 1) _ L' M' σ' h' (by have := unl_set (mem_ready.1 hr').1; rw [e] at hu; omega) hx.1 (hdc.set hr') (in_set hin (by rw [h0]; rfl)) (fun j hj => by have := hl (j + 1) (by simpa using hj); simpa [Nat.add_assoc, Nat.add_comm 1 j] using this) hB' hx.2
theorem aReg_lock {K : (Nat → AV) → Hp → Prop} {Kp : Value → Hp → Prop} (hpure : ∀ n, pure n = 0 → (t.Φ n).isSome) (hnp : ∀ n, pure n = 1 → ∀ g, t.G n g → ∃ val bs ts, g.out = .ret val bs ts) {id : Nat} {σ : Nat → AV} {h : Hp} (m n : Nat) (hlk : t.lk.contains id = true)
  (hmn : ops.size = m + n) (hB : Jcn pure fl ops m 0 (Array.replicate ops.size false) = true) (hh : aOpsX t pure fl ops (fun L M σ h => aAnyX t pure fl ops K Kp n (listX n m 0 (Array.replicate ops.size false)) L M σ h) Kp (ops.toList.take m) (fun _ => True) [] σ h) : aReg t id ops true K Kp σ h := by
 unfold aReg
 rw [if_pos (by simpa using hlk)]
 intro hfr
 have h0 : ∀ m, (Array.replicate ops.size false).getD m false = false := fun m => by
  simp only [Array.getD_eq_getD_getElem?, Array.getElem?_replicate]
  split <;> rfl
 have hlen : (ops.toList.take m).length = m := by simp; omega
 have := aAnyX_lex (t := t) (pure := pure) (ops := ops) (K := K) (Kp := Kp) hpure hnp n (ops.toList.take m) 0 (Array.replicate ops.size false) (fun _ => True) [] σ h (by rw [hlen, ← hmn]; simp [unl]) hfr (fun m o _ hm => by rw [h0] at hm; cases hm) (fun m hm => by rw [h0] at hm; cases hm)
  (fun j hj => by rw [hlen] at hj; simp [hj]) (by rw [hlen]; exact hB) (by rw [hlen]; exact hh)
 rw [hlen, ← hmn] at this
 exact aAnyX_drop this
def seqX (pure : Nat → Nat) (fl : List Nat) (ops : Array Oper) : List Nat → Array Bool → Bool
 | [], _ => true
 | k :: ks, listed => (Region.ready .any ops listed).contains k && freeAtX pure fl ops listed k && seqX pure fl ops ks (listed.setIfInBounds k true)
def listK : List Nat → Array Bool → Array Bool
 | [], l => l
 | k :: ks, l => listK ks (l.setIfInBounds k true)
def pick (ops : Array Oper) : List Nat → List Oper
 | [] => []
 | k :: ks => match ops[k]? with
  | some o => o :: pick ops ks
  | none => pick ops ks
theorem aAnyX_seq {K : (Nat → AV) → Hp → Prop} {Kp : Value → Hp → Prop} (hpure : ∀ n, pure n = 0 → (t.Φ n).isSome) (hnp : ∀ n, pure n = 1 → ∀ g, t.G n g → ∃ val bs ts, g.out = .ret val bs ts) (n : Nat) : ∀ (ks : List Nat) (listed : Array Bool) (L : LK) (M : List Hp) (σ : Nat → AV) (h : Hp), unl listed ≤ ks.length + n → h.Fr → DC ops listed → (∀ m, listed.getD m false = true → (ops[m]?).isSome) →
  seqX pure fl ops ks listed = true → aOpsX t pure fl ops (fun L M σ h => aAnyX t pure fl ops K Kp n (listK ks listed) L M σ h) Kp (pick ops ks) L M σ h → aAnyX t pure fl ops K Kp (ks.length + n) listed L M σ h
 | [], _, _, _, _, _, _, _, _, _, _, hh => by simpa [aOpsX, listK, pick] using hh
 | k :: ks, listed, L, M, σ, h, hu, hfr, hdc, hin, hB, hh => by
  simp only [seqX, Bool.and_eq_true] at hB
  obtain ⟨⟨hr, hf⟩, hB'⟩ := hB
  have hr' : k ∈ Region.ready .any ops listed := by simpa using hr
  obtain ⟨_, o, h0, _⟩ := mem_ready.1 hr'
  have e : (k :: ks).length + n = (ks.length + n) + 1 := by simp; omega
  rw [e]
  simp only [pick, h0] at hh
  refine aAnyX_first hpure hnp h0 (ks.length + n) listed L M σ h (by rw [← e]; exact hu) hfr hdc hin hf hr' ?_
  refine aOpX_mono (fun L' M' σ' h' hx => ?_) (fun _ _ x => x) (aOpX_fresh hfr hh)
  exact aAnyX_seq hpure hnp n ks _ L' M' σ' h' (by have := unl_set (mem_ready.1 hr').1; rw [e] at hu; omega) hx.1 (hdc.set hr') (in_set hin (by rw [h0]; rfl)) hB' hx.2
theorem aReg_seq {K : (Nat → AV) → Hp → Prop} {Kp : Value → Hp → Prop} (hpure : ∀ n, pure n = 0 → (t.Φ n).isSome) (hnp : ∀ n, pure n = 1 → ∀ g, t.G n g → ∃ val bs ts, g.out = .ret val bs ts) {id : Nat} {σ : Nat → AV} {h : Hp} (ks : List Nat) (hlk : t.lk.contains id = true)
  (hmn : ops.size = ks.length) (hB : seqX pure fl ops ks (Array.replicate ops.size false) = true) (hh : aOpsX t pure fl ops (fun L M σ h => aAnyX t pure fl ops K Kp 0 (listK ks (Array.replicate ops.size false)) L M σ h) Kp (pick ops ks) (fun _ => True) [] σ h) : aReg t id ops true K Kp σ h := by
 unfold aReg
 rw [if_pos (by simpa using hlk)]
 intro hfr
 have h0 : ∀ m, (Array.replicate ops.size false).getD m false = false := fun m => by
  simp only [Array.getD_eq_getD_getElem?, Array.getElem?_replicate]
  split <;> rfl
 have := aAnyX_seq (t := t) (pure := pure) (ops := ops) (K := K) (Kp := Kp) hpure hnp 0 ks (Array.replicate ops.size false) (fun _ => True) [] σ h (by rw [← hmn]; simp [unl]) hfr (fun m o _ hm => by rw [h0] at hm; cases hm) (fun m hm => by rw [h0] at hm; cases hm) hB hh
 rw [Nat.add_zero, ← hmn] at this
 exact aAnyX_drop this
def aRX (t : Tab) (pure : Nat → Nat) (fl : List Nat) (K : XK) (Kp : Value → Hp → Prop) : List RdO → LK → List Hp → (Nat → AV) → Hp → Prop
 | [], L, M, σ, h => K L M σ h
 | o :: l, L, M, σ, h => aGd σ o.g (fun σ => aRunX t (clsF pure fl o.op o.dst) o.op o.dst (fun L M σ h => aRX t pure fl K Kp l L M σ h) Kp L M σ h) (fun σ => aRX t pure fl K Kp l L M (putA σ o.dst undefA) h)
theorem aOpsX_of_RX {K : XK} {Kp : Value → Hp → Prop} : ∀ (l : List Oper) (L : LK) (M : List Hp) (σ : Nat → AV) (h : Hp), (l.all (guardsOk ops)) = true → aRX t pure fl K Kp (l.map (roOf ops)) L M σ h → aOpsX t pure fl ops K Kp l L M σ h
 | [], _, _, _, _, _, hh => hh
 | o :: l, L, M, σ, h, hg, hh => by
  simp only [List.all_cons, Bool.and_eq_true] at hg
  simp only [List.map_cons, aRX] at hh
  simp only [aOpsX, aOpX]
  have ih := fun L M σ h => aOpsX_of_RX (K := K) (Kp := Kp) l L M σ h hg.2
  have h1 := hg.1
  unfold guardsOk at h1
  unfold aGd roOf at hh
  unfold aGuard
  split
  ·rename_i hgd; rw [hgd] at hh; exact aRunX_mono (fun _ _ _ _ => ih _ _ _ _) (fun _ _ x => x) hh
  ·rename_i j want hgd
   rw [hgd] at hh h1
   simp only at hh h1
   split
   ·rename_i hs; rw [hs] at h1; cases h1
   ·rename_i d hs
    rw [hs] at hh
    simp only at hh
    split
    ·rename_i p hp
     rw [hp] at hh
     refine ⟨fun x => ?_, fun x => ?_⟩
     ·have := hh.1 x
      rw [upd_self hp x] at this
      exact aRunX_mono (fun _ _ _ _ => ih _ _ _ _) (fun _ _ x => x) this
     ·have := hh.2 x
      rw [upd_self hp x] at this
      exact ih _ _ _ _ this
    ·rename_i hp; rw [hp] at hh; exact ih _ _ _ _ hh
    ·rename_i h2 h3
     split at hh
     ·rename_i p hp; exact (h2 _ hp).elim
     ·rename_i vs hp; exact (h3 _ hp).elim
     ·exact hh.elim
def plainX (c : Nat) : Bool := !(c == 1 || c == 2 || c == 4 || c == 6)
theorem aRX_seg {K : XK} {Kp : Value → Hp → Prop} {L : LK} {M : List Hp} {l2 : List RdO} : ∀ {l1 : List RdO} {σ : Nat → AV} {h : Hp}, (l1.all fun o => plainX (clsF pure fl o.op o.dst)) = true → aRO t (fun σ h => aRX t pure fl K Kp l2 L M σ h) l1 σ h → aRX t pure fl K Kp (l1 ++ l2) L M σ h
 | [], _, _, _, hh => hh
 | o :: l1, σ, h, hc, hh => by
  simp only [List.all_cons, Bool.and_eq_true] at hc
  simp only [aRO, aRX, List.cons_append] at hh ⊢
  unfold aGd at *
  have hcl : clsF pure fl o.op o.dst ≠ 1 ∧ ¬ (clsF pure fl o.op o.dst = 2 ∨ clsF pure fl o.op o.dst = 4 ∨ clsF pure fl o.op o.dst = 6) := by
   have := hc.1
   simp only [plainX, Bool.not_eq_true', Bool.or_eq_false_iff, beq_eq_false_iff_ne] at this
   omega
  have run : ∀ σ, ((aop t.P t.Φ t.Ψ o.op σ h).pre ∧ aRO t (fun σ h => aRX t pure fl K Kp l2 L M σ h) l1 (putA σ o.dst (aop t.P t.Φ t.Ψ o.op σ h).val) (aop t.P t.Φ t.Ψ o.op σ h).h) → aRunX t (clsF pure fl o.op o.dst) o.op o.dst (fun L M σ h => aRX t pure fl K Kp (l1 ++ l2) L M σ h) Kp L M σ h := fun σ x => by
   obtain ⟨q1, q2⟩ := aop_plain x.1
   unfold aRunX
   rw [if_neg hcl.1, if_neg hcl.2]
   unfold aRun
   rw [q1]
   simp only
   rw [if_neg q2]
   exact ⟨x.1, aRX_seg hc.2 x.2⟩
  split at hh
  ·exact run _ hh
  ·split at hh
   ·exact ⟨fun x => run _ (hh.1 x), fun x => aRX_seg hc.2 (hh.2 x)⟩
   ·exact aRX_seg hc.2 hh
   ·exact hh.elim
theorem w_regionX {id : Nat} {Q : APost} {σ : Nat → AV} {h : Hp} (hpure : ∀ n, pure n = 0 → (t.Φ n).isSome) (hnp : ∀ n, pure n = 1 → ∀ g, t.G n g → ∃ val bs ts, g.out = .ret val bs ts) (m n : Nat) (hlk : t.lk.contains id = true)
  (hmn : ops.size = m + n) (hB : Jcn pure fl ops m 0 (Array.replicate ops.size false) = true) (hg : ((ops.toList.take m).all (guardsOk ops)) = true)
  (hh : aRX t pure fl (fun L M σ' h' => aAnyX t pure fl ops (Q .normal) (fun v h' => Q (.panic [{ v := v, recovered := false }]) (forget ops σ) h') n (listX n m 0 (Array.replicate ops.size false)) L M σ' h') (fun v h' => Q (.panic [{ v := v, recovered := false }]) (forget ops σ) h') ((ops.toList.take m).map (roOf ops)) (fun _ => True) [] σ h) : aC t (.region id ops true) σ h Q :=
 ⟨σ, h, Wk.refl _ _ _, .inl (aReg_lock hpure hnp m n hlk hmn hB (aOpsX_of_RX _ _ _ _ _ hg hh))⟩
theorem w_regionP {id : Nat} {Q : APost} {σ : Nat → AV} {h : Hp} (hpure : ∀ n, pure n = 0 → (t.Φ n).isSome) (hnp : ∀ n, pure n = 1 → ∀ g, t.G n g → ∃ val bs ts, g.out = .ret val bs ts) (ks : List Nat) (hlk : t.lk.contains id = true)
  (hmn : ops.size = ks.length) (hB : seqX pure fl ops ks (Array.replicate ops.size false) = true) (hg : ((pick ops ks).all (guardsOk ops)) = true)
  (hh : aRX t pure fl (fun L M σ' h' => aAnyX t pure fl ops (Q .normal) (fun v h' => Q (.panic [{ v := v, recovered := false }]) (forget ops σ) h') 0 (listK ks (Array.replicate ops.size false)) L M σ' h') (fun v h' => Q (.panic [{ v := v, recovered := false }]) (forget ops σ) h') ((pick ops ks).map (roOf ops)) (fun _ => True) [] σ h) : aC t (.region id ops true) σ h Q :=
 ⟨σ, h, Wk.refl _ _ _, .inl (aReg_seq hpure hnp ks hlk hmn hB (aOpsX_of_RX _ _ _ _ _ hg hh))⟩
end
end Go.Proofs.YtjgimofnepechaaGreatDoor
namespace Go.Proofs.YtjgimofnepechaaGreatDoor
open Go.RowKit
variable {t : Tab} {σ : Nat → AV} {h : Hp} {Q : APost}
theorem then_panic {b : Code} {ch : List PanicEntry} (hh : Q (.panic ch) σ h) : Then t b Q (.panic ch) σ h := hh
theorem block_panic {id : Nat} {ch : List PanicEntry} (hh : Q (.panic ch) σ h) : InBlock id Q (.panic ch) σ h := hh
theorem round_panic {rt n : Nat} {I : Nat → (Nat → AV) → Hp → Prop} {ch : List PanicEntry} (hh : Q (.panic ch) σ h) : Round rt n I Q (.panic ch) σ h := hh
theorem cut_panic {rt : Nat} {R : (Nat → AV) → Hp → Prop} {ch : List PanicEntry} (hh : Q (.panic ch) σ h) : Cut rt R Q (.panic ch) σ h := hh
theorem xS {p q : Prop} (x : p) (f : p → q := by intro x; (repeat (with_reducible (first | refine w_seq ?_ | refine then_normal ?_ | refine w_block ?_ | refine block_normal ?_ | refine w_skip ?_ | refine w_exit ?_ | refine then_exit ?_ | refine block_exit ?_ | refine w_ret ?_ | refine then_ret ?_ | refine block_ret ?_ | refine round_ret ?_ | refine round_exit ?_ | refine cut_ret ?_ | refine cut_exit ?_ | refine block_other rfl ?_ | refine then_panic ?_ | refine block_panic ?_ | refine round_panic ?_ | refine cut_panic ?_ | refine un_next ?_ | refine un_ret ?_ | refine un_exit ?_ | refine un_panic ?_))); exact x) : q := f x
theorem xR {p : Prop} {id : Nat} {ops : Array Oper} {draw : Bool} {σ2 : Nat → AV} {h2 : Hp} (x : p)
  (hl : (draw && t.lk.contains id) = false := by rfl) (hg : (ops.toList.all (guardsOk ops)) = true := by rfl)
  (hr : ∀ K : (Nat → AV) → Hp → Prop, K σ2 h2 → aRO t K (ops.toList.map (roOf ops)) σ h := by
   intro K hK
   simp -implicitDefEqProofs only [goR, ↓upd_at, goS, ↓reduceIte, reduceCtorEq, seval, F]
   repeat' (first | exact hK | (with_reducible apply And.intro) | exact trivial | assumption | omega))
  (f : p → Q .normal σ2 h2 := by intro x; refine xS ?_; exact x) : aC t (.region id ops draw) σ h Q :=
 w_region hl hg fun K hK => hr K (hK _ _ (f x))
theorem xT {p : Prop} {c : Operand} {a b : Code} (x : p) (hc : evA σ c = .c (.d (.v (.bool true))) := by simp -implicitDefEqProofs only [goR, ↓upd_at, goS, ↓reduceIte, reduceCtorEq, seval, F])
  (f : p → aC t a σ h Q := by intro x; refine xS ?_; exact x) : aC t (.cond c a b) σ h Q := w_condT hc (f x)
theorem xE {p : Prop} {c : Operand} {a b : Code} (x : p) (hc : evA σ c = .c (.d (.v (.bool false))) := by simp -implicitDefEqProofs only [goR, ↓upd_at, goS, ↓reduceIte, reduceCtorEq, seval, F])
  (f : p → aC t b σ h Q := by intro x; refine xS ?_; exact x) : aC t (.cond c a b) σ h Q := w_condF hc (f x)
theorem xr {p : Prop} {id : Nat} {ops : Array Oper} {draw : Bool} {σ2 : Nat → AV} {h2 : Hp} (x : p)
  (hl : (draw && t.lk.contains id) = false := by rfl) (hg : (ops.toList.all (guardsOk ops)) = true := by rfl)
  (hr : ∀ K : (Nat → AV) → Hp → Prop, K σ2 h2 → aRO t K (ops.toList.map (roOf ops)) σ h := by
   intro K hK
   simp -implicitDefEqProofs only [goR, ↓upd_at, goS, ↓reduceIte, reduceCtorEq, seval, Y]
   repeat' (first | exact hK | (with_reducible apply And.intro) | exact trivial | assumption | omega))
  (f : p → Q .normal σ2 h2 := by intro x; refine xS ?_; exact x) : aC t (.region id ops draw) σ h Q :=
 w_region hl hg fun K hK => hr K (hK _ _ (f x))
theorem xt {p : Prop} {c : Operand} {a b : Code} (x : p) (hc : evA σ c = .c (.d (.v (.bool true))) := by simp -implicitDefEqProofs only [goR, ↓upd_at, goS, ↓reduceIte, reduceCtorEq, seval, Y])
  (f : p → aC t a σ h Q := by intro x; refine xS ?_; exact x) : aC t (.cond c a b) σ h Q := w_condT hc (f x)
theorem xe {p : Prop} {c : Operand} {a b : Code} (x : p) (hc : evA σ c = .c (.d (.v (.bool false))) := by simp -implicitDefEqProofs only [goR, ↓upd_at, goS, ↓reduceIte, reduceCtorEq, seval, Y])
  (f : p → aC t b σ h Q := by intro x; refine xS ?_; exact x) : aC t (.cond c a b) σ h Q := w_condF hc (f x)
theorem xR0 {id : Nat} {ops : Array Oper} {draw : Bool} {σ2 : Nat → AV} {h2 : Hp} (x : Q .normal σ2 h2)
  (hl : (draw && t.lk.contains id) = false := by rfl) (hg : (ops.toList.all (guardsOk ops)) = true := by rfl)
  (hr : ∀ K : (Nat → AV) → Hp → Prop, K σ2 h2 → aRO t K (ops.toList.map (roOf ops)) σ h := by
   intro K hK
   simp -implicitDefEqProofs only [goR, ↓upd_at, goS, ↓reduceIte, reduceCtorEq, seval, F]
   repeat' (first | exact hK | (with_reducible apply And.intro) | exact trivial | assumption | omega)) : aC t (.region id ops draw) σ h Q :=
 w_region hl hg fun K hK => hr K (hK _ _ x)
theorem xr0 {id : Nat} {ops : Array Oper} {draw : Bool} {σ2 : Nat → AV} {h2 : Hp} (x : Q .normal σ2 h2)
  (hl : (draw && t.lk.contains id) = false := by rfl) (hg : (ops.toList.all (guardsOk ops)) = true := by rfl)
  (hr : ∀ K : (Nat → AV) → Hp → Prop, K σ2 h2 → aRO t K (ops.toList.map (roOf ops)) σ h := by
   intro K hK
   simp -implicitDefEqProofs only [goR, ↓upd_at, goS, ↓reduceIte, reduceCtorEq, seval, Y]
   repeat' (first | exact hK | (with_reducible apply And.intro) | exact trivial | assumption | omega)) : aC t (.region id ops draw) σ h Q :=
 w_region hl hg fun K hK => hr K (hK _ _ x)
theorem xT0 {c : Operand} {a b : Code} (x : aC t a σ h Q) (hc : evA σ c = .c (.d (.v (.bool true))) := by simp -implicitDefEqProofs only [goR, ↓upd_at, goS, ↓reduceIte, reduceCtorEq, seval, F]) : aC t (.cond c a b) σ h Q := w_condT hc x
theorem xE0 {c : Operand} {a b : Code} (x : aC t b σ h Q) (hc : evA σ c = .c (.d (.v (.bool false))) := by simp -implicitDefEqProofs only [goR, ↓upd_at, goS, ↓reduceIte, reduceCtorEq, seval, F]) : aC t (.cond c a b) σ h Q := w_condF hc x
theorem xK {rt : Nat} {L : List (Nat × AV)} {bs : List (List C)} {ts : List TypeId} (r : Ren) (hb : bs.length = r.ps.length := by rfl) (ht : ts.length = r.qs.length := by rfl)
  (hp : once r.ps = true := by rfl) (hq : once r.qs = true := by rfl)
  (h1 : BWk r h 1 bs := by first | (simp -implicitDefEqProofs only [goW, goR, ↓upd_at, goS, ↓reduceIte, reduceCtorEq, seval, Y]; done) | simp -implicitDefEqProofs only [goW, goR, ↓upd_at, goS, ↓reduceIte, reduceCtorEq, seval, Y, G])
  (h2 : TWk r h (r.ps.length + 1) ts := by first | (simp -implicitDefEqProofs only [goW, goR, ↓upd_at, goS, ↓reduceIte, reduceCtorEq, seval, Y]; done) | simp -implicitDefEqProofs only [goW, goR, ↓upd_at, goS, ↓reduceIte, reduceCtorEq, seval, Y, G])
  (h3 : LWk r σ L := by first | (simp -implicitDefEqProofs only [goW, goR, ↓upd_at, goS, ↓reduceIte, reduceCtorEq, seval, Y]; done) | simp -implicitDefEqProofs only [goW, goR, ↓upd_at, goS, ↓reduceIte, reduceCtorEq, seval, Y, G])
  (hds : DlWk r (dfL (σ DS)) (dfL (sigL L DS)) := by first | (simp -implicitDefEqProofs only [goW, goR, ↓upd_at, goS, ↓reduceIte, reduceCtorEq, seval, Y]; done) | simp -implicitDefEqProofs only [goW, goR, ↓upd_at, goS, ↓reduceIte, reduceCtorEq, seval, Y, G])
  (hrt : (r.ps.take rt == List.range' 1 rt) = true := by rfl) : Wk rt σ h (sigL L) (hpL bs ts) := wk_ren r hb ht hp rfl hq h1 h2 h3 hds hrt
theorem xH {a b c d g : Prop} (F : a) (G : g) (y : b) (h1 : b → c := by intro y; (try (simp -implicitDefEqProofs only [goR, ↓upd_at, goS, ↓reduceIte, reduceCtorEq, seval, Y] at y)); exact y)
  (h2 : b → d := by intro y; (try (simp only [goT] at y)); exact y) : (a ∧ c) ∧ (c ∧ g) ∧ d := ⟨⟨F, h1 y⟩, ⟨h1 y, G⟩, h2 y⟩
theorem xC {a b c : Prop} (F : a) (y : b) (h1 : b → c := by intro y; (try (simp -implicitDefEqProofs only [goR, ↓upd_at, goS, ↓reduceIte, reduceCtorEq, seval, Y] at y)); exact y) : a ∧ c := ⟨F, h1 y⟩
theorem xCf {a b c : Prop} (F : a) (y : b) (h1 : b → c := by intro y; (try (simp -implicitDefEqProofs only [goR, ↓upd_at, goS, ↓reduceIte, reduceCtorEq, seval, F] at y)); exact y) : a ∧ c := ⟨F, h1 y⟩
theorem xZ {a b : Prop} (x : a) (y : b) : a ∧ b := ⟨x, y⟩
theorem xN {P : Program} {rt : Nat} {fn : Func} {d : D} {ex : Exit} (q : QRet P fn d ex σ h := by first | (simp -implicitDefEqProofs only [goQ, goR, ↓upd_at, goS, ↓reduceIte, reduceCtorEq, seval, Y]; done) | simp -implicitDefEqProofs only [goQ, goR, ↓upd_at, goS, ↓reduceIte, reduceCtorEq, seval, Y, G]) : QRetW P rt fn d ex σ h :=
 ⟨σ, h, Wk.refl _ _ _, q⟩
theorem kf {rt : Nat} {σ2 : Nat → AV} {h2 : Hp} (n sz : Nat) (l : List D) (cs : List C) (k : Wk rt (fun i => frzA n (.sl sz (l ++ cs.map C.toD)) (l.length + cs.length) (σ i)) (frzH n (.sl sz (l ++ cs.map C.toD)) (l.length + cs.length) h) σ2 h2)
  (hH : h.H n = some (.arr sz l :: cs) := by simp -implicitDefEqProofs only [goG, goR, ↓upd_at, goS, ↓reduceIte, reduceCtorEq, seval, Y]) (hD : cs.all C.isD = true := by rfl) (h1D : (cs.map C.toD).all D.one = true := by rfl) : Wk rt σ h σ2 h2 :=
 (wk_freeze hH hD h1D).trans k
theorem xNf {P : Program} {rt : Nat} {fn : Func} {d : D} {ex : Exit} (n sz : Nat) (l : List D) (cs : List C) (x : QRetW P rt fn d ex (fun i => frzA n (.sl sz (l ++ cs.map C.toD)) (l.length + cs.length) (σ i)) (frzH n (.sl sz (l ++ cs.map C.toD)) (l.length + cs.length) h))
  (hH : h.H n = some (.arr sz l :: cs) := by simp -implicitDefEqProofs only [goG, goR, ↓upd_at, goS, ↓reduceIte, reduceCtorEq, seval, Y]) (hD : cs.all C.isD = true := by rfl) (h1D : (cs.map C.toD).all D.one = true := by rfl) : QRetW P rt fn d ex σ h :=
 let ⟨σ', h', k, q⟩ := x; ⟨σ', h', (wk_freeze hH hD h1D).trans k, q⟩
class DInj {A : Type} (e : A → D) : Prop where
 s : ∀ a b, strip1 (e a) = strip1 (e b) → a = b
 i : ∀ a b, e a = e b → a = b
instance : DInj dI := ⟨fun a b h => dI_inj a b h, dI_inj⟩
instance : DInj dB := ⟨fun a b h => dB_inj a b h, dB_inj⟩
instance : DInj dS := ⟨fun a b h => dS_inj a b h, dS_inj⟩
instance : DInj dU := ⟨fun a b h => dU_inj a b h, dU_inj⟩
instance {A : Type} {e : A → D} {sz : Nat} [he : DInj e] : DInj (dL sz e) := ⟨fun _ _ h => dL_inj (sz := 0) he.i _ _ h, dL_inj he.i⟩
def dF (n : Nat) : D := .v (.func (.func n) #[] #[])
theorem dF_inj (a b : Nat) (h : dF a = dF b) : a = b := by simpa [dF] using h
instance : DInj dF := ⟨fun a b h => dF_inj a b h, dF_inj⟩
class IEnc {A : Type} (enc : A → List D) : Prop where
 inj : Inj enc
def E0 : Unit → List D := fun _ => []
section
variable {A1 A2 A3 A4 A5 A6 A7 A8 : Type}
def E1 (e1 : A1 → D) : A1 → List D := fun a => [e1 a]
def E2 (e1 : A1 → D) (e2 : A2 → D) : A1 × A2 → List D := fun a => [e1 a.1, e2 a.2]
def E3 (e1 : A1 → D) (e2 : A2 → D) (e3 : A3 → D) : A1 × A2 × A3 → List D := fun a => [e1 a.1, e2 a.2.1, e3 a.2.2]
def E4 (e1 : A1 → D) (e2 : A2 → D) (e3 : A3 → D) (e4 : A4 → D) : A1 × A2 × A3 × A4 → List D := fun a => [e1 a.1, e2 a.2.1, e3 a.2.2.1, e4 a.2.2.2]
def E5 (e1 : A1 → D) (e2 : A2 → D) (e3 : A3 → D) (e4 : A4 → D) (e5 : A5 → D) : A1 × A2 × A3 × A4 × A5 → List D := fun a => [e1 a.1, e2 a.2.1, e3 a.2.2.1, e4 a.2.2.2.1, e5 a.2.2.2.2]
def E6 (e1 : A1 → D) (e2 : A2 → D) (e3 : A3 → D) (e4 : A4 → D) (e5 : A5 → D) (e6 : A6 → D) : A1 × A2 × A3 × A4 × A5 × A6 → List D := fun a => [e1 a.1, e2 a.2.1, e3 a.2.2.1, e4 a.2.2.2.1, e5 a.2.2.2.2.1, e6 a.2.2.2.2.2]
instance : IEnc E0 := ⟨fun _ _ _ => rfl⟩
instance {e1 : A1 → D} [h1 : DInj e1] : IEnc (E1 e1) := ⟨fun a b h => by
 simp only [E1, List.map_cons, List.map_nil, List.cons.injEq, and_true] at h
 exact h1.s _ _ h⟩
instance {e1 : A1 → D} {e2 : A2 → D} [h1 : DInj e1] [h2 : DInj e2] : IEnc (E2 e1 e2) := ⟨fun a b h => by
 simp only [E2, List.map_cons, List.map_nil, List.cons.injEq, and_true] at h
 exact Prod.ext (h1.s _ _ h.1) (h2.s _ _ h.2)⟩
instance {e1 : A1 → D} {e2 : A2 → D} {e3 : A3 → D} [h1 : DInj e1] [h2 : DInj e2] [h3 : DInj e3] : IEnc (E3 e1 e2 e3) := ⟨fun a b h => by
 simp only [E3, List.map_cons, List.map_nil, List.cons.injEq, and_true] at h
 exact Prod.ext (h1.s _ _ h.1) (Prod.ext (h2.s _ _ h.2.1) (h3.s _ _ h.2.2))⟩
instance {e1 : A1 → D} {e2 : A2 → D} {e3 : A3 → D} {e4 : A4 → D} [h1 : DInj e1] [h2 : DInj e2] [h3 : DInj e3] [h4 : DInj e4] : IEnc (E4 e1 e2 e3 e4) := ⟨fun a b h => by
 simp only [E4, List.map_cons, List.map_nil, List.cons.injEq, and_true] at h
 exact Prod.ext (h1.s _ _ h.1) (Prod.ext (h2.s _ _ h.2.1) (Prod.ext (h3.s _ _ h.2.2.1) (h4.s _ _ h.2.2.2)))⟩
instance {e1 : A1 → D} {e2 : A2 → D} {e3 : A3 → D} {e4 : A4 → D} {e5 : A5 → D} [h1 : DInj e1] [h2 : DInj e2] [h3 : DInj e3] [h4 : DInj e4] [h5 : DInj e5] : IEnc (E5 e1 e2 e3 e4 e5) := ⟨fun a b h => by
 simp only [E5, List.map_cons, List.map_nil, List.cons.injEq, and_true] at h
 exact Prod.ext (h1.s _ _ h.1) (Prod.ext (h2.s _ _ h.2.1) (Prod.ext (h3.s _ _ h.2.2.1) (Prod.ext (h4.s _ _ h.2.2.2.1) (h5.s _ _ h.2.2.2.2))))⟩
instance {e1 : A1 → D} {e2 : A2 → D} {e3 : A3 → D} {e4 : A4 → D} {e5 : A5 → D} {e6 : A6 → D} [h1 : DInj e1] [h2 : DInj e2] [h3 : DInj e3] [h4 : DInj e4] [h5 : DInj e5] [h6 : DInj e6] : IEnc (E6 e1 e2 e3 e4 e5 e6) := ⟨fun a b h => by
 simp only [E6, List.map_cons, List.map_nil, List.cons.injEq, and_true] at h
 exact Prod.ext (h1.s _ _ h.1) (Prod.ext (h2.s _ _ h.2.1) (Prod.ext (h3.s _ _ h.2.2.1) (Prod.ext (h4.s _ _ h.2.2.2.1) (Prod.ext (h5.s _ _ h.2.2.2.2.1) (h6.s _ _ h.2.2.2.2.2)))))⟩
def T0 : Unit → D := fun _ => .tu []
def T2 (e1 : A1 → D) (e2 : A2 → D) : A1 × A2 → D := fun r => .tu [e1 r.1, e2 r.2]
def T3 (e1 : A1 → D) (e2 : A2 → D) (e3 : A3 → D) : A1 × A2 × A3 → D := fun r => .tu [e1 r.1, e2 r.2.1, e3 r.2.2]
def T4 (e1 : A1 → D) (e2 : A2 → D) (e3 : A3 → D) (e4 : A4 → D) : A1 × A2 × A3 × A4 → D := fun r => .tu [e1 r.1, e2 r.2.1, e3 r.2.2.1, e4 r.2.2.2]
end
abbrev PC (pf : PF) (l : List D) (d : D) : Prop := pf.pre l = True ∧ pf.val l = d
theorem PF.c {A R : Type} {enc : A → List D} {f : A → Option R} {e : R → D} [IEnc enc] {a : A} {r : R} (H : f a = some r) : PC (PF.of enc f e) (enc a) (e r) :=
 ⟨PF.of_pre H, PF.of_val IEnc.inj H⟩
theorem PF.cl {A R : Type} {enc : A → List D} {f : A → Option R} {e : R → D} [IEnc enc] {l : List D} {a : A} {r : R} (H : f a = some r) (hl : les1 l (enc a)) : PC (PF.of enc f e) l (e r) :=
 ⟨PF.of_prel hl H, PF.of_vall IEnc.inj hl H⟩
theorem xFl {P : Program} (hm : P.follows .mixedOrders = true) {A R : Type} {enc : A → List D} {f : A → Option R} {e : R → D} [IEnc enc] (lk : List Nat) (l : List (Nat × PF)) (gl : List (Nat × Bool × (GI → Prop))) (h1 : AllOk P l) (h2 : AllOkG P gl)
  {k : Nat} {fn : Func} {c : Code} (hf : P.funcs[k]? = some fn)
  (h : ∀ a r, f a = some r → aC (tab P l gl [] 0 lk) c (sig0 ((enc a).map fun d => .c (.d d))) hp0 (QRetW P 0 fn (e r)))
  (hb : fn.body = some c := by rfl) (hcode : (codeOk (kindOf (l.map Prod.fst) (gl.map fun p => (p.1, p.2.1))) lk fn.ntmps c && fn.results.toList.all (resIn fn.ntmps) && fn.ntmps.ble DS) = true := by kernel_rfl)
  (hl : ∀ a, (enc a).length ≤ fn.ntmps := by intro a; exact Nat.le_of_ble_eq_true rfl) : PureOk P k (PF.of enc f e) :=
 pure_of (t := tab P l gl [] 0 lk) IEnc.inj rfl (tab_ok h1 h2 trivial) hm tab_pure (tab_np h2) hf hb hcode hl h
theorem xF {P : Program} (hm : P.follows .mixedOrders = true) {A R : Type} {enc : A → List D} {f : A → Option R} {e : R → D} [IEnc enc] (l : List (Nat × PF)) (gl : List (Nat × Bool × (GI → Prop))) (h1 : AllOk P l) (h2 : AllOkG P gl)
  {k : Nat} {fn : Func} {c : Code} (hf : P.funcs[k]? = some fn)
  (h : ∀ a r, f a = some r → aC (tab P l gl [] 0 []) c (sig0 ((enc a).map fun d => .c (.d d))) hp0 (QRetW P 0 fn (e r)))
  (hb : fn.body = some c := by rfl) (hcode : (codeOk (kindOf (l.map Prod.fst) (gl.map fun p => (p.1, p.2.1))) [] fn.ntmps c && fn.results.toList.all (resIn fn.ntmps) && fn.ntmps.ble DS) = true := by kernel_rfl)
  (hl : ∀ a, (enc a).length ≤ fn.ntmps := by intro a; exact Nat.le_of_ble_eq_true rfl) : PureOk P k (PF.of enc f e) :=
 xFl hm [] l gl h1 h2 hf h hb hcode hl
theorem xGnl {P : Program} (hm : P.follows .mixedOrders = true) (lk : List Nat) (l : List (Nat × PF)) (gl : List (Nat × Bool × (GI → Prop))) (dl : List (Nat × (DI → Prop))) (h1 : AllOk P l) (h2 : AllOkG P gl) (h3 : AllOkD P dl)
  {k : Nat} {fn : Func} {c : Code} (hf : P.funcs[k]? = some fn) (g : GI) (h : aC (tab P l gl dl g.bs.length lk) c (sig0 g.args) (hpL g.bs g.ts) (QGenW (tab P l gl dl g.bs.length lk) fn g.bs.length g.out))
  (hb : fn.body = some c := by rfl) (hcode : (codeOk (kindOf (l.map Prod.fst) (gl.map fun p => (p.1, p.2.1))) lk fn.ntmps c && fn.results.toList.all (resIn fn.ntmps) && fn.ntmps.ble DS) = true := by kernel_rfl)
  (hl : g.args.length ≤ fn.ntmps := by exact Nat.le_of_ble_eq_true rfl) : GenOk P k g :=
 gen_of_aC (t := tab P l gl dl g.bs.length lk) (tab_ok h1 h2 h3) hm tab_pure (tab_np h2) hf hb hcode g rfl hl h
theorem xGn {P : Program} (hm : P.follows .mixedOrders = true) (l : List (Nat × PF)) (gl : List (Nat × Bool × (GI → Prop))) (dl : List (Nat × (DI → Prop))) (h1 : AllOk P l) (h2 : AllOkG P gl) (h3 : AllOkD P dl)
  {k : Nat} {fn : Func} {c : Code} (hf : P.funcs[k]? = some fn) (g : GI) (h : aC (tab P l gl dl g.bs.length []) c (sig0 g.args) (hpL g.bs g.ts) (QGenW (tab P l gl dl g.bs.length []) fn g.bs.length g.out))
  (hb : fn.body = some c := by rfl) (hcode : (codeOk (kindOf (l.map Prod.fst) (gl.map fun p => (p.1, p.2.1))) [] fn.ntmps c && fn.results.toList.all (resIn fn.ntmps) && fn.ntmps.ble DS) = true := by kernel_rfl)
  (hl : g.args.length ≤ fn.ntmps := by exact Nat.le_of_ble_eq_true rfl) : GenOk P k g :=
 xGnl hm [] l gl dl h1 h2 h3 hf g h hb hcode hl
theorem xDfl {P : Program} (hm : P.follows .mixedOrders = true) (lk : List Nat) (l : List (Nat × PF)) (gl : List (Nat × Bool × (GI → Prop))) (h1 : AllOk P l) (h2 : AllOkG P gl)
  {k : Nat} {fn : Func} {c : Code} (hf : P.funcs[k]? = some fn) (d : DI) (h : aC (tab P l gl [] d.bs.length lk) c (sig0 d.args) (hpL d.bs d.ts) (QDf (tab P l gl [] d.bs.length lk) fn d))
  (hb : fn.body = some c := by rfl) (hcode : (codeOk (kindOf (l.map Prod.fst) (gl.map fun p => (p.1, p.2.1))) lk fn.ntmps c && fn.results.toList.all (resIn fn.ntmps) && fn.ntmps.ble DS) = true := by kernel_rfl)
  (hl : d.args.length ≤ fn.ntmps := by exact Nat.le_of_ble_eq_true rfl) : DOk P k d :=
 dfr_of_aC (t := tab P l gl [] d.bs.length lk) (tab_ok h1 h2 trivial) hm tab_pure (tab_np h2) hf hb hcode d rfl hl h
theorem xDf {P : Program} (hm : P.follows .mixedOrders = true) (l : List (Nat × PF)) (gl : List (Nat × Bool × (GI → Prop))) (h1 : AllOk P l) (h2 : AllOkG P gl)
  {k : Nat} {fn : Func} {c : Code} (hf : P.funcs[k]? = some fn) (d : DI) (h : aC (tab P l gl [] d.bs.length []) c (sig0 d.args) (hpL d.bs d.ts) (QDf (tab P l gl [] d.bs.length []) fn d))
  (hb : fn.body = some c := by rfl) (hcode : (codeOk (kindOf (l.map Prod.fst) (gl.map fun p => (p.1, p.2.1))) [] fn.ntmps c && fn.results.toList.all (resIn fn.ntmps) && fn.ntmps.ble DS) = true := by kernel_rfl)
  (hl : d.args.length ≤ fn.ntmps := by exact Nat.le_of_ble_eq_true rfl) : DOk P k d :=
 xDfl hm [] l gl h1 h2 hf d h hb hcode hl
theorem xRcl {P : Program} (hm : P.follows .mixedOrders = true) (lk : List Nat) (l : List (Nat × PF)) (gl : List (Nat × Bool × (GI → Prop))) (h1 : AllOk P l) (h2 : AllOkG P gl)
  {f : Nat} {fn : Func} {id k ty : Nat} {ps : String} {c : Code} (hf : P.funcs[f]? = some fn) (d : DI)
  (h : aC (tab P l gl [] d.bs.length lk) c (upd (sig0 d.args) k (.c (.d (.v (d.u.getD .nilIface))))) (hpL d.bs d.ts) (QDf (tab P l gl [] d.bs.length lk) fn { d with u' := d.u }))
  (hu : d.u' = none := by rfl) (hb : fn.body = some (.seq (.region id (recOps k ty ps) false) c) := by rfl) (hcode : (codeOk (kindOf (l.map Prod.fst) (gl.map fun p => (p.1, p.2.1))) lk fn.ntmps c && fn.results.toList.all (resIn fn.ntmps) && fn.ntmps.ble DS && k.blt DS) = true := by kernel_rfl)
  (hl : d.args.length ≤ fn.ntmps := by exact Nat.le_of_ble_eq_true rfl) : DOk P f d :=
 dok_recover (t := tab P l gl [] d.bs.length lk) (tab_ok h1 h2 trivial) hm tab_pure (tab_np h2) hf hb hcode d hu rfl hl h
theorem tabG {P : Program} {l : List (Nat × PF)} {gl : List (Nat × Bool × (GI → Prop))} {dl : List (Nat × (DI → Prop))} {rt n : Nat} {lk : List Nat} {np : Bool} {S : GI → Prop} {g : GI} (i : Nat) (hs : S g) (h : gl[i]? = some (n, np, S) := by rfl) : (tab P l gl dl rt lk).G n g :=
 ⟨(n, np, S), List.mem_of_getElem? h, rfl, hs⟩
theorem tabD {P : Program} {l : List (Nat × PF)} {gl : List (Nat × Bool × (GI → Prop))} {dl : List (Nat × (DI → Prop))} {rt n : Nat} {lk : List Nat} {S : DI → Prop} {d : DI} (i : Nat) (hs : S d) (h : dl[i]? = some (n, S) := by rfl) : (tab P l gl dl rt lk).D n d :=
 ⟨(n, S), List.mem_of_getElem? h, rfl, hs⟩
variable {K : (Nat → AV) → Hp → Prop} {Kp : Value → Hp → Prop} {L : List RdO}
theorem xQ {id : Nat} {ops : Array Oper} {draw : Bool} (x : aRG t (Q .normal) (fun v h' => Q (.panic [{ v := v, recovered := false }]) (forget ops σ) h') (ops.toList.map (roOf ops)) σ h)
  (hl : (draw && t.lk.contains id) = false := by rfl) (hg : (ops.toList.all (guardsOk ops)) = true := by rfl) : aC t (.region id ops draw) σ h Q := w_regionG hl hg x
def fgt : List Nat → (Nat → AV) → (Nat → AV)
 | [], σ => σ
 | d :: l, σ => upd (fgt l σ) d (.c .top)
theorem fgt_at : ∀ (ds : List Nat) (σ : Nat → AV) (i : Nat), fgt ds σ i = if ds.contains i then .c .top else σ i
 | [], σ, i => by simp [fgt]
 | d :: l, σ, i => by
  unfold fgt upd
  rw [fgt_at l σ i]
  by_cases h : i = d
  ·simp [h]
  ·simp [h]
theorem forget_fgt {ops : Array Oper} {ds : List Nat} (h : ops.toList.filterMap (·.dst) = ds) (σ : Nat → AV) : forget ops σ = fgt ds σ := by
 subst h
 funext i
 rw [fgt_at]
 unfold forget
 have : (ops.toList.any fun o => o.dst == some i) = (ops.toList.filterMap (·.dst)).contains i := by
  induction ops.toList with
  | nil => rfl
  | cons o l ih =>
   rw [List.any_cons, ih, List.filterMap_cons]
   cases hd : o.dst with
   | none => simp
   | some k => simp only [List.contains_cons]; congr 1; simp only [Option.some_beq_some]; exact Bool.eq_iff_iff.2 (by simp only [beq_iff_eq]; exact eq_comm)
 rw [this]
theorem xQp (ds : List Nat) {id : Nat} {ops : Array Oper} {draw : Bool} (x : aRG t (Q .normal) (fun v h' => Q (.panic [{ v := v, recovered := false }]) (fgt ds σ) h') (ops.toList.map (roOf ops)) σ h)
  (hds : ops.toList.filterMap (·.dst) = ds := by rfl) (hl : (draw && t.lk.contains id) = false := by rfl) (hg : (ops.toList.all (guardsOk ops)) = true := by rfl) : aC t (.region id ops draw) σ h Q :=
 w_regionG hl hg (by rw [forget_fgt hds]; exact x)
theorem xfz {id : Nat} {ops : Array Oper} {draw : Bool} (n sz : Nat) (l : List D) (cs : List C) (x : aC t (.region id ops draw) (fun i => frzA n (.sl sz (l ++ cs.map C.toD)) (l.length + cs.length) (σ i)) (frzH n (.sl sz (l ++ cs.map C.toD)) (l.length + cs.length) h) Q)
  (hH : h.H n = some (.arr sz l :: cs) := by simp -implicitDefEqProofs only [goR, ↓upd_at, goS, ↓reduceIte, reduceCtorEq, seval, Y]) (hD : cs.all C.isD = true := by rfl) (h1D : (cs.map C.toD).all D.one = true := by rfl) : aC t (.region id ops draw) σ h Q :=
 let ⟨σ1, h1, k, q⟩ := x; ⟨σ1, h1, (wk_freeze hH hD h1D).trans k, q⟩
theorem xrn {id : Nat} {ops : Array Oper} {draw : Bool} (n k : Nat) {sz : Nat} {l : List D} {row : List C} (x : aC t (.region id ops draw) (fun i => rnA n h.nx (σ i)) { h with H := upd (upd (upd h.H n none) h.nx (some [.arr sz l])) k (some (row.map (rnC n h.nx))), nx := h.nx + 1 } Q)
  (hn : h.H n = some [.arr sz l] := by simp -implicitDefEqProofs only [goR, ↓upd_at, goS, ↓reduceIte, reduceCtorEq, seval, Y]; rfl) (hk : h.H k = some row := by simp -implicitDefEqProofs only [goR, ↓upd_at, goS, ↓reduceIte, reduceCtorEq, seval, Y]; rfl)
  (hkn : k ≠ n := by decide) (hsz : 0 < sz := by decide) : aC t (.region id ops draw) σ h Q :=
 let ⟨σ1, h1, k', q⟩ := x; ⟨σ1, h1, (wk_rn hn hk hkn hsz).trans k', q⟩
theorem xs (n : Nat) {σ2 : Nat → AV} {h2 : Hp} (x : aRG t K Kp (L.drop n) σ2 h2)
  (hr : ∀ K' : (Nat → AV) → Hp → Prop, K' σ2 h2 → aRO t K' (L.take n) σ h := by
   intro K' hK
   simp -implicitDefEqProofs only [goR, ↓upd_at, goS, ↓reduceIte, reduceCtorEq, seval, F]
   repeat' (first | exact hK | (with_reducible apply And.intro) | exact trivial | assumption | omega)) : aRG t K Kp L σ h := by
 have := aRG_seg (l2 := L.drop n) (hr _ x)
 rwa [List.take_append_drop] at this
theorem xl (x : K σ h) (hl : L = [] := by rfl) : aRG t K Kp L σ h := by subst hl; exact x
def gdOk (σ : Nat → AV) : Option (Tmp × Bool) → Prop
 | none => True
 | some (d, w) => σ d = .c (.d (.v (.bool w)))
theorem aGd_run {g : Option (Tmp × Bool)} {run skip : (Nat → AV) → Prop} (hg : gdOk σ g) (hh : run σ) : aGd σ g run skip := by
 cases g with
 | none => exact hh
 | some p =>
  obtain ⟨d, w⟩ := p
  have hg : σ d = .c (.d (.v (.bool w))) := hg
  simp only [aGd, hg]
  refine ⟨fun _ => ?_, fun hx => by cases w <;> cases hx⟩
  have := upd_self (q := w) hg rfl
  rw [this]; exact hh
theorem xc {l' : List RdO} {o : RdO} {f : Nat} {args : List AV} {g : GI} {val : AV} {bs : List (List C)} {ts : List TypeId} {σ2 : Nat → AV} {h2 : Hp} (r : Ren) (hG : t.G f g) (x : aRG t K Kp l' σ2 h2)
  (hl : L = o :: l' := by rfl) (hout : g.out = .ret val bs ts := by rfl)
  (hgd : gdOk σ o.g := by simp -implicitDefEqProofs only [gdOk, goR, ↓upd_at, goS, ↓reduceIte, reduceCtorEq, seval, F])
  (hc : gCall t σ o.op = some (f, args) := by (simp -implicitDefEqProofs only [goG, goR, ↓upd_at, goS, ↓reduceIte, reduceCtorEq, seval, F]; try rfl))
  (ha : AsWk r args g.args := by simp -implicitDefEqProofs only [goG, goW, goR, ↓upd_at, goS, ↓reduceIte, reduceCtorEq, seval, F])
  (lb : g.bs.length = r.ps.length := by rfl) (lt : g.ts.length = r.qs.length := by rfl) (op : once r.ps = true := by rfl) (oq : once r.qs = true := by rfl)
  (bwk : BWk r h 1 g.bs := by simp -implicitDefEqProofs only [goG, goW, goR, ↓upd_at, goS, ↓reduceIte, reduceCtorEq, seval, F])
  (twk : TWk r h (r.ps.length + 1) g.ts := by simp -implicitDefEqProofs only [goG, goW, goR, ↓upd_at, goS, ↓reduceIte, reduceCtorEq, seval, F])
  (live : ∀ row ∈ g.bs, row ≠ [] := by simp -implicitDefEqProofs only [goG, goW, goR, ↓upd_at, goS, ↓reduceIte, reduceCtorEq, seval, F])
  (hs : ∀ X : (Nat → AV) → Hp → Prop, X σ2 h2 → X (putA σ o.dst (renA (r.back h.nx) val)) (h.after r bs ts) := by
   intro X hX
   simp -implicitDefEqProofs only [goG, goR, ↓upd_at, goS, ↓reduceIte, reduceCtorEq, seval, F]
   exact hX) : aRG t K Kp L σ h := by
 subst hl
 refine aGd_run hgd ?_
 unfold aRun
 rw [hc]
 refine ⟨g, r, hG, ⟨ha, lb, lt, op, oq, bwk, twk, live⟩, ?_⟩
 rw [hout]
 exact hs _ x
theorem xp {l' : List RdO} {o : RdO} {f : Nat} {args : List AV} {g : GI} {v : Value} {bs : List (List C)} {ts : List TypeId} {h2 : Hp} (r : Ren) (hG : t.G f g) (x : Kp v h2)
  (hl : L = o :: l' := by rfl) (hout : g.out = .pan v bs ts := by rfl)
  (hgd : gdOk σ o.g := by simp -implicitDefEqProofs only [gdOk, goR, ↓upd_at, goS, ↓reduceIte, reduceCtorEq, seval, F])
  (hc : gCall t σ o.op = some (f, args) := by (simp -implicitDefEqProofs only [goG, goR, ↓upd_at, goS, ↓reduceIte, reduceCtorEq, seval, F]; try rfl))
  (ha : AsWk r args g.args := by simp -implicitDefEqProofs only [goG, goW, goR, ↓upd_at, goS, ↓reduceIte, reduceCtorEq, seval, F])
  (lb : g.bs.length = r.ps.length := by rfl) (lt : g.ts.length = r.qs.length := by rfl) (op : once r.ps = true := by rfl) (oq : once r.qs = true := by rfl)
  (bwk : BWk r h 1 g.bs := by simp -implicitDefEqProofs only [goG, goW, goR, ↓upd_at, goS, ↓reduceIte, reduceCtorEq, seval, F])
  (twk : TWk r h (r.ps.length + 1) g.ts := by simp -implicitDefEqProofs only [goG, goW, goR, ↓upd_at, goS, ↓reduceIte, reduceCtorEq, seval, F])
  (live : ∀ row ∈ g.bs, row ≠ [] := by simp -implicitDefEqProofs only [goG, goW, goR, ↓upd_at, goS, ↓reduceIte, reduceCtorEq, seval, F])
  (hs : ∀ X : Hp → Prop, X h2 → X (h.after r bs ts) := by
   intro X hX
   simp -implicitDefEqProofs only [goG, goR, ↓upd_at, goS, ↓reduceIte, reduceCtorEq, seval, F]
   exact hX) : aRG t K Kp L σ h := by
 subst hl
 refine aGd_run hgd ?_
 unfold aRun
 rw [hc]
 refine ⟨g, r, hG, ⟨ha, lb, lt, op, oq, bwk, twk, live⟩, ?_⟩
 rw [hout]
 exact hs _ x
theorem xv {l' : List RdO} {o : RdO} {y : Operand} {v : Value} (x : Kp v h) (hl : L = o :: l' := by rfl) (hop : o.op = .panic y := by rfl)
  (hgd : gdOk σ o.g := by simp -implicitDefEqProofs only [gdOk, goR, ↓upd_at, goS, ↓reduceIte, reduceCtorEq, seval, F])
  (hv : panV σ y = some v := by simp -implicitDefEqProofs only [panV, goR, ↓upd_at, goS, ↓reduceIte, reduceCtorEq, seval, F]; rfl) : aRG t K Kp L σ h := by
 subst hl
 refine aGd_run hgd ?_
 unfold aRun
 rw [hop]
 have hg : ∀ op, isDP op = true → gCall t σ op = none := fun op h => by cases op <;> first | rfl | cases h
 rw [hg _ rfl]
 simp only [isDP, if_true]
 unfold aDP
 simp only [hv]
 exact x
theorem xw {l' : List RdO} {o : RdO} {c : Call} {d : Nat × List C} (x : aRG t K Kp l' (putA (upd σ DS (.df (d :: dfL (σ DS)))) o.dst undefA) h) (hl : L = o :: l' := by rfl) (hop : o.op = .defer c := by rfl)
  (hgd : gdOk σ o.g := by simp -implicitDefEqProofs only [gdOk, goR, ↓upd_at, goS, ↓reduceIte, reduceCtorEq, seval, F])
  (hd : dCall σ c = some d := by simp -implicitDefEqProofs only [dCall, goR, ↓upd_at, goS, ↓reduceIte, reduceCtorEq, seval, F]; rfl) : aRG t K Kp L σ h := by
 subst hl
 refine aGd_run hgd ?_
 unfold aRun
 rw [hop]
 have hg : ∀ op, isDP op = true → gCall t σ op = none := fun op h => by cases op <;> first | rfl | cases h
 rw [hg _ rfl]
 simp only [isDP, if_true]
 unfold aDP
 simp only [hd]
 exact x
section
variable {pure : Nat → Nat} {fl : List Nat} {K : XK} {L : LK} {M : List Hp} {l : List RdO}
theorem xX {P : Program} {pl : List (Nat × PF)} {gl : List (Nat × Bool × (GI → Prop))} {dl : List (Nat × (DI → Prop))} {rt : Nat} {lk : List Nat} {id : Nat} {ops : Array Oper} (m n : Nat) (fl : List Nat) (h2 : AllOkG P gl)
  (x : aRX (tab P pl gl dl rt lk) (kindOf (pl.map Prod.fst) (gl.map fun p => (p.1, p.2.1))) fl (fun L M σ' h' => aAnyX (tab P pl gl dl rt lk) (kindOf (pl.map Prod.fst) (gl.map fun p => (p.1, p.2.1))) fl ops (Q .normal) (fun v h' => Q (.panic [{ v := v, recovered := false }]) (forget ops σ) h') n (listX n m 0 (Array.replicate ops.size false)) L M σ' h') (fun v h' => Q (.panic [{ v := v, recovered := false }]) (forget ops σ) h') ((ops.toList.take m).map (roOf ops)) (fun _ => True) [] σ h)
  (hlk : lk.contains id = true := by rfl) (hmn : ops.size = m + n := by rfl) (hB : Jcn (kindOf (pl.map Prod.fst) (gl.map fun p => (p.1, p.2.1))) fl ops m 0 (Array.replicate ops.size false) = true := by kernel_rfl) (hg : ((ops.toList.take m).all (guardsOk ops)) = true := by rfl) : aC (tab P pl gl dl rt lk) (.region id ops true) σ h Q :=
 w_regionX tab_pure (tab_np h2) m n hlk hmn hB hg x
theorem xP {P : Program} {pl : List (Nat × PF)} {gl : List (Nat × Bool × (GI → Prop))} {dl : List (Nat × (DI → Prop))} {rt : Nat} {lk : List Nat} {id : Nat} {ops : Array Oper} (ks : List Nat) (fl : List Nat) (h2 : AllOkG P gl)
  (x : aRX (tab P pl gl dl rt lk) (kindOf (pl.map Prod.fst) (gl.map fun p => (p.1, p.2.1))) fl (fun L M σ' h' => aAnyX (tab P pl gl dl rt lk) (kindOf (pl.map Prod.fst) (gl.map fun p => (p.1, p.2.1))) fl ops (Q .normal) (fun v h' => Q (.panic [{ v := v, recovered := false }]) (forget ops σ) h') 0 (listK ks (Array.replicate ops.size false)) L M σ' h') (fun v h' => Q (.panic [{ v := v, recovered := false }]) (forget ops σ) h') ((pick ops ks).map (roOf ops)) (fun _ => True) [] σ h)
  (hlk : lk.contains id = true := by rfl) (hmn : ops.size = ks.length := by rfl) (hB : seqX (kindOf (pl.map Prod.fst) (gl.map fun p => (p.1, p.2.1))) fl ops ks (Array.replicate ops.size false) = true := by kernel_rfl) (hg : ((pick ops ks).all (guardsOk ops)) = true := by rfl) : aC (tab P pl gl dl rt lk) (.region id ops true) σ h Q :=
 w_regionP tab_pure (tab_np h2) ks hlk hmn hB hg x
theorem xPp (ds : List Nat) {P : Program} {pl : List (Nat × PF)} {gl : List (Nat × Bool × (GI → Prop))} {dl : List (Nat × (DI → Prop))} {rt : Nat} {lk : List Nat} {id : Nat} {ops : Array Oper} (ks : List Nat) (fl : List Nat) (h2 : AllOkG P gl)
  (x : aRX (tab P pl gl dl rt lk) (kindOf (pl.map Prod.fst) (gl.map fun p => (p.1, p.2.1))) fl (fun L M σ' h' => aAnyX (tab P pl gl dl rt lk) (kindOf (pl.map Prod.fst) (gl.map fun p => (p.1, p.2.1))) fl ops (Q .normal) (fun v h' => Q (.panic [{ v := v, recovered := false }]) (fgt ds σ) h') 0 (listK ks (Array.replicate ops.size false)) L M σ' h') (fun v h' => Q (.panic [{ v := v, recovered := false }]) (fgt ds σ) h') ((pick ops ks).map (roOf ops)) (fun _ => True) [] σ h)
  (hds : ops.toList.filterMap (·.dst) = ds := by rfl) (hlk : lk.contains id = true := by rfl) (hmn : ops.size = ks.length := by rfl) (hB : seqX (kindOf (pl.map Prod.fst) (gl.map fun p => (p.1, p.2.1))) fl ops ks (Array.replicate ops.size false) = true := by kernel_rfl) (hg : ((pick ops ks).all (guardsOk ops)) = true := by rfl) : aC (tab P pl gl dl rt lk) (.region id ops true) σ h Q :=
 w_regionP tab_pure (tab_np h2) ks hlk hmn hB hg (by rw [forget_fgt hds]; exact x)
theorem xsX (n : Nat) {σ2 : Nat → AV} {h2 : Hp} (x : aRX t pure fl K Kp (l.drop n) L M σ2 h2)
  (hc : ((l.take n).all fun o => plainX (clsF pure fl o.op o.dst)) = true := by rfl)
  (hr : ∀ K' : (Nat → AV) → Hp → Prop, K' σ2 h2 → aRO t K' (l.take n) σ h := by
   intro K' hK
   simp -implicitDefEqProofs only [goR, ↓upd_at, goS, ↓reduceIte, reduceCtorEq, seval, F]
   repeat' (first | exact hK | (with_reducible apply And.intro) | exact trivial | assumption | omega)) : aRX t pure fl K Kp l L M σ h := by
 have := aRX_seg (Kp := Kp) hc (hr (fun σ h => aRX t pure fl K Kp (l.drop n) L M σ h) x)
 rwa [List.take_append_drop] at this
theorem aRX_own {c : Nat} {o : RdO} {l' : List RdO} {σ2 : Nat → AV} {h2 : Hp} {L' : LK} {M' : List Hp} (hc : clsF pure fl o.op o.dst = c) (hgd : gdOk σ o.g) (hr : ∀ X : (Nat → AV) → Hp → Prop, X σ2 h2 → (aop t.P t.Φ t.Ψ o.op σ h).pre ∧ X (putA σ o.dst (aop t.P t.Φ t.Ψ o.op σ h).val) (aop t.P t.Φ t.Ψ o.op σ h).h)
  (hx : aRX t pure fl K Kp l' L' M' σ2 h2) (f : ∀ X : XK, X L' M' σ2 h2 → (aop t.P t.Φ t.Ψ o.op σ h).pre → (∀ Y : (Nat → AV) → Hp → Prop, Y σ2 h2 → aRun t o.op o.dst Y Kp σ h) → aRunX t c o.op o.dst X Kp L M σ h) : aRX t pure fl K Kp (o :: l') L M σ h := by
 refine aGd_run hgd ?_
 rw [hc]
 have hp := (hr (fun _ _ => True) trivial).1
 refine f _ hx hp fun Y hY => ?_
 obtain ⟨q1, q2⟩ := aop_plain hp
 unfold aRun
 rw [q1]
 simp only
 rw [if_neg q2]
 exact hr Y hY
theorem xaX {o : RdO} {l' : List RdO} {σ2 : Nat → AV} {h2 : Hp} (x : aRX t pure fl K Kp l' (fun h' => L h' ∧ lockOf t o.op σ h h') M σ2 h2) (hl : l = o :: l' := by rfl)
  (hc : clsF pure fl o.op o.dst = 1 := by rfl)
  (hgd : gdOk σ o.g := by simp -implicitDefEqProofs only [gdOk, goR, ↓upd_at, goS, ↓reduceIte, reduceCtorEq, seval, F])
  (hr : ∀ X : (Nat → AV) → Hp → Prop, X σ2 h2 → (aop t.P t.Φ t.Ψ o.op σ h).pre ∧ X (putA σ o.dst (aop t.P t.Φ t.Ψ o.op σ h).val) (aop t.P t.Φ t.Ψ o.op σ h).h := by
   intro X hX
   simp -implicitDefEqProofs only [goG, goR, ↓upd_at, goS, ↓reduceIte, reduceCtorEq, seval, F]
   repeat' (first | exact hX | (with_reducible apply And.intro) | exact trivial | assumption | omega))
  (hM : ∀ h0 ∈ M, lockOf t o.op σ h h0 := by
   simp -implicitDefEqProofs only [lockOf, List.forall_mem_cons, List.not_mem_nil, false_implies, implies_true, goG, goR, ↓upd_at, goS, ↓reduceIte, reduceCtorEq, seval, F]) : aRX t pure fl K Kp l L M σ h := by
 subst hl
 refine aRX_own hc hgd hr x fun X hX hp hY => ?_
 unfold aRunX
 rw [if_pos rfl]
 exact ⟨hM, hY _ hX⟩
theorem xbX {o : RdO} {l' : List RdO} {σ2 : Nat → AV} {h2 : Hp} (x : aRX t pure fl K Kp l' L (h :: M) σ2 h2) (hl : l = o :: l' := by rfl)
  (hc : (clsF pure fl o.op o.dst == 2 || clsF pure fl o.op o.dst == 4) = true := by rfl)
  (hgd : gdOk σ o.g := by simp -implicitDefEqProofs only [gdOk, goR, ↓upd_at, goS, ↓reduceIte, reduceCtorEq, seval, F])
  (hr : ∀ X : (Nat → AV) → Hp → Prop, X σ2 h2 → (aop t.P t.Φ t.Ψ o.op σ h).pre ∧ X (putA σ o.dst (aop t.P t.Φ t.Ψ o.op σ h).val) (aop t.P t.Φ t.Ψ o.op σ h).h := by
   intro X hX
   simp -implicitDefEqProofs only [goG, goR, ↓upd_at, goS, ↓reduceIte, reduceCtorEq, seval, F]
   repeat' (first | exact hX | (with_reducible apply And.intro) | exact trivial | assumption | omega))
  (hL : L h2 := by
   simp -implicitDefEqProofs only [lockOf, goG, goR, ↓upd_at, goS, ↓reduceIte, reduceCtorEq, seval, F]) : aRX t pure fl K Kp l L M σ h := by
 subst hl
 refine aRX_own rfl hgd hr x fun X hX hp hY => ?_
 unfold aRunX
 simp only [Bool.or_eq_true, beq_iff_eq] at hc
 rw [if_neg (by omega), if_pos (by omega)]
 exact hY (fun σ' h' => L h' ∧ X L (h :: M) σ' h') ⟨hL, hX⟩
theorem xcX {o : RdO} {l' : List RdO} {f : Nat} {args : List AV} {g : GI} {val : AV} {bs : List (List C)} {ts : List TypeId} {σ2 : Nat → AV} {h2 : Hp} (r : Ren) (hG : t.G f g) (x : aRX t pure fl K Kp l' L (h :: M) σ2 h2)
  (hl : l = o :: l' := by rfl) (hout : g.out = .ret val bs ts := by rfl)
  (hcl : (clsF pure fl o.op o.dst == 2 || clsF pure fl o.op o.dst == 6) = true := by rfl)
  (hgd : gdOk σ o.g := by simp -implicitDefEqProofs only [gdOk, goR, ↓upd_at, goS, ↓reduceIte, reduceCtorEq, seval, F])
  (hc : gCall t σ o.op = some (f, args) := by (simp -implicitDefEqProofs only [goG, goR, ↓upd_at, goS, ↓reduceIte, reduceCtorEq, seval, F]; try rfl))
  (ha : AsWk r args g.args := by simp -implicitDefEqProofs only [goG, goW, goR, ↓upd_at, goS, ↓reduceIte, reduceCtorEq, seval, F])
  (lb : g.bs.length = r.ps.length := by rfl) (lt : g.ts.length = r.qs.length := by rfl) (op : once r.ps = true := by rfl) (oq : once r.qs = true := by rfl)
  (bwk : BWk r h 1 g.bs := by simp -implicitDefEqProofs only [goG, goW, goR, ↓upd_at, goS, ↓reduceIte, reduceCtorEq, seval, F])
  (twk : TWk r h (r.ps.length + 1) g.ts := by simp -implicitDefEqProofs only [goG, goW, goR, ↓upd_at, goS, ↓reduceIte, reduceCtorEq, seval, F])
  (live : ∀ row ∈ g.bs, row ≠ [] := by simp -implicitDefEqProofs only [goG, goW, goR, ↓upd_at, goS, ↓reduceIte, reduceCtorEq, seval, F])
  (hs : ∀ X : (Nat → AV) → Hp → Prop, X σ2 h2 → X (putA σ o.dst (renA (r.back h.nx) val)) (h.after r bs ts) := by
   intro X hX
   simp -implicitDefEqProofs only [goG, goR, ↓upd_at, goS, ↓reduceIte, reduceCtorEq, seval, F]
   exact hX)
  (hL : L h2 := by
   simp -implicitDefEqProofs only [lockOf, goG, goR, ↓upd_at, goS, ↓reduceIte, reduceCtorEq, seval, F]) : aRX t pure fl K Kp l L M σ h := by
 subst hl
 refine aGd_run hgd ?_
 unfold aRunX
 simp only [Bool.or_eq_true, beq_iff_eq] at hcl
 rw [if_neg (by omega), if_pos (by omega)]
 unfold aRun
 rw [hc]
 refine ⟨g, r, hG, ⟨ha, lb, lt, op, oq, bwk, twk, live⟩, ?_⟩
 rw [hout]
 exact hs (fun σ' h' => L h' ∧ aRX t pure fl K Kp l' L (h :: M) σ' h') ⟨hL, x⟩
theorem xpX {o : RdO} {l' : List RdO} {f : Nat} {args : List AV} {g : GI} {v : Value} {bs : List (List C)} {ts : List TypeId} {h2 : Hp} (r : Ren) (hG : t.G f g) (x : Kp v h2)
  (hl : l = o :: l' := by rfl) (hout : g.out = .pan v bs ts := by rfl)
  (hcl : (clsF pure fl o.op o.dst == 2 || clsF pure fl o.op o.dst == 6) = true := by rfl)
  (hgd : gdOk σ o.g := by simp -implicitDefEqProofs only [gdOk, goR, ↓upd_at, goS, ↓reduceIte, reduceCtorEq, seval, F])
  (hc : gCall t σ o.op = some (f, args) := by (simp -implicitDefEqProofs only [goG, goR, ↓upd_at, goS, ↓reduceIte, reduceCtorEq, seval, F]; try rfl))
  (ha : AsWk r args g.args := by simp -implicitDefEqProofs only [goG, goW, goR, ↓upd_at, goS, ↓reduceIte, reduceCtorEq, seval, F])
  (lb : g.bs.length = r.ps.length := by rfl) (lt : g.ts.length = r.qs.length := by rfl) (op : once r.ps = true := by rfl) (oq : once r.qs = true := by rfl)
  (bwk : BWk r h 1 g.bs := by simp -implicitDefEqProofs only [goG, goW, goR, ↓upd_at, goS, ↓reduceIte, reduceCtorEq, seval, F])
  (twk : TWk r h (r.ps.length + 1) g.ts := by simp -implicitDefEqProofs only [goG, goW, goR, ↓upd_at, goS, ↓reduceIte, reduceCtorEq, seval, F])
  (live : ∀ row ∈ g.bs, row ≠ [] := by simp -implicitDefEqProofs only [goG, goW, goR, ↓upd_at, goS, ↓reduceIte, reduceCtorEq, seval, F])
  (hs : ∀ X : Hp → Prop, X h2 → X (h.after r bs ts) := by
   intro X hX
   simp -implicitDefEqProofs only [goG, goR, ↓upd_at, goS, ↓reduceIte, reduceCtorEq, seval, F]
   exact hX) : aRX t pure fl K Kp l L M σ h := by
 subst hl
 refine aGd_run hgd ?_
 unfold aRunX
 simp only [Bool.or_eq_true, beq_iff_eq] at hcl
 rw [if_neg (by omega), if_pos (by omega)]
 unfold aRun
 rw [hc]
 refine ⟨g, r, hG, ⟨ha, lb, lt, op, oq, bwk, twk, live⟩, ?_⟩
 rw [hout]
 exact hs _ x
theorem xlX {ops : Array Oper} {listed : Array Bool} {K : (Nat → AV) → Hp → Prop} (x : K σ h) (hl : l = [] := by rfl) (hr : Region.ready .any ops listed = [] := by kernel_rfl) : aRX t pure fl (fun L M σ' h' => aAnyX t pure fl ops K Kp 0 listed L M σ' h') Kp l L M σ h := by
 subst hl
 exact ⟨hr, x⟩
theorem xm {K : XK} (x : K L M σ h) (hl : l = [] := by rfl) : aRX t pure fl K Kp l L M σ h := by subst hl; exact x
section
variable {ops : Array Oper} {listed : Array Bool} {K : (Nat → AV) → Hp → Prop}
theorem xez (x : K σ h) (hr : Region.ready .any ops listed = [] := by kernel_rfl) : aAnyX t pure fl ops K Kp 0 listed L M σ h := ⟨hr, x⟩
theorem xgi {f i : Nat} {o : Oper} (ho : ops[i]? = some o) (hg : guardsOk ops o = true) (x : aRX t pure fl (fun L M σ h => aAnyX t pure fl ops K Kp f (listed.setIfInBounds i true) L M σ h) Kp [roOf ops o] L M σ h) :
  aOpAtX t pure fl ops i (fun L M σ h => aAnyX t pure fl ops K Kp f (listed.setIfInBounds i true) L M σ h) Kp L M σ h := by
 unfold aOpAtX
 rw [ho]
 exact aOpsX_of_RX (pure := pure) (fl := fl) [o] L M σ h (by simpa using hg) x
theorem xg1 {f : Nat} {o : Oper} (i : Nat) (x : aRX t pure fl (fun L M σ h => aAnyX t pure fl ops K Kp f (listed.setIfInBounds i true) L M σ h) Kp [roOf ops o] L M σ h) (ho : ops[i]? = some o := by rfl) (hg : guardsOk ops o = true := by rfl) (hr : Region.ready .any ops listed = [i] := by kernel_rfl) : aAnyX t pure fl ops K Kp (f + 1) listed L M σ h :=
 ⟨fun h => (by rw [hr] at h; cases h), fun k hk => (by rw [hr] at hk; simp only [List.mem_singleton] at hk; subst hk; exact xgi ho hg x)⟩
theorem xg2 {f : Nat} {o o' : Oper} (i j : Nat) (x : aRX t pure fl (fun L M σ h => aAnyX t pure fl ops K Kp f (listed.setIfInBounds i true) L M σ h) Kp [roOf ops o] L M σ h) (x' : aRX t pure fl (fun L M σ h => aAnyX t pure fl ops K Kp f (listed.setIfInBounds j true) L M σ h) Kp [roOf ops o'] L M σ h)
  (ho : ops[i]? = some o := by rfl) (hg : guardsOk ops o = true := by rfl) (ho' : ops[j]? = some o' := by rfl) (hg' : guardsOk ops o' = true := by rfl) (hr : Region.ready .any ops listed = [i, j] := by kernel_rfl) : aAnyX t pure fl ops K Kp (f + 1) listed L M σ h :=
 ⟨fun h => (by rw [hr] at h; cases h), fun k hk => (by
  rw [hr] at hk
  simp only [List.mem_cons, List.not_mem_nil, or_false] at hk
  rcases hk with rfl | rfl
  ·exact xgi ho hg x
  ·exact xgi ho' hg' x')⟩
end
end
variable {fn : Func} {nb : Nat} {val : AV} {bs : List (List C)} {ts : List TypeId}
theorem xOr {out : GOut} (x : QL t fn.results.toList nb out (dfL (σ DS)) none σ h) : QGenW t fn nb out .ret σ h := ⟨σ, h, Wk.refl _ _ _, x⟩
theorem xOn {out : GOut} (x : QL t fn.results.toList nb out (dfL (σ DS)) none σ h) : QGenW t fn nb out .normal σ h := ⟨σ, h, Wk.refl _ _ _, x⟩
theorem xOp {out : GOut} {v : Value} (x : QL t fn.results.toList nb out (dfL (σ DS)) (some v) σ h) : QGenW t fn nb out (.panic [{ v := v, recovered := false }]) σ h := ⟨σ, h, Wk.refl _ _ _, v, rfl, x⟩
theorem qDf {rs : List ResultVar} {u : Option Value} {out : GOut} (dl : List (Nat × List C)) (x : QL t rs nb out dl u σ h)
  (hd : dfL (σ DS) = dl := by simp -implicitDefEqProofs only [goG, goR, ↓upd_at, goS, ↓reduceIte, reduceCtorEq, seval, Y]) : QL t rs nb out (dfL (σ DS)) u σ h := by rw [hd]; exact x
theorem xD {rs : List ResultVar} {u : Option Value} {out : GOut} {f : Nat} {cs : List C} {dl : List (Nat × List C)} {d : DI} {h2 : Hp} (r : Ren) (hD : t.D f d) (x : QL t rs nb out dl d.u' σ h2) (hu : d.u = u := by rfl)
  (ha : AsWk r (cs.map AV.c) d.args := by simp -implicitDefEqProofs only [goG, goW, goR, ↓upd_at, goS, ↓reduceIte, reduceCtorEq, seval, Y])
  (lb : d.bs.length = r.ps.length := by rfl) (lt : d.ts.length = r.qs.length := by rfl) (op : once r.ps = true := by rfl) (oq : once r.qs = true := by rfl)
  (bwk : BWk r h 1 d.bs := by simp -implicitDefEqProofs only [goG, goW, goR, ↓upd_at, goS, ↓reduceIte, reduceCtorEq, seval, Y])
  (twk : TWk r h (r.ps.length + 1) d.ts := by simp -implicitDefEqProofs only [goG, goW, goR, ↓upd_at, goS, ↓reduceIte, reduceCtorEq, seval, Y])
  (live : ∀ row ∈ d.bs, row ≠ [] := by simp -implicitDefEqProofs only [goG, goW, goR, ↓upd_at, goS, ↓reduceIte, reduceCtorEq, seval, Y])
  (hs : ∀ X : Hp → Prop, X h2 → X (h.after r d.bs' d.ts') := by
   intro X hX
   simp -implicitDefEqProofs only [goG, goR, ↓upd_at, goS, ↓reduceIte, reduceCtorEq, seval, Y]
   exact hX) : QL t rs nb out ((f, cs) :: dl) u σ h :=
 ⟨d, r, hD, hu, ⟨ha, lb, lt, op, oq, bwk, twk, live⟩, hs (fun h => QL t rs nb out dl d.u' σ h) x⟩
theorem xO {rs : List ResultVar} {av : AV} (r : Ren) (hr : (aResGs t.P σ h rs).1 := by simp -implicitDefEqProofs only [goG, goQ, goR, ↓upd_at, goS, ↓reduceIte, reduceCtorEq, seval, Y])
  (hj : joinA (aResGs t.P σ h rs).2 = some av := by simp -implicitDefEqProofs only [goG, goQ, goR, ↓upd_at, goS, ↓reduceIte, reduceCtorEq, seval, Y]; rfl)
  (ha : AWk r av val := by first | (simp -implicitDefEqProofs only [goG, goW, goR, ↓upd_at, goS, ↓reduceIte, reduceCtorEq, seval, Y]; done) | simp -implicitDefEqProofs only [goG, goW, goR, ↓upd_at, goS, ↓reduceIte, reduceCtorEq, seval, Y, G])
  (lb : bs.length = r.ps.length := by rfl) (lt : ts.length = r.qs.length := by rfl) (op : once r.ps = true := by rfl) (oq : once r.qs = true := by rfl)
  (bwk : BWk r h 1 bs := by first | (simp -implicitDefEqProofs only [goG, goW, goR, ↓upd_at, goS, ↓reduceIte, reduceCtorEq, seval, Y]; done) | simp -implicitDefEqProofs only [goG, goW, goR, ↓upd_at, goS, ↓reduceIte, reduceCtorEq, seval, Y, G])
  (twk : TWk r h (r.ps.length + 1) ts := by simp -implicitDefEqProofs only [goG, goW, goR, ↓upd_at, goS, ↓reduceIte, reduceCtorEq, seval, Y])
  (rt : (r.ps.take nb == List.range' 1 nb) = true := by rfl) (hn : nb ≤ bs.length := by exact Nat.le_of_ble_eq_true rfl) : QL t rs nb (.ret val bs ts) [] none σ h :=
 ⟨r, av, ⟨lb, lt, op, oq, bwk, twk, rt, hn⟩, hr, hj, ha⟩
theorem xOv {rs : List ResultVar} {v : Value} (r : Ren)
  (lb : bs.length = r.ps.length := by rfl) (lt : ts.length = r.qs.length := by rfl) (op : once r.ps = true := by rfl) (oq : once r.qs = true := by rfl)
  (bwk : BWk r h 1 bs := by first | (simp -implicitDefEqProofs only [goG, goW, goR, ↓upd_at, goS, ↓reduceIte, reduceCtorEq, seval, Y]; done) | simp -implicitDefEqProofs only [goG, goW, goR, ↓upd_at, goS, ↓reduceIte, reduceCtorEq, seval, Y, G])
  (twk : TWk r h (r.ps.length + 1) ts := by simp -implicitDefEqProofs only [goG, goW, goR, ↓upd_at, goS, ↓reduceIte, reduceCtorEq, seval, Y])
  (rt : (r.ps.take nb == List.range' 1 nb) = true := by rfl) (hn : nb ≤ bs.length := by exact Nat.le_of_ble_eq_true rfl) : QL t rs nb (.pan v bs ts) [] (some v) σ h :=
 ⟨rfl, r, ⟨lb, lt, op, oq, bwk, twk, rt, hn⟩⟩
theorem xDr {d : DI} (r : Ren) (hr : (aResGs t.P σ h fn.results.toList).1 := by simp -implicitDefEqProofs only [goG, goQ, goR, ↓upd_at, goS, ↓reduceIte, reduceCtorEq, seval, Y])
  (hj : (joinA (aResGs t.P σ h fn.results.toList).2).isSome = true := by first | (simp -implicitDefEqProofs only [goG, goQ, goR, ↓upd_at, goS, ↓reduceIte, reduceCtorEq, seval, Y]; done) | (simp -implicitDefEqProofs only [goG, goQ, goR, ↓upd_at, goS, ↓reduceIte, reduceCtorEq, seval, Y]; rfl))
  (hd : dfL (σ DS) = [] := by simp -implicitDefEqProofs only [goG, goR, ↓upd_at, goS, ↓reduceIte, reduceCtorEq, seval, Y]) (hu : d.u' = d.u := by rfl)
  (lb : d.bs'.length = r.ps.length := by rfl) (lt : d.ts'.length = r.qs.length := by rfl) (op : once r.ps = true := by rfl) (oq : once r.qs = true := by rfl)
  (bwk : BWk r h 1 d.bs' := by simp -implicitDefEqProofs only [goG, goW, goR, ↓upd_at, goS, ↓reduceIte, reduceCtorEq, seval, Y])
  (twk : TWk r h (r.ps.length + 1) d.ts' := by simp -implicitDefEqProofs only [goG, goW, goR, ↓upd_at, goS, ↓reduceIte, reduceCtorEq, seval, Y])
  (rt : (r.ps.take d.bs.length == List.range' 1 d.bs.length) = true := by rfl) (hn : d.bs.length ≤ d.bs'.length := by exact Nat.le_of_ble_eq_true rfl) : QDf t fn d .ret σ h :=
 ⟨⟨r, lb, lt, op, oq, bwk, twk, rt, hn⟩, hr, hj, hd, hu⟩
theorem xDn {d : DI} (r : Ren) (hr : (aResGs t.P σ h fn.results.toList).1 := by simp -implicitDefEqProofs only [goG, goQ, goR, ↓upd_at, goS, ↓reduceIte, reduceCtorEq, seval, Y])
  (hj : (joinA (aResGs t.P σ h fn.results.toList).2).isSome = true := by first | (simp -implicitDefEqProofs only [goG, goQ, goR, ↓upd_at, goS, ↓reduceIte, reduceCtorEq, seval, Y]; done) | (simp -implicitDefEqProofs only [goG, goQ, goR, ↓upd_at, goS, ↓reduceIte, reduceCtorEq, seval, Y]; rfl))
  (hd : dfL (σ DS) = [] := by simp -implicitDefEqProofs only [goG, goR, ↓upd_at, goS, ↓reduceIte, reduceCtorEq, seval, Y]) (hu : d.u' = d.u := by rfl)
  (lb : d.bs'.length = r.ps.length := by rfl) (lt : d.ts'.length = r.qs.length := by rfl) (op : once r.ps = true := by rfl) (oq : once r.qs = true := by rfl)
  (bwk : BWk r h 1 d.bs' := by simp -implicitDefEqProofs only [goG, goW, goR, ↓upd_at, goS, ↓reduceIte, reduceCtorEq, seval, Y])
  (twk : TWk r h (r.ps.length + 1) d.ts' := by simp -implicitDefEqProofs only [goG, goW, goR, ↓upd_at, goS, ↓reduceIte, reduceCtorEq, seval, Y])
  (rt : (r.ps.take d.bs.length == List.range' 1 d.bs.length) = true := by rfl) (hn : d.bs.length ≤ d.bs'.length := by exact Nat.le_of_ble_eq_true rfl) : QDf t fn d .normal σ h :=
 xDr r hr hj hd hu lb lt op oq bwk twk rt hn
def Kok (P : Program) (N : Nat) (np : Bool) (S : GI → Prop) : Prop := Callable P N ∧ (∀ g, S g → GenOk P N g) ∧ (np = true → ∀ g, S g → ∃ val bs ts, g.out = .ret val bs ts)
inductive GR (E R : Type) where
 | ok (r : R)
 | er (e : E)
def grB {E R β : Type} (x : Option (GR E R)) (f : R → Option β) (g : E → Option β) : Option β := match x with
 | none => none
 | some (.ok r) => f r
 | some (.er e) => g e
theorem rsplit {E R β : Type} {x : Option (GR E R)} {f : R → Option β} {g : E → Option β} {o : β} (H : grB x f g = some o) :
  (∃ r, x = some (.ok r) ∧ f r = some o) ∨ (∃ e, x = some (.er e) ∧ g e = some o) := by
 cases x with
 | none => cases H
 | some q => cases q with
  | ok r => exact .inl ⟨r, rfl, H⟩
  | er e => exact .inr ⟨e, rfl, H⟩
end Go.Proofs.YtjgimofnepechaaGreatDoor
