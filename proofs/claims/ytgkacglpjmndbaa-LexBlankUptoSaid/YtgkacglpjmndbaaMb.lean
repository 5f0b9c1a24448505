/- The machine's values and states, and what ties them to frames and worlds. -/
import Derived.Test.YtgkacglpjmndbaaMa
namespace Go.Proofs.Ytgkacglpjmndbaa
open Go.RowKit

inductive C where
  | d (x : D)
  | sl (sz : Nat) (l : List D) (k : Nat)
  | pt (n off : Nat)
  | pp (l : List D)
  | ex (x : Value) (d : D)
  | top
  | arr (sz : Nat) (l : List D)
  | os (n sz len : Nat)
  | pa (n sz i off : Nat)
  | nl
  deriving Inhabited

inductive AV where
  | c (x : C)
  | ag (l : List C)
  deriving Inhabited

def AV.cells : AV → List C
  | .c x => [x]
  | .ag l => l

structure Env where
  w : World
  S : Nat → Nat → Prop
  ρ : Nat → Option Nat
  τ : Nat → Option Value

structure Env.le (e e' : Env) : Prop where
  keep : Keep e.w e.S e'.w e'.S
  names : ∀ n b, e.ρ n = some b → e'.ρ n = some b
  toks : ∀ n b, e.τ n = some b → e'.τ n = some b

theorem Env.le.refl (e : Env) : e.le e := ⟨Keep.refl _ _, fun _ _ h => h, fun _ _ h => h⟩
theorem Env.le.trans {a b c : Env} (h : a.le b) (k : b.le c) : a.le c :=
  ⟨h.keep.trans k.keep, fun _ _ x => k.names _ _ (h.names _ _ x), fun _ _ x => k.toks _ _ (h.toks _ _ x)⟩

/-- A slice with no room behind it. -/
def FullS (v : Value) : Prop := ∃ a n, v = .slice a n n

def RC (e : Env) : C → Value → Prop
  | .d x, v => R1 e.w e.S x v
  | .sl sz l k, v => R1 e.w e.S (.sl sz l) v ∧ (FullS v ∨ (k ≠ 0 ∧ e.τ k = some v))
  | .pt n off, v => ∃ b, e.ρ n = some b ∧ v = .pointer (some ⟨b, off, none⟩)
  | .pp l, v => ∃ b o vs, v = .pointer (some ⟨b, o, none⟩) ∧ Rn e.w e.S l vs ∧ ∀ i x, vs[i]? = some x → e.w.cell? ⟨b, o + i, none⟩ = some x ∧ ¬ e.S b (o + i)
  | .ex x d, v => v = x ∧ R1 e.w e.S d v
  | .top, _ => True
  | .arr _ _, _ => False
  | .os n _ len, v => (len = 0 ∧ ∃ o, v = .slice o 0 0) ∨ ∃ b cap, e.ρ n = some b ∧ e.τ n = some (.slice none cap cap) ∧ v = .slice (some ⟨b, 0, none⟩) len cap ∧ len ≤ cap
  | .pa n sz i off, v => ∃ b, e.ρ n = some b ∧ v = .pointer (some ⟨b, i * sz + off, none⟩)
  | .nl, v => ∃ b, v = .slice (some ⟨b, 0, none⟩) 1 1 ∧ e.w.cell? ⟨b, 0, none⟩ = some (.slice none 0 0) ∧ ¬ e.S b 0

def RCs (e : Env) : List C → List Value → Prop
  | [], [] => True
  | c :: l, v :: vs => RC e c v ∧ RCs e l vs
  | _, _ => False

def RA (e : Env) : AV → Value → Prop
  | .c x, v => RC e x v
  | .ag l, v => ∃ vs, v = .agg ⟨vs⟩ ∧ RCs e l vs

theorem RC.mono {e e' : Env} (h : e.le e') : ∀ {c : C} {v : Value}, RC e c v → RC e' c v
  | .d _, _, k => RD.mono h.keep k
  | .sl _ _ k, v, ⟨k1, k2⟩ => ⟨RD.mono h.keep k1, k2.imp id fun k3 => ⟨k3.1, h.toks _ _ k3.2⟩⟩
  | .pt _ _, _, ⟨b, k1, k2⟩ => ⟨b, h.names _ _ k1, k2⟩
  | .pp _, _, ⟨b, o, vs, k1, k2, k3⟩ => ⟨b, o, vs, k1, RD.mono h.keep k2, fun i x hx => let ⟨h1, h2⟩ := k3 i x hx; h.keep _ _ _ h1 h2⟩
  | .ex _ _, _, ⟨k1, k2⟩ => ⟨k1, RD.mono h.keep k2⟩
  | .top, _, _ => trivial
  | .os _ _ _, _, k => k.imp id fun ⟨b, cap, k1, k2, k3⟩ => ⟨b, cap, h.names _ _ k1, h.toks _ _ k2, k3⟩
  | .pa _ _ _ _, _, ⟨b, k1, k2⟩ => ⟨b, h.names _ _ k1, k2⟩
  | .nl, _, ⟨b, k1, k2, k3⟩ => ⟨b, k1, h.keep _ _ _ k2 k3⟩

theorem RCs.mono {e e' : Env} (h : e.le e') : ∀ {l : List C} {vs : List Value}, RCs e l vs → RCs e' l vs
  | [], [], _ => trivial
  | _ :: _, _ :: _, ⟨h1, h2⟩ => ⟨RC.mono h h1, RCs.mono h h2⟩

theorem RA.mono {e e' : Env} (h : e.le e') : ∀ {a : AV} {v : Value}, RA e a v → RA e' a v
  | .c _, _, k => RC.mono h k
  | .ag _, _, ⟨vs, k1, k2⟩ => ⟨vs, k1, RCs.mono h k2⟩

theorem RCs.length {e : Env} : ∀ {l : List C} {vs : List Value}, RCs e l vs → vs.length = l.length
  | [], [], _ => rfl
  | _ :: _, _ :: _, ⟨_, h2⟩ => by simp [RCs.length h2]

theorem RCs.get {e : Env} : ∀ {l : List C} {vs : List Value}, RCs e l vs → ∀ (i : Nat) (c : C), l[i]? = some c → ∃ x, vs[i]? = some x ∧ RC e c x
  | [], [], _, i, c, h => by simp at h
  | _ :: _, _ :: _, ⟨h1, h2⟩, i, c, hi => by
    cases i with
    | zero => simp at hi; subst hi; exact ⟨_, rfl, h1⟩
    | succ i => simpa using RCs.get h2 i c (by simpa using hi)

theorem RCs.drop {e : Env} : ∀ {l : List C} {vs : List Value} (n : Nat), RCs e l vs → RCs e (l.drop n) (vs.drop n)
  | _, _, 0, h => h
  | [], [], _ + 1, _ => trivial
  | _ :: _, _ :: _, n + 1, ⟨_, h2⟩ => RCs.drop n h2

theorem RCs.take {e : Env} : ∀ {l : List C} {vs : List Value} (n : Nat), RCs e l vs → RCs e (l.take n) (vs.take n)
  | [], [], 0, _ => trivial
  | _ :: _, _ :: _, 0, _ => trivial
  | [], [], _ + 1, _ => trivial
  | _ :: _, _ :: _, n + 1, ⟨h1, h2⟩ => ⟨h1, RCs.take n h2⟩

theorem RCs.append {e : Env} : ∀ {l m : List C} {vs us : List Value}, RCs e l vs → RCs e m us → RCs e (l ++ m) (vs ++ us)
  | [], _, [], _, _, k => k
  | _ :: _, _, _ :: _, _, ⟨h1, h2⟩, k => ⟨h1, RCs.append h2 k⟩

/-- Cells of an own box: whatever they are, or an array's elements (data, then open cells), and what room it has. -/
def RB (e : Env) (n : Nat) : List C → List Value → Prop
  | .arr sz l :: cs, vs => ∃ us ts zs cap, vs = us ++ ts ++ zs ∧ Rn e.w e.S (l.flatMap D.cells) us ∧ (∀ d ∈ l, d.cells.length = sz) ∧ RCs e cs ts ∧ (cs = [] ∨ sz = 1) ∧ 0 < sz ∧ vs.length = cap * sz ∧ cap ≤ maxLen ∧
      e.τ n = some (.slice none cap cap)
  | row, vs => RCs e row vs
/-- Slices that may be arrays: their appends keep their place in the text. -/
def arrTy (t : TypeId) : Bool := ([57] : List Nat).contains t
def C.isArr : C → Bool
  | .arr _ _ => true
  | _ => false
def rowP : List C → Bool
  | [] => true
  | c :: _ => !c.isArr
theorem RB.plain {e : Env} {n : Nat} {row : List C} {vs : List Value} (h : RB e n row vs) (hp : rowP row = true) : RCs e row vs := by
  unfold RB at h
  split at h
  · simp [rowP, C.isArr] at hp
  · exact h
theorem RB.of {e : Env} {n : Nat} {row : List C} {vs : List Value} (h : RCs e row vs) : RB e n row vs := by
  unfold RB
  split
  · cases vs with
    | nil => exact h.elim
    | cons v vs => exact h.1.elim
  · exact h
theorem RB.mono {e e' : Env} (h : e.le e') {n : Nat} {row : List C} {vs : List Value} (k : RB e n row vs) : RB e' n row vs := by
  unfold RB at *
  split at k
  · obtain ⟨us, ts, zs, cap, k1, k2, k3, k4, k5, k6, k7, k8, k9⟩ := k
    exact ⟨us, ts, zs, cap, k1, RD.mono h.keep k2, k3, RCs.mono h k4, k5, k6, k7, k8, h.toks _ _ k9⟩
  · exact RCs.mono h k
/-- An array that is nil as yet. -/
def NilArr (e : Env) (n : Nat) (row : List C) : Prop := e.ρ n = none ∧ ∃ sz, row = [.arr sz []] ∧ 0 < sz

/-- Data of a machine's value. -/
def C.toD : C → D
  | .d x => x
  | .sl sz l _ => .sl sz l
  | .ex _ y => y
  | _ => .v undef
def C.isD : C → Bool
  | .d _ | .sl _ _ _ | .ex _ _ => true
  | _ => false
def AV.toD : AV → D
  | .c x => x.toD
  | .ag l => .ag (l.map C.toD)
def AV.isD : AV → Bool
  | .c x => x.isD
  | .ag l => l.all C.isD

theorem RC.toD {e : Env} : ∀ {c : C} {v : Value}, c.isD = true → RC e c v → R1 e.w e.S c.toD v
  | .d _, _, _, h => h
  | .sl _ _ _, _, _, h => h.1
  | .ex _ _, _, _, h => h.2

theorem RCs.toD {e : Env} : ∀ {l : List C} {vs : List Value}, l.all C.isD = true → RCs e l vs → Rn e.w e.S (l.map C.toD) vs
  | [], [], _, _ => .anil
  | c :: l, v :: vs, h, ⟨h1, h2⟩ => by
    simp only [List.all_cons, Bool.and_eq_true] at h
    exact .acons _ _ _ _ (RC.toD h.1 h1) (RCs.toD h.2 h2)

theorem RA.toD {e : Env} : ∀ {a : AV} {v : Value}, a.isD = true → RA e a v → R1 e.w e.S a.toD v
  | .c _, _, h, k => RC.toD h k
  | .ag _, _, h, ⟨_, rfl, k2⟩ => .ag _ _ (RCs.toD h k2)

theorem RCs.ofD {e : Env} : ∀ {l : List D} {vs : List Value}, Rn e.w e.S l vs → RCs e (l.map C.d) vs
  | [], _, h => by cases h; trivial
  | _ :: _, _, h => by cases h with | acons _ _ _ _ h1 h2 => exact ⟨h1, RCs.ofD h2⟩

/-- The heap's part of a state: own boxes, live tokens (with their row's element type), the next fresh name. -/
structure Hp where
  H : Nat → Option (List C)
  T : Nat → Option Nat
  nx : Nat

def tSize (P : Program) (t : TypeId) : Nat := ((P.info? t).map (·.size)).getD 0

structure Ctx where
  P : Program
  w0 : World
  B : Nat
  S0 : Nat → Nat → Prop
  M : Nat → Prop
  nt : Nat
  root : Option Nat

structure WInv (Γ : Ctx) (h : Hp) (e : Env) : Prop where
  os : e.w.os = Γ.w0.os
  tape : e.w.tape = Γ.w0.tape
  output : e.w.output = Γ.w0.output
  grown : Γ.w0.heap.size ≤ e.w.heap.size
  hB : Γ.B ≤ e.w.heap.size
  old : ∀ b, b < Γ.B → ¬ Γ.M b → e.w.heap[b]? = Γ.w0.heap[b]?
  sdom : ∀ b o, e.S b o → b < e.w.heap.size
  s0 : ∀ b o, Γ.S0 b o → ¬ Γ.M b → e.S b o
  s0B : ∀ b o, Γ.S0 b o → b < Γ.B
  box : ∀ n row, h.H n = some row → NilArr e n row ∨ ∃ b cs ty, e.ρ n = some b ∧ e.w.heap[b]? = some (.cells cs ty (0, 0)) ∧ RB e n row cs.toList ∧ (∀ o, o < cs.size → e.S b o) ∧ (Γ.B ≤ b ∨ Γ.M b)
  inj : ∀ n m b, h.H n ≠ none → h.H m ≠ none → e.ρ n = some b → e.ρ m = some b → n = m
  tok : ∀ k ty, h.T k = some ty → k ≠ 0 ∧ ∃ v, e.τ k = some v ∧ (FullS v ∨ ∃ sz n xs, (0 < sz ∧ sz = tSize Γ.P ty) ∧ e.w.ownsRow Γ.B ty sz v n xs ∧ (∀ b o, v.ownBlock = some b → n * sz ≤ o → (e.w.cell? ⟨b, o, none⟩).isSome → e.S b o) ∧
    (∀ b, v.ownBlock = some b → ∀ m, h.H m ≠ none → e.ρ m ≠ some b))
  tokinj : ∀ k m v u b, h.T k ≠ none → h.T m ≠ none → e.τ k = some v → e.τ m = some u → v.ownBlock = some b → u.ownBlock = some b → ¬ FullS v → ¬ FullS u → k = m
  fresh : ∀ n, h.nx ≤ n → h.H n = none ∧ h.T n = none ∧ e.ρ n = none ∧ e.τ n = none
  nx0 : 0 < h.nx
  rt : ∀ b, Γ.root = some b → e.ρ 1 = some b

theorem WInv.boxAt {Γ : Ctx} {h : Hp} {e : Env} (hw : WInv Γ h e) {b : Nat} {n : Nat} (hρ : e.ρ n = some b) (row : List C) (hn : h.H n = some row) :
    ∃ b cs ty, e.ρ n = some b ∧ e.w.heap[b]? = some (.cells cs ty (0, 0)) ∧ RB e n row cs.toList ∧ (∀ o, o < cs.size → e.S b o) ∧ (Γ.B ≤ b ∨ Γ.M b) := by
  rcases hw.box n row hn with hz | hb
  · rw [hz.1] at hρ; cases hρ
  · exact hb
theorem rowP_of_isD : ∀ {row : List C}, row.all C.isD = true → rowP row = true
  | [], _ => rfl
  | c :: _, h => by
    simp only [List.all_cons, Bool.and_eq_true] at h
    cases c <;> simp_all [rowP, C.isArr, C.isD]

def constA : Value → AV
  | .slice none 0 0 => .c (.sl 0 [] 0)
  | v => .c (.d (.v v))

def evA (σ : Nat → AV) : Operand → AV
  | .tmp t => σ t
  | .const v => constA v
  | .global g => .c (.d (.v (.pointer (some ⟨g, 0, none⟩))))
  | .func f => .c (.d (.v (.func (.func f) #[] #[])))

def SlotsOk (nt : Nat) (σ : Nat → AV) (a : Act) (e : Env) : Prop := a.tmps.size = nt ∧ a.defers = [] ∧ ∀ i, i < nt → RA e (σ i) (a.tmps.getD i undef)

def upd {α : Type} (σ : Nat → α) (d : Nat) (x : α) : Nat → α := fun i => if i = d then x else σ i
@[simp] theorem upd_same {α : Type} (σ : Nat → α) (d : Nat) (x : α) : upd σ d x d = x := by simp [upd]
theorem upd_ne {α : Type} (σ : Nat → α) (d i : Nat) (x : α) (h : i ≠ d) : upd σ d x i = σ i := by simp [upd, h]

def putA (σ : Nat → AV) : Option Tmp → AV → (Nat → AV)
  | some d, x => upd σ d x
  | none, _ => σ

theorem SlotsOk.mono {nt : Nat} {σ : Nat → AV} {a : Act} {e e' : Env} (h : SlotsOk nt σ a e) (hl : e.le e') : SlotsOk nt σ a e' :=
  ⟨h.1, h.2.1, fun i hi => RA.mono hl (h.2.2 i hi)⟩

theorem SlotsOk.put {nt : Nat} {σ : Nat → AV} {a : Act} {e : Env} (h : SlotsOk nt σ a e) (dst : Option Tmp) {x : AV} {v : Value} (hv : RA e x v) :
    SlotsOk nt (putA σ dst x) (a.put dst v) e := by
  cases dst with
  | none => exact h
  | some d =>
    refine ⟨by simpa [Act.put] using h.1, h.2.1, fun i hi => ?_⟩
    have := h.2.2 i hi
    have hs := h.1
    simp only [Act.put, putA, upd]
    by_cases hid : i = d
    · subst hid; simpa [Array.getD_eq_getD_getElem?, hs, hi] using hv
    · simp only [hid, if_false]
      simpa [Array.getD_eq_getD_getElem?, Array.getElem?_setIfInBounds, Ne.symm hid] using this

theorem RA_eval {nt : Nat} {σ : Nat → AV} {a : Act} {e : Env} (h : SlotsOk nt σ a e) (x : Operand) (hx : ∀ t, x = .tmp t → t < nt) : RA e (evA σ x) (a.eval x) := by
  cases x with
  | tmp t => exact h.2.2 t (hx t rfl)
  | const v =>
    simp only [evA, Act.eval, constA]
    split
    · exact ⟨.slnil 0 _, .inl ⟨_, _, rfl⟩⟩
    · exact .v _
  | global g => exact .v _
  | func f => exact .v _

/-- Whether the operands stand for what the machine says. -/
def OpndOk (o : Oper) (σ : Nat → AV) (a : Act) (e : Env) : Prop := ∀ x, x ∈ o.op.operands → RA e (evA σ x) (a.eval x)

/-- An operation has a value, and makes of one heap another one. -/
def VR (Γ : Ctx) (o : Oper) (σ : Nat → AV) (h : Hp) (av : AV) (h' : Hp) : Prop :=
  ∀ a e, OpndOk o σ a e → WInv Γ h e → ∀ (K : Act → World → Prop) (Q : Exit → Act → World → Prop),
    (∀ v e', WInv Γ h' e' → e.le e' → RA e' av v → K (a.put o.dst v) e'.w) → o.wp Γ.P a e.w K Q

end Go.Proofs.Ytgkacglpjmndbaa
