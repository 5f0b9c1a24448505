/- Regions: in the text's order, and in whatever order. -/
import Derived.Test.YtgkacglpjmndbaaMj
namespace Go.Proofs.Ytgkacglpjmndbaa
open Go.RowKit

structure Tab where
  P : Program
  Φ : Nat → Option PF
  Ψ : Nat → Option MF
  /-- Whether box 1 is the caller's, and keeps its name. -/
  rt : Bool

structure TabOk (t : Tab) : Prop where
  pf : ∀ f pf, t.Φ f = some pf → Callable t.P f ∧ PureOk t.P f pf
  mf : ∀ f mf, t.Ψ f = some mf → Callable t.P f ∧ MethOk t.P f mf

/-- The slot on which a guard hangs. -/
def guardSlot (ops : Array Oper) (j : Nat) : Option Tmp := (ops[j]?).bind (·.dst)

/-- Whether an operation is carried out: it splits where that is not known. -/
def aGuard (ops : Array Oper) (σ : Nat → AV) (g : Option (Nat × Bool)) (run skip : Prop) : Prop :=
  match g with
  | none => run
  | some (j, want) => match guardSlot ops j with
    | none => False
    | some d => match σ d with
      | .c (.d (.v (.bool p))) => (p = want → run) ∧ (p = !want → skip)
      | .c (.d (.v (.tuple _))) => skip
      | _ => False

def undefA : AV := .c (.d (.v undef))

def aOp (t : Tab) (ops : Array Oper) (o : Oper) (K : (Nat → AV) → Hp → Prop) (σ : Nat → AV) (h : Hp) : Prop :=
  aGuard ops σ o.guard ((aop t.P t.Φ t.Ψ o.op σ h).pre ∧ K (putA σ o.dst (aop t.P t.Φ t.Ψ o.op σ h).val) (aop t.P t.Φ t.Ψ o.op σ h).h) (K (putA σ o.dst undefA) h)

def aOps (t : Tab) (ops : Array Oper) (K : (Nat → AV) → Hp → Prop) : List Oper → (Nat → AV) → Hp → Prop
  | [], σ, h => K σ h
  | o :: l, σ, h => aOp t ops o (aOps t ops K l) σ h

/-- All that an operation reads lies in the frame. -/
def opIn (nt : Nat) (ops : Array Oper) (o : Oper) : Bool :=
  (o.op.operands.toList.all fun | .tmp t => decide (t < nt) | _ => true) && (match o.guard with | none => true | some (j, _) => match guardSlot ops j with | some d => decide (d < nt) | none => false)

theorem opIn_opnd {nt : Nat} {ops : Array Oper} {o : Oper} {σ : Nat → AV} {a : Act} {e : Env} (h : opIn nt ops o = true) (hs : SlotsOk nt σ a e) : OpndOk o σ a e := by
  intro x hx
  refine RA_eval hs x fun t ht => ?_
  subst ht
  simp only [opIn, Bool.and_eq_true, List.all_eq_true] at h
  have := h.1 (.tmp t) (by simpa using hx)
  simpa using this

theorem aGuard_mono {ops : Array Oper} {σ : Nat → AV} {g : Option (Nat × Bool)} {r r' s s' : Prop} (hr : r → r') (hs : s → s') (h : aGuard ops σ g r s) : aGuard ops σ g r' s' := by
  unfold aGuard at *
  split at h
  · exact hr h
  · split at h
    · exact h
    · split at h
      · exact ⟨fun x => hr (h.1 x), fun x => hs (h.2 x)⟩
      · exact hs h
      · exact h

theorem aOp_mono {t : Tab} {ops : Array Oper} {o : Oper} {K K' : (Nat → AV) → Hp → Prop} (hk : ∀ σ h, K σ h → K' σ h) {σ : Nat → AV} {h : Hp} (hh : aOp t ops o K σ h) : aOp t ops o K' σ h :=
  aGuard_mono (fun x => ⟨x.1, hk _ _ x.2⟩) (hk _ _) hh

theorem aOps_mono {t : Tab} {ops : Array Oper} {K K' : (Nat → AV) → Hp → Prop} (hk : ∀ σ h, K σ h → K' σ h) : ∀ {l : List Oper} {σ : Nat → AV} {h : Hp}, aOps t ops K l σ h → aOps t ops K' l σ h
  | [], _, _, hh => hk _ _ hh
  | _ :: _, _, _, hh => aOp_mono (fun _ _ x => aOps_mono hk x) hh

/-- What a guard says of a frame. -/
theorem aGuard_sound {Γ : Ctx} {ops : Array Oper} {σ : Nat → AV} {o : Oper} {r s : Prop} {a : Act} {e : Env} (hin : opIn Γ.nt ops o = true) (hs : SlotsOk Γ.nt σ a e) (h : aGuard ops σ o.guard r s) :
    (Region.wanted o (yielded ops a.tmps) = true ∧ r) ∨ (Region.wanted o (yielded ops a.tmps) = false ∧ s) := by
  unfold aGuard at h
  split at h
  · rename_i hg; exact .inl ⟨by simp [Region.wanted, hg], h⟩
  · rename_i j want hg
    simp only [opIn, hg, Bool.and_eq_true] at hin
    split at h
    · exact h.elim
    · rename_i d hd
      rw [hd] at hin
      have hdlt : d < Γ.nt := by simpa using hin.2
      have hrep := hs.2.2 d hdlt
      have hget : a.tmps[d]? = some (a.tmps.getD d undef) := by
        have : d < a.tmps.size := by rw [hs.1]; exact hdlt
        simp [this]
      have hy : yielded ops a.tmps j = match a.tmps.getD d undef with | .bool b => some b | _ => none := by
        have hd' : (ops[j]?).bind (·.dst) = some d := hd
        unfold yielded
        rw [hd', Option.bind_some, hget]
        cases a.tmps.getD d undef <;> rfl
      split at h
      · rename_i p hp
        rw [hp] at hrep
        have hrep : a.tmps.getD d undef = .bool p := R1.vInv hrep
        rw [hrep] at hy
        simp only at hy
        by_cases hpw : p = want
        · exact .inl ⟨by simp [Region.wanted, hg, hy, hpw], h.1 hpw⟩
        · exact .inr ⟨by simp [Region.wanted, hg, hy, hpw], h.2 (by cases p <;> cases want <;> simp_all)⟩
      · rename_i vs hp
        rw [hp] at hrep
        have hrep : a.tmps.getD d undef = .tuple vs := R1.vInv hrep
        rw [hrep] at hy
        simp only at hy
        exact .inr ⟨by simp [Region.wanted, hg, hy], h⟩
      · exact h.elim

theorem RA.undef (e : Env) : RA e undefA Go.undef := .v _

theorem aOps_sound {Γ : Ctx} {t : Tab} (ht : TabOk t) (hP : t.P = Γ.P) {ops : Array Oper} {K : (Nat → AV) → Hp → Prop} {Q : Exit → Act → World → Prop}
    (hQ : ∀ σ h a e, K σ h → SlotsOk Γ.nt σ a e → WInv Γ h e → Q .normal a e.w) : ∀ (l : List Oper), (l.all (opIn Γ.nt ops)) = true → ∀ (σ : Nat → AV) (h : Hp) (a : Act) (e : Env),
      aOps t ops K l σ h → SlotsOk Γ.nt σ a e → WInv Γ h e → wpList Γ.P ops Q l a e.w
  | [], _, σ, h, a, e, hh, hs, hw => hQ σ h a e hh hs hw
  | o :: l, hin, σ, h, a, e, hh, hs, hw => by
    simp only [List.all_cons, Bool.and_eq_true] at hin
    have ih := aOps_sound ht hP hQ l hin.2
    unfold wpList
    rcases aGuard_sound hin.1 hs hh with ⟨hwant, hpre, hK⟩ | ⟨hwant, hK⟩
    · rw [if_pos hwant]
      refine .inl ?_
      have hvr : VR Γ o σ h (aop t.P t.Φ t.Ψ o.op σ h).val (aop t.P t.Φ t.Ψ o.op σ h).h := by
        have := aop_vr (Γ := Γ) (Φ := t.Φ) (Ψ := t.Ψ) (σ := σ) (h := h) (by rw [← hP]; exact ht.pf) (by rw [← hP]; exact ht.mf) o (by rw [← hP]; exact hpre)
        rw [← hP] at this
        exact this
      refine hvr a e (opIn_opnd hin.1 hs) hw _ _ fun v e' hw' hle hv => ?_
      exact ih _ _ _ _ hK ((hs.mono hle).put o.dst hv) hw'
    · rw [if_neg (by rw [hwant]; simp)]
      exact ih _ _ _ _ hK (hs.put o.dst (RA.undef e)) hw

/-! ### Whatever order -/
/-- An append's class: what may be an array is turned as an own box is. -/
def clsA (l : List TypeId) : Nat := if arrTy (l.headD 0) = true then 2 else 3
theorem clsA_cases (l : List TypeId) : clsA l = 2 ∨ clsA l = 3 := by unfold clsA; split <;> simp
theorem clsA_3 {t : TypeId} {l : List TypeId} (h : clsA (t :: l) = 3) : arrTy t = false := by
  unfold clsA at h
  split at h
  · cases h
  · rename_i h'; simpa using h'
/-- 0: it only reckons; 1: it looks into own boxes; 2: it turns own boxes; 3: it turns tokens; 4: it makes an own box. -/
def cls (pure : Nat → Bool) : Op → Nat
  | .alloc _ | .box _ _ => 4
  | .store _ _ _ => 2
  | .load _ _ => 1
  | .call c => match c.callee with
    | .builtin .append => clsA c.argTypes.toList
    | .builtin _ => 0
    | .value (.func n) => if pure n then 0 else 2
    | _ => 2
  | _ => 0

/-- The first one stands first in the text. -/
def compat (i j : Nat) : Bool := i == 0 || j == 0 || (i == 1 && (j == 1 || j == 3 || j == 4)) || (i == 3 && j == 1)

theorem aCallB_cls0 {P : Program} {b : Builtin} (hb : b ≠ .append) (args : List Operand) (ts : List TypeId) (σ : Nat → AV) (h h' : Hp) :
    (aCallB P σ h b args ts).pre = (aCallB P σ h' b args ts).pre ∧ (aCallB P σ h b args ts).val = (aCallB P σ h' b args ts).val ∧ (aCallB P σ h b args ts).h = h := by
  unfold aCallB
  split
  · simp only [aLen]; refine ⟨?_, ?_, ?_⟩ <;> (split <;> rfl)
  · exact absurd rfl hb
  · simp only [aMinMax]; refine ⟨?_, ?_, ?_⟩ <;> (split <;> rfl)
  · simp only [aMinMax]; refine ⟨?_, ?_, ?_⟩ <;> (split <;> rfl)
  · exact ⟨rfl, rfl, rfl⟩

theorem aop_cls0 {P : Program} {Φ : Nat → Option PF} {Ψ : Nat → Option MF} {pure : Nat → Bool} (hpure : ∀ n, pure n = true → (Φ n).isSome) {op : Op} (h0 : cls pure op = 0) (σ : Nat → AV) (h h' : Hp) :
    (aop P Φ Ψ op σ h).pre = (aop P Φ Ψ op σ h').pre ∧ (aop P Φ Ψ op σ h).val = (aop P Φ Ψ op σ h').val ∧ (aop P Φ Ψ op σ h).h = h := by
  cases op
  case call c =>
    obtain ⟨callee, args, ts⟩ := c
    cases callee with
    | invoke _ _ => simp [cls] at h0
    | value f =>
      cases f <;> simp [cls] at h0
      rename_i n
      simp only [aop, aCall, evA]
      obtain ⟨pf, hpf⟩ := Option.isSome_iff_exists.1 (hpure n h0)
      simp [hpf]
    | builtin b =>
      refine aCallB_cls0 (fun hb => ?_) _ _ _ _ _
      subst hb
      have := clsA_cases ts.toList
      simp only [cls] at h0
      omega
  case slice t x lo hi mx =>
    cases mx with
    | some _ => exact ⟨rfl, rfl, rfl⟩
    | none =>
      simp only [aop, aSlice]
      refine ⟨?_, ?_, ?_⟩ <;> (split <;> first | (split <;> first | rfl | (split <;> rfl)) | rfl)
  case load => simp [cls] at h0
  case store => simp [cls] at h0
  case alloc => simp [cls] at h0
  case box => simp [cls] at h0
  case pick => simp only [aop, aPick]; refine ⟨?_, ?_, ?_⟩ <;> (split <;> rfl)
  case binOp => simp only [aop, aBin]; refine ⟨?_, ?_, ?_⟩ <;> (split <;> first | rfl | (unfold aBinAg; split <;> rfl))
  case unOp => simp only [aop, aUn]; refine ⟨?_, ?_, ?_⟩ <;> (split <;> rfl)
  case nilCheck => simp only [aop, aNilCheck]; refine ⟨?_, ?_, ?_⟩ <;> (split <;> rfl)
  case fieldAddr => simp only [aop, aFieldAddr]; refine ⟨?_, ?_, ?_⟩ <;> (split <;> rfl)
  case field => simp only [aop, aField]; refine ⟨?_, ?_, ?_⟩ <;> (split <;> rfl)
  case indexAddr => simp only [aop, aIndexAddr]; refine ⟨?_, ?_, ?_⟩ <;> (split <;> first | rfl | (split <;> rfl))
  case index => simp only [aop, aIndex]; refine ⟨?_, ?_, ?_⟩ <;> (split <;> rfl)
  case extract => simp only [aop, aExtract]; refine ⟨?_, ?_, ?_⟩ <;> (split <;> rfl)
  case convert =>
    simp only [aop, aConvert]
    refine ⟨?_, ?_, ?_⟩ <;> (split <;> first | (split <;> rfl) | rfl)
  all_goals exact ⟨rfl, rfl, rfl⟩

theorem cls1_load {pure : Nat → Bool} {op : Op} (h1 : cls pure op = 1) : ∃ t x, op = .load t x := by
  cases op <;> simp only [cls] at h1 <;> first | (exact absurd h1 (by decide)) | skip
  case load t x => exact ⟨t, x, rfl⟩
  case call c =>
    obtain ⟨callee, args, ts⟩ := c
    cases callee with
    | invoke _ _ => simp at h1
    | value f => cases f <;> simp at h1; split at h1 <;> simp at h1
    | builtin b => cases b <;> simp at h1; (have := clsA_cases ts.toList; omega)

theorem aop_cls1 {P : Program} {Φ : Nat → Option PF} {Ψ : Nat → Option MF} {pure : Nat → Bool} {op : Op} (h1 : cls pure op = 1) (σ : Nat → AV) (h : Hp) : (aop P Φ Ψ op σ h).h = h := by
  obtain ⟨t, x, rfl⟩ := cls1_load h1
  simp only [aop, aLoad]
  split
  · split <;> rfl
  · rfl
  · unfold aLoadArr; split <;> rfl
  · rfl

/-- What is read stays what it was where own boxes stay as they were. -/
theorem aop_load {P : Program} {Φ : Nat → Option PF} {Ψ : Nat → Option MF} {pure : Nat → Bool} {op : Op} (h1 : cls pure op = 1) (σ : Nat → AV) (h h' : Hp) (hh : ∀ n row, h.H n = some row → h'.H n = some row)
    (hp : (aop P Φ Ψ op σ h).pre) : (aop P Φ Ψ op σ h').pre ∧ (aop P Φ Ψ op σ h').val = (aop P Φ Ψ op σ h).val := by
  obtain ⟨t, x, rfl⟩ := cls1_load h1
  simp only [aop, aLoad] at hp ⊢
  split at hp
  · split at hp
    · rename_i row hrow
      rw [hh _ _ hrow]
      exact ⟨hp, rfl⟩
    · exact hp.elim
  · exact ⟨hp, rfl⟩
  · unfold aLoadArr at hp ⊢
    split at hp
    · rename_i hrow
      rw [hh _ _ hrow]
      exact ⟨hp, rfl⟩
    · rename_i hrow
      rw [hh _ _ hrow]
      exact ⟨hp, rfl⟩
    · exact hp.elim
  · exact hp.elim

theorem aop_cls3 {P : Program} {Φ : Nat → Option PF} {Ψ : Nat → Option MF} {pure : Nat → Bool} {op : Op} (h3 : cls pure op = 3) (σ : Nat → AV) (h : Hp) : (aop P Φ Ψ op σ h).h.H = h.H := by
  cases op <;> simp only [cls] at h3 <;> first | (exact absurd h3 (by decide)) | skip
  case call c =>
    obtain ⟨callee, args, ts⟩ := c
    cases callee with
    | invoke _ _ => simp at h3
    | value f => cases f <;> simp at h3; split at h3 <;> simp at h3
    | builtin b =>
      cases b <;> simp at h3
      simp only [aop, aCallB]
      split
      · rename_i hb _ _; cases hb
      · rename_i hargs hts
        rw [hts] at h3
        have h3 := clsA_3 h3
        split
        · simp only [aAppend, h3, Bool.false_eq_true, if_false]
          split <;> first | rfl | (split <;> rfl)
        · rfl
      · rename_i hb _; cases hb
      · rename_i hb _; cases hb
      · rfl

theorem aop_cls4 {P : Program} {Φ : Nat → Option PF} {Ψ : Nat → Option MF} {pure : Nat → Bool} {op : Op} (h4 : cls pure op = 4) (σ : Nat → AV) (h : Hp) : ∃ row, (aop P Φ Ψ op σ h).h = h.box row := by
  cases op <;> simp only [cls] at h4 <;> first | (exact absurd h4 (by decide)) | skip
  case alloc t => exact ⟨_, rfl⟩
  case box t x => exact ⟨_, rfl⟩
  case call c =>
    obtain ⟨callee, args, ts⟩ := c
    cases callee with
    | invoke _ _ => simp at h4
    | value f => cases f <;> simp at h4; split at h4 <;> simp at h4
    | builtin b => cases b <;> simp at h4; (have := clsA_cases ts.toList; omega)

/-- No own box has a name that is still to come. -/
def Hp.Fr (h : Hp) : Prop := ∀ n, h.nx ≤ n → h.H n = none

theorem Fr.setOld {h : Hp} (hf : h.Fr) {n : Nat} {row row' : List C} (hn : h.H n = some row) : Hp.Fr { h with H := upd h.H n (some row') } := by
  intro m hm
  have := hf m hm
  have hne : m ≠ n := fun he => by rw [he, hn] at this; cases this
  simp [upd, hne, this]
theorem Fr.box {h : Hp} (hf : h.Fr) (row : List C) : (h.box row).Fr := by
  intro m hm
  have hm' : h.nx + 1 ≤ m := hm
  have hne : m ≠ h.nx := by omega
  simp [Hp.box, upd, hne, hf m (by omega)]

theorem aop_fresh {P : Program} {Φ : Nat → Option PF} {Ψ : Nat → Option MF} {op : Op} {σ : Nat → AV} {h : Hp} (hf : h.Fr) : (aop P Φ Ψ op σ h).h.Fr := by
  by_cases h0 : cls (fun _ => false) op = 0
  · rw [(aop_cls0 (P := P) (Φ := Φ) (Ψ := Ψ) (pure := fun _ => false) (fun n hn => by cases hn) h0 σ h h).2.2]; exact hf
  cases op
  case load t x => rw [aop_cls1 (pure := fun _ => false) rfl]; exact hf
  case alloc t => exact Fr.box hf _
  case box t x => exact Fr.box hf _
  case store t x y =>
    simp only [aop, aStore]
    split
    · split
      · rename_i hrow; exact Fr.setOld hf hrow
      · exact hf
    · unfold aStoreArr
      split
      · rename_i hrow; exact Fr.setOld hf hrow
      · rename_i hrow; exact Fr.setOld hf hrow
      · exact hf
    · exact hf
  case call c =>
    obtain ⟨callee, args, ts⟩ := c
    cases callee with
    | invoke _ _ => exact hf
    | value f =>
      simp only [aop, aCall]
      split
      · split
        · exact hf
        · split
          · split
            · split
              · rename_i hrow; exact Fr.setOld hf hrow
              · exact hf
            · exact hf
          · exact hf
      · exact hf
    | builtin b =>
      simp only [aop, aCallB]
      split
      · simp only [aLen]; split <;> exact hf
      · split
        · have arr : ∀ t n sz len szy ys op, (aAppArr P h t n sz len szy ys op (h.H n)).h.Fr := fun t n sz len szy ys op => by
            unfold aAppArr
            split
            · intro m hm
              have hm' : h.nx + 1 ≤ m := hm
              have := hf m (by omega)
              have hne : m ≠ h.nx := by omega
              show upd (upd h.H n none) h.nx _ m = none
              rw [upd_ne _ _ _ _ hne]
              by_cases hmn : m = n
              · subst hmn; exact upd_same _ _ _
              · rw [upd_ne _ _ _ _ hmn]; exact this
            · exact hf
          simp only [aAppend]
          split
          · intro m hm
            have hm' : h.nx + 1 ≤ m := hm
            exact hf m (by omega)
          · split
            · exact arr _ _ _ _ _ _ _
            · exact hf
          · split
            · split
              · exact arr _ _ _ _ _ _ _
              · exact hf
            · exact hf
          · exact hf
        · exact hf
      · simp only [aMinMax]; split <;> exact hf
      · simp only [aMinMax]; split <;> exact hf
      · exact hf
  all_goals exact absurd rfl h0

end Go.Proofs.Ytgkacglpjmndbaa
