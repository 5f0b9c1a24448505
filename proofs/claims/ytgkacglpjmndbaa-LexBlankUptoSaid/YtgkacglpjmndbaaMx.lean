/- Methods: functions of data on an own box. -/
import Derived.Test.YtgkacglpjmndbaaMo
namespace Go.Proofs.Ytgkacglpjmndbaa
open Go.RowKit

/-- The caller's box, as it is handed over: what is a slice is known to the bit. -/
def exC (v : Value) : D → C
  | .sl sz l => .ex v (.sl sz l)
  | d => .d d
def exRow : List Value → List D → List C
  | v :: vs, d :: ds => exC v d :: exRow vs ds
  | _, _ => []
theorem exRow_rep {e : Env} : ∀ {ds : List D} {vs : List Value}, Rn e.w e.S ds vs → RCs e (exRow vs ds) vs
  | [], _, h => by cases h; trivial
  | d :: ds, _, h => by
    cases h with
    | acons _ v _ vs h1 h2 =>
      refine ⟨?_, exRow_rep h2⟩
      unfold exC
      split
      · exact ⟨rfl, h1⟩
      · exact h1

/-- What a cell is to the bit. -/
def exact1 : C → Bool
  | .d (.v _) => true
  | .ex _ _ => true
  | _ => false
/-- The box as it is handed back: what is new, and what is as it was. -/
def RowRet : Nat → List (Nat × D) → List C → List C → Prop
  | i, us, c0 :: l0, c :: l => (match us.lookup i with | some d => c.isD = true ∧ le0 c.toD d | none => c = c0 ∧ exact1 c0 = true) ∧ RowRet (i + 1) us l0 l
  | _, _, [], [] => True
  | _, _, _, _ => False

theorem RowRet.plain {us : List (Nat × D)} : ∀ {i : Nat} {l0 l : List C}, RowRet i us l0 l → rowP l = true
  | _, [], [], _ => rfl
  | i, c0 :: l0, c :: l, ⟨h1, _⟩ => by
    cases hu : us.lookup i with
    | some d => rw [hu] at h1; cases c <;> simp_all [rowP, C.isArr, C.isD]
    | none =>
      rw [hu] at h1
      obtain ⟨rfl, h2⟩ := h1
      cases c <;> first | rfl | cases h2

theorem exact_eq {e e' : Env} {c : C} {v v' : Value} (hx : exact1 c = true) (h : RC e c v) (h' : RC e' c v') : v' = v := by
  unfold exact1 at hx
  split at hx
  · rw [R1.vInv h, R1.vInv h']
  · rw [h.1, h'.1]
  · cases hx

theorem RowRet.at {us : List (Nat × D)} {e e' : Env} : ∀ {i : Nat} {l0 l : List C} {vs vs' : List Value}, RowRet i us l0 l → RCs e l0 vs → RCs e' l vs' →
    vs'.length = vs.length ∧ ∀ j : Nat, j < vs.length → (match us.lookup (i + j) with | some d => ∃ x, vs'[j]? = some x ∧ R1 e'.w e'.S d x | none => vs'[j]? = vs[j]?)
  | i, [], [], [], [], _, _, _ => ⟨rfl, fun j hj => by simp at hj⟩
  | i, c0 :: l0, c :: l, v :: vs, v' :: vs', ⟨h1, h2⟩, ⟨k1, k2⟩, ⟨m1, m2⟩ => by
    obtain ⟨ih1, ih2⟩ := RowRet.at h2 k2 m2
    refine ⟨by simp [ih1], fun j hj => ?_⟩
    cases j with
    | zero =>
      cases hu : us.lookup i with
      | some d =>
        rw [hu] at h1
        simp only [Nat.add_zero, hu]
        exact ⟨v', rfl, le0_R1 h1.2 (RC.toD h1.1 m1)⟩
      | none =>
        rw [hu] at h1
        simp only [Nat.add_zero, hu]
        obtain ⟨rfl, h3⟩ := h1
        simp [exact_eq h3 k1 m1]
    | succ j =>
      have := ih2 j (by simpa using hj)
      rw [show i + 1 + j = i + (j + 1) by omega] at this
      simpa using this
  | _, [], _ :: _, _, _, h, _, _ => h.elim
  | _, _ :: _, [], _, _, h, _, _ => h.elim
  | _, [], [], _ :: _, _, _, h, _ => h.elim
  | _, [], [], [], _ :: _, _, _, h => h.elim
  | _, _ :: _, _ :: _, [], _, _, h, _ => h.elim
  | _, _ :: _, _ :: _, _ :: _, [], _, _, h => h.elim

theorem cellsUpd_of {w : World} {S : Nat → Nat → Prop} : ∀ (us : List (Nat × D)) (cs cs' : List Value), cs'.length = cs.length → (∀ p ∈ us, p.1 < cs.length ∧ ∃ x, cs'[p.1]? = some x ∧ R1 w S p.2 x) →
    (∀ j : Nat, j < cs.length → j ∉ us.map Prod.fst → cs'[j]? = cs[j]?) → CellsUpd w S us cs cs'
  | [], cs, cs', hl, _, h2 => by
    apply List.ext_getElem?
    intro j
    by_cases hj : j < cs.length
    · exact h2 j hj (by simp)
    · rw [List.getElem?_eq_none (by omega), List.getElem?_eq_none (by omega)]
  | (o, d) :: us, cs, cs', hl, h1, h2 => by
    obtain ⟨ho, x, hx, hr⟩ := h1 (o, d) (by simp)
    refine ⟨x, hr, ho, cellsUpd_of us _ cs' (by simp [hl]) (fun p hp => ?_) (fun j hj hn => ?_)⟩
    · have := h1 p (by simp [hp])
      exact ⟨by simpa using this.1, this.2⟩
    · simp at hj
      by_cases hjo : j = o
      · subst hjo; rw [hx]; simp [hj]
      · rw [List.getElem?_set_ne (Ne.symm hjo)]
        exact h2 j hj (by
          simp only [List.map_cons, List.mem_cons, not_or]
          exact ⟨hjo, hn⟩)

/-- The way out of a method. -/
def QRetM (P : Program) (fn : Func) (d : D) (row0 : List C) (us : List (Nat × D)) : APost := fun ex σ h =>
  match ex with
  | .ret => aRet P fn.results.toList σ h d ∧ (match h.H 1 with | some row => RowRet 0 us row0 row | none => False)
  | .normal => aRet P fn.results.toList σ h d ∧ (match h.H 1 with | some row => RowRet 0 us row0 row | none => False)
  | _ => False

def usIn (n : Nat) (us : List (Nat × D)) : Prop := ∀ p ∈ us, p.1 < n ∧ us.lookup p.1 = some p.2

theorem meth_of_aC {t : Tab} {pure : Nat → Bool} (ht : TabOk t) (hm : t.P.follows .mixedOrders = true) (hpure : ∀ n, pure n = true → (t.Φ n).isSome) (hrt : t.rt = true) {f : Nat} {fn : Func} {c : Code} (hf : t.P.funcs[f]? = some fn) (hb : fn.body = some c)
    (hcode : (codeOk pure fn.ntmps c && fn.results.toList.all (resIn fn.ntmps)) = true) (mf : MF)
    (h : ∀ row args, mf.pre row args → args.length + 1 ≤ fn.ntmps ∧ usIn row.length (mf.upd row args) ∧ ∀ xs : List Value, xs.length = row.length →
      aC t c (sig0 (.c (.pt 1 0) :: args.map fun d => .c (.d d))) (hpL [exRow xs row] []) (QRetM t.P fn (mf.val row args) (exRow xs row) (mf.upd row args))) : MethOk t.P f mf := by
  simp only [Bool.and_eq_true] at hcode
  intro w S b cs ty row args vs hblk hSc hrow hargs hS hp
  obtain ⟨hn, hus, hC⟩ := h row args hp
  have hlen := hargs.length
  have hrl := hrow.length
  have hC := hC cs.toList hrl
  refine calls_of_wp hf hb ?_
  let Γ : Ctx := ⟨t.P, w, w.heap.size, S, fun b' => b' = b, fn.ntmps, some b⟩
  let e : Env := ⟨w, S, fun n => if n = 1 then some b else none, fun _ => none⟩
  have hx : RCs e (exRow cs.toList row) cs.toList := exRow_rep hrow
  have h1 : ∀ n r, (hpL [exRow cs.toList row] []).H n = some r → n = 1 ∧ r = exRow cs.toList row := fun n r hr => by
    simp only [hpL, hpH] at hr
    split at hr
    · cases hr
    · rename_i hn0
      have hlt := (List.getElem?_eq_some_iff.1 hr).1
      simp at hlt
      have : n = 1 := by omega
      subst this
      simp at hr
      exact ⟨rfl, hr.symm⟩
  have h2 : ∀ k, (hpL [exRow cs.toList row] []).T k = none := fun k => by
    simp only [hpL, hpT]
    split <;> simp
  have hw : WInv Γ (hpL [exRow cs.toList row] []) e := by
    constructor
    · rfl
    · rfl
    · rfl
    · exact Nat.le_refl _
    · exact Nat.le_refl _
    · intro b' _ _; rfl
    · exact hS
    · intro b' o h _; exact h
    · exact hS
    · intro n r hr
      obtain ⟨rfl, rfl⟩ := h1 n r hr
      exact .inr ⟨b, cs, ty, rfl, hblk, .of hx, fun o ho => hSc o ho, .inr rfl⟩
    · intro n m b' hn hm _ _
      obtain ⟨r, hr⟩ := Option.ne_none_iff_exists'.1 hn
      obtain ⟨r', hr'⟩ := Option.ne_none_iff_exists'.1 hm
      rw [(h1 n r hr).1, (h1 m r' hr').1]
    · intro k ty hk; rw [h2] at hk; cases hk
    · intro k m v u b' hk; rw [h2] at hk; exact absurd rfl hk
    · intro n hn
      have hn : 2 ≤ n := by simpa [hpL] using hn
      refine ⟨?_, h2 n, ?_, rfl⟩
      · simp only [hpL, hpH]
        rw [if_neg (by omega)]
        exact List.getElem?_eq_none (by simp; omega)
      · show (if n = 1 then some b else none) = none
        rw [if_neg (by omega)]
    · simp [hpL]
    · intro b' hb'
      have : b = b' := by simpa [Γ] using hb'
      subst this
      rfl
  have hs : SlotsOk Γ.nt (sig0 (.c (.pt 1 0) :: args.map fun d => .c (.d d))) { tmps := (⟨.pointer (some ⟨b, 0, none⟩) :: vs⟩ : Array Value) ++ Array.replicate (fn.ntmps - (⟨.pointer (some ⟨b, 0, none⟩) :: vs⟩ : Array Value).size) undef, defers := [] } e := by
    refine ⟨by simp [hlen, Γ]; omega, rfl, fun i hi => ?_⟩
    cases i with
    | zero =>
      have e1 : sig0 (AV.c (.pt 1 0) :: args.map fun d => AV.c (.d d)) 0 = .c (.pt 1 0) := by simp [sig0]
      rw [e1]
      refine ⟨b, rfl, ?_⟩
      simp only [Array.getD_eq_getD_getElem?]
      rw [Array.getElem?_append_left (by simp)]
      rfl
    | succ i =>
      rcases Nat.lt_or_ge i args.length with hlt | hge
      · obtain ⟨v, g1, g2⟩ := hargs.get i args[i] (List.getElem?_eq_getElem hlt)
        have e1 : sig0 (AV.c (.pt 1 0) :: args.map fun d => AV.c (.d d)) (i + 1) = .c (.d args[i]) := by simp [sig0, hlt]
        have e2 : ((⟨.pointer (some ⟨b, 0, none⟩) :: vs⟩ : Array Value) ++ Array.replicate (fn.ntmps - (⟨.pointer (some ⟨b, 0, none⟩) :: vs⟩ : Array Value).size) undef).getD (i + 1) undef = v := by
          simp only [Array.getD_eq_getD_getElem?]
          rw [Array.getElem?_append_left (by simp; omega)]
          simp [g1]
        rw [e1, e2]
        exact g2
      · have e1 : sig0 (AV.c (.pt 1 0) :: args.map fun d => AV.c (.d d)) (i + 1) = undefA := by simp [sig0, hge]
        have e2 : ((⟨.pointer (some ⟨b, 0, none⟩) :: vs⟩ : Array Value) ++ Array.replicate (fn.ntmps - (⟨.pointer (some ⟨b, 0, none⟩) :: vs⟩ : Array Value).size) undef).getD (i + 1) undef = undef := by
          simp only [Array.getD_eq_getD_getElem?]
          rw [Array.getElem?_append_right (by simp; omega), Array.getElem?_replicate]
          split <;> rfl
        rw [e1, e2]
        exact RA.undef e
  refine aC_sound (Γ := Γ) (t := t) (pure := pure) ht rfl hrt.symm hm hpure c _ _ hcode.1 (fun ex σ h a e' hk hs' hw' => ?_) _ _ _ e hC hs hw
  have fin : aRet t.P fn.results.toList σ h (mf.val row args) ∧ (match h.H 1 with | some row' => RowRet 0 (mf.upd row args) (exRow cs.toList row) row' | none => False) →
      a.defers = [] ∧ ∃ v, (results fn a.tmps).run t.P e'.w = .ok v e'.w ∧ ∃ v' cs' ty', Ending.returned v = .returned v' ∧ GrowsBut b w e'.w ∧ e'.w.heap[b]? = some (.cells cs' ty' (0, 0)) ∧ CellsUpd e'.w S (mf.upd row args) cs.toList cs'.toList ∧ R1 e'.w S (mf.val row args) v' := by
    rintro ⟨hr, hrr⟩
    obtain ⟨v, g1, g2⟩ := run_resultsFn (Γ := Γ) hs' hw' hcode.2 hr
    cases hH : h.H 1 with
    | none => rw [hH] at hrr; exact hrr.elim
    | some row' =>
      rw [hH] at hrr
      obtain ⟨b', cs', ty', q1, q2, q3, q4, q5⟩ := hw'.boxAt (hw'.rt b rfl) row' hH
      rw [hw'.rt b rfl] at q1
      simp at q1
      subst q1
      have hkeep : Keep e'.w e'.S e'.w S := fun b' o x hc hS' => ⟨hc, fun h => by
        by_cases hbb : b' = b
        · subst hbb
          have : cs'[o]? = some x := by simpa [World.cell?, q2] using hc
          exact hS' (q4 o (Array.getElem?_eq_some_iff.1 this).1)
        · exact hS' (hw'.s0 b' o h hbb)⟩
      obtain ⟨a1, a2⟩ := RowRet.at hrr hx (q3.plain hrr.plain)
      refine ⟨hs'.2.1, v, g1, v, cs', ty', rfl, ⟨hw'.os, hw'.tape, hw'.output, hw'.grown, fun k hk hne => hw'.old k hk hne⟩, q2, ?_, RD.mono hkeep g2⟩
      refine cellsUpd_of _ _ _ a1 (fun p hp => ?_) (fun j hj hn => ?_)
      · obtain ⟨u1, u2⟩ := hus p hp
        refine ⟨by omega, ?_⟩
        have := a2 p.1 (by omega)
        rw [Nat.zero_add, u2] at this
        obtain ⟨x, y1, y2⟩ := this
        exact ⟨x, y1, RD.mono hkeep y2⟩
      · have := a2 j hj
        have hno : (mf.upd row args).lookup j = none := by
          cases hl : (mf.upd row args).lookup j with
          | none => rfl
          | some d => exact absurd (List.mem_map.2 ⟨(j, d), lookup_mem hl, rfl⟩) hn
        rw [Nat.zero_add, hno] at this
        exact this
  cases ex with
  | normal => exact fin hk
  | ret => exact fin hk
  | exit id => exact hk.elim
  | goto l => exact hk.elim
  | panic ch => exact hk.elim
  | outgrown => exact hk.elim

/-! ### Methods of data -/
open Classical in
noncomputable def MF.of {A R : Type} (encB encA : A → List D) (f : A → Option R) (e : R → D) (u : R → List (Nat × D)) : MF :=
  ⟨fun row l => ∃ a r, les1 row (encB a) ∧ les1 l (encA a) ∧ f a = some r,
   fun row l => if h : ∃ d, ∃ a r, les1 row (encB a) ∧ les1 l (encA a) ∧ f a = some r ∧ d = e r then Classical.choose h else .v undef,
   fun row l => if h : ∃ d, ∃ a r, les1 row (encB a) ∧ les1 l (encA a) ∧ f a = some r ∧ d = u r then Classical.choose h else []⟩
def Inj2 {A : Type} (encB encA : A → List D) : Prop := ∀ a b, (encB a).map strip1 = (encB b).map strip1 → (encA a).map strip1 = (encA b).map strip1 → a = b
theorem MF.of_all {A R : Type} {encB encA : A → List D} {f : A → Option R} {e : R → D} {u : R → List (Nat × D)} (inj : Inj2 encB encA) {row l : List D} {a : A} {r : R} (hb : les1 row (encB a)) (hl : les1 l (encA a)) (H : f a = some r) :
    (MF.of encB encA f e u).pre row l = True ∧ (MF.of encB encA f e u).val row l = e r ∧ (MF.of encB encA f e u).upd row l = u r := by
  have uniq : ∀ a' r', les1 row (encB a') → les1 l (encA a') → f a' = some r' → r' = r := fun a' r' h1 h2 h3 => by
    have := inj a a' ((les1_strip hb).symm.trans (les1_strip h1)) ((les1_strip hl).symm.trans (les1_strip h2))
    subst this
    rw [H] at h3
    cases h3
    rfl
  refine ⟨eq_true ⟨a, r, hb, hl, H⟩, ?_, ?_⟩
  · have hx : ∃ d, ∃ a r, les1 row (encB a) ∧ les1 l (encA a) ∧ f a = some r ∧ d = e r := ⟨_, a, r, hb, hl, H, rfl⟩
    simp only [MF.of]
    rw [dif_pos hx]
    obtain ⟨a', r', h1, h2, h3, h4⟩ := Classical.choose_spec hx
    rw [h4, uniq a' r' h1 h2 h3]
  · have hx : ∃ d, ∃ a r, les1 row (encB a) ∧ les1 l (encA a) ∧ f a = some r ∧ d = u r := ⟨_, a, r, hb, hl, H, rfl⟩
    simp only [MF.of]
    rw [dif_pos hx]
    obtain ⟨a', r', h1, h2, h3, h4⟩ := Classical.choose_spec hx
    rw [h4, uniq a' r' h1 h2 h3]
theorem les1_length : ∀ {l m : List D}, les1 l m → l.length = m.length
  | [], [], _ => rfl
  | _ :: _, _ :: _, ⟨_, h⟩ => by simp [les1_length h]
  | [], _ :: _, h => h.elim
  | _ :: _, [], h => h.elim
theorem meth_of {A R : Type} {encB encA : A → List D} {f : A → Option R} {e : R → D} {u : R → List (Nat × D)} (inj : Inj2 encB encA) {t : Tab} (hrt : t.rt = true) {pure : Nat → Bool} (ht : TabOk t) (hm : t.P.follows .mixedOrders = true) (hpure : ∀ n, pure n = true → (t.Φ n).isSome)
    {k : Nat} {fn : Func} {c : Code} (hf : t.P.funcs[k]? = some fn) (hb : fn.body = some c) (hcode : (codeOk pure fn.ntmps c && fn.results.toList.all (resIn fn.ntmps)) = true)
    (hl : ∀ a, (encA a).length + 1 ≤ fn.ntmps) (hu : ∀ a r, usIn (encB a).length (u r))
    (h : ∀ a r, f a = some r → ∀ xs : List Value, xs.length = (encB a).length → aC t c (sig0 (.c (.pt 1 0) :: (encA a).map fun d => .c (.d d))) (hpL [exRow xs (encB a)] []) (QRetM t.P fn (e r) (exRow xs (encB a)) (u r))) : MethOk t.P k (MF.of encB encA f e u) := by
  have hx : ∀ a r, f a = some r → MethOk t.P k ⟨fun row l => row = encB a ∧ l = encA a, fun _ _ => e r, fun _ _ => u r⟩ := fun a r H => by
    refine meth_of_aC ht hm hpure hrt hf hb hcode _ ?_
    rintro row args ⟨rfl, rfl⟩
    exact ⟨hl a, hu a r, h a r H⟩
  intro w S b cs ty row args vs hblk hSc hrow hargs hS hp
  obtain ⟨a, r, hle, hla, H⟩ := hp
  have h0 := MF.of_all (e := e) (u := u) inj hle hla H
  have := hx a r H w S b cs ty (encB a) (encA a) vs hblk hSc (les1_Rn hle hrow) (les1_Rn hla hargs) hS ⟨rfl, rfl⟩
  rw [h0.2.1, h0.2.2]
  exact this

end Go.Proofs.Ytgkacglpjmndbaa
