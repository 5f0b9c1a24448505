/- Code, and functions of data. -/
import Derived.Test.YtgkacglpjmndbaaMw
import Derived.Deep.LoopGhost
namespace Go.Proofs.Ytgkacglpjmndbaa
open Go.RowKit

/-- What any heap's part of a state is like. -/
structure Hp.Good (h : Hp) : Prop where
  H : ∀ n, h.nx ≤ n → h.H n = none
  T : ∀ n, h.nx ≤ n → h.T n = none
  T0 : h.T 0 = none
  nx : 0 < h.nx

theorem WInv.good {Γ : Ctx} {h : Hp} {e : Env} (hw : WInv Γ h e) : h.Good :=
  ⟨fun n hn => (hw.fresh n hn).1, fun n hn => (hw.fresh n hn).2.1, by
    cases hT : h.T 0 with
    | none => rfl
    | some ty => exact absurd rfl (hw.tok 0 ty hT).1, hw.nx0⟩

abbrev APost := Exit → (Nat → AV) → Hp → Prop

/-- What follows, shut away. -/
structure Given (p q : Prop) : Prop where
  get : p → q

/-- What holds of code, behind each way out of it. -/
def aC (t : Tab) : Code → (Nat → AV) → Hp → APost → Prop
  | .skip, σ, h, Q => Q .normal σ h
  | .region _ ops _, σ, h, Q => aOps t ops (Q .normal) ops.toList σ h
  | .seq a b, σ, h, Q => aC t a σ h (fun ex σ' h' => match ex with | .normal => ∃ σ2 h2, Wk t.rt σ' h' σ2 h2 ∧ Given h2.Good (aC t b σ2 h2 Q) | ex => Q ex σ' h')
  | .cond c x y, σ, h, Q => match evA σ c with
    | .c (.d (.v (.bool p))) => (p = true → aC t x σ h Q) ∧ (p = false → aC t y σ h Q)
    | _ => False
  | .block id b, σ, h, Q => aC t b σ h (fun ex σ' h' => match ex with | .exit j => if j = id then Q .normal σ' h' else Q (.exit j) σ' h' | ex => Q ex σ' h')
  | .loop b, σ, h, Q => ∃ I : Nat → (Nat → AV) → Hp → Prop, (∃ n σ1 h1, Wk t.rt σ h σ1 h1 ∧ I n σ1 h1) ∧ ∀ n σ' h', I n σ' h' → h'.Good → aC t b σ' h' (fun ex σ'' h'' => match ex with | .normal => ∃ m σ3 h3, m < n ∧ Wk t.rt σ'' h'' σ3 h3 ∧ I m σ3 h3 | ex => Q ex σ'' h'')
  | .exit id, σ, h, Q => Q (.exit id) σ h
  | .ret, σ, h, Q => Q .ret σ h
  | _, _, _, _ => False

/-- What can be seen without running it. -/
def codeOk (pure : Nat → Bool) (nt : Nat) : Code → Bool
  | .region _ ops draw => ops.toList.all (opIn nt ops) && (!draw || lexOk pure ops)
  | .seq a b => codeOk pure nt a && codeOk pure nt b
  | .cond c x y => (match c with | .tmp t => decide (t < nt) | _ => true) && codeOk pure nt x && codeOk pure nt y
  | .block _ b => codeOk pure nt b
  | .loop b => codeOk pure nt b
  | _ => true

theorem aC_sound {Γ : Ctx} {t : Tab} {pure : Nat → Bool} (ht : TabOk t) (hP : t.P = Γ.P) (hrt : Γ.root.isSome = t.rt) (hm : Γ.P.follows .mixedOrders = true) (hpure : ∀ n, pure n = true → (t.Φ n).isSome) :
    ∀ (c : Code) (Q : APost) (Q' : Exit → Act → World → Prop), codeOk pure Γ.nt c = true → (∀ ex σ h a e, Q ex σ h → SlotsOk Γ.nt σ a e → WInv Γ h e → Q' ex a e.w) →
      ∀ (σ : Nat → AV) (h : Hp) (a : Act) (e : Env), aC t c σ h Q → SlotsOk Γ.nt σ a e → WInv Γ h e → c.wp Γ.P Q' a e.w
  | .skip, Q, Q', _, hQ, σ, h, a, e, hh, hs, hw => wp_skip (hQ _ _ _ _ _ hh hs hw)
  | .region id ops draw, Q, Q', hc, hQ, σ, h, a, e, hh, hs, hw => by
    simp only [codeOk, Bool.and_eq_true, Bool.or_eq_true, Bool.not_eq_true'] at hc
    exact region_sound ht hP hm hpure hc.1 (fun hd => by rcases hc.2 with h | h; rw [hd] at h; cases h; exact h) (fun σ h a e hk => hQ _ σ h a e hk) hh hs hw
  | .seq x y, Q, Q', hc, hQ, σ, h, a, e, hh, hs, hw => by
    simp only [codeOk, Bool.and_eq_true] at hc
    refine wp_seq (aC_sound ht hP hrt hm hpure x _ _ hc.1 (fun ex σ h a e hk hs hw => ?_) σ h a e hh hs hw)
    cases ex with
    | normal =>
      obtain ⟨σ2, h2, hwk, hk⟩ := hk
      obtain ⟨e2, he, hs2, hw2⟩ := hwk Γ a e hrt hs hw
      rw [← he]
      exact aC_sound ht hP hrt hm hpure y Q Q' hc.2 hQ σ2 h2 a e2 (hk.get hw2.good) hs2 hw2
    | exit id => exact hQ _ _ _ _ _ hk hs hw
    | goto l => exact hQ _ _ _ _ _ hk hs hw
    | ret => exact hQ _ _ _ _ _ hk hs hw
    | panic ch => exact hQ _ _ _ _ _ hk hs hw
    | outgrown => exact hQ _ _ _ _ _ hk hs hw
  | .cond c x y, Q, Q', hc, hQ, σ, h, a, e, hh, hs, hw => by
    simp only [codeOk, Bool.and_eq_true] at hc
    simp only [aC] at hh
    split at hh
    · rename_i p hp
      have hr := RA_eval hs c (fun t ht => by subst ht; simpa using hc.1.1)
      rw [hp] at hr
      have hr := R1.vInv hr
      exact wp_cond_split hr (fun h1 => aC_sound ht hP hrt hm hpure x Q Q' hc.1.2 hQ σ h a e (hh.1 h1) hs hw) (fun h1 => aC_sound ht hP hrt hm hpure y Q Q' hc.2 hQ σ h a e (hh.2 h1) hs hw)
    · exact hh.elim
  | .block id b, Q, Q', hc, hQ, σ, h, a, e, hh, hs, hw => by
    refine wp_block (aC_sound ht hP hrt hm hpure b _ _ hc (fun ex σ h a e hk hs hw => ?_) σ h a e hh hs hw)
    cases ex with
    | normal => exact hQ _ _ _ _ _ hk hs hw
    | exit j =>
      simp only [Exit.inBlock]
      simp only at hk
      split at hk
      · rename_i hj; rw [if_pos hj]; exact hQ _ _ _ _ _ hk hs hw
      · rename_i hj; rw [if_neg hj]; exact hQ _ _ _ _ _ hk hs hw
    | goto l => exact hQ _ _ _ _ _ hk hs hw
    | ret => exact hQ _ _ _ _ _ hk hs hw
    | panic ch => exact hQ _ _ _ _ _ hk hs hw
    | outgrown => exact hQ _ _ _ _ _ hk hs hw
  | .loop b, Q, Q', hc, hQ, σ, h, a, e, hh, hs, hw => by
    obtain ⟨I, ⟨n₀, σ1, h1, hwk, h0⟩, hround⟩ := hh
    obtain ⟨e1, he, hs1, hw1⟩ := hwk Γ a e hrt hs hw
    refine wp_loop_ghost (fun n a' w' => ∃ σ' h' e', e'.w = w' ∧ I n σ' h' ∧ SlotsOk Γ.nt σ' a' e' ∧ WInv Γ h' e') n₀ ⟨σ1, h1, e1, he, h0, hs1, hw1⟩ ?_
    rintro n a' w' ⟨σ', h', e', rfl, hI, hs', hw'⟩
    refine aC_sound ht hP hrt hm hpure b _ _ hc (fun ex σ h a e hk hs hw => ?_) σ' h' a' e' (hround n σ' h' hI hw'.good) hs' hw'
    cases ex with
    | normal =>
      obtain ⟨m, σ3, h3, hm, hwk, hI'⟩ := hk
      obtain ⟨e3, he3, hs3, hw3⟩ := hwk Γ a e hrt hs hw
      exact ⟨m, hm, σ3, h3, e3, he3, hI', hs3, hw3⟩
    | exit id => exact hQ _ _ _ _ _ hk hs hw
    | goto l => exact hQ _ _ _ _ _ hk hs hw
    | ret => exact hQ _ _ _ _ _ hk hs hw
    | panic ch => exact hQ _ _ _ _ _ hk hs hw
    | outgrown => exact hQ _ _ _ _ _ hk hs hw
  | .exit id, Q, Q', _, hQ, σ, h, a, e, hh, hs, hw => wp_exit (hQ _ _ _ _ _ hh hs hw)
  | .ret, Q, Q', _, hQ, σ, h, a, e, hh, hs, hw => wp_ret (hQ _ _ _ _ _ hh hs hw)
  | .rangeFunc _ _ _ _, _, _, _, _, _, _, _, _, hh, _, _ => hh.elim
  | .scope _, _, _, _, _, _, _, _, _, hh, _, _ => hh.elim
  | .label _, _, _, _, _, _, _, _, _, hh, _, _ => hh.elim
  | .goto _, _, _, _, _, _, _, _, _, hh, _, _ => hh.elim
  | .refuse _, _, _, _, _, _, _, _, _, hh, _, _ => hh.elim

theorem callable_of {P : Program} {f : Nat} {fn : Func} (hf : P.funcs[f]? = some fn) (hn : (fn.name == "runtime.NumGoroutine") = false) (hb : fn.body.isNone = false) : Callable P f := by
  intro args w
  simp only [callFunc, Sem.run_bind, run_program, Result.andThen_ok, hf, hn, hb, Bool.false_eq_true, if_false, Sem.run_pure]

/-! ### Functions of data -/
def sig0 (args : List AV) : Nat → AV := fun i => args.getD i undefA
def hp0 : Hp := ⟨fun _ => none, fun _ => none, 1⟩

def aRes1 (P : Program) (σ : Nat → AV) (h : Hp) : ResultVar → Prop × D
  | .tmp t => ((σ t).isD = true, (σ t).toD)
  | .cell a ty => match σ a with
    | .c (.pt n 0) => match h.H n with
      | some row => (rowP row = true ∧ (aLoadRow P h ty row 0).pre ∧ (aLoadRow P h ty row 0).val.isD = true, (aLoadRow P h ty row 0).val.toD)
      | none => (False, .v undef)
    | _ => (False, .v undef)

def resIn (nt : Nat) : ResultVar → Bool
  | .tmp t => decide (t < nt)
  | .cell a _ => decide (a < nt)

def joinD : List D → D
  | [d] => d
  | l => .tu l

/-! The same data, but for the size of elements of a slice that has none. -/
def le0 : D → D → Prop
  | .sl sz l, .sl sz' l' => l = l' ∧ (sz = sz' ∨ l = [])
  | x, y => x = y
def les0 : List D → List D → Prop
  | [], [] => True
  | x :: l, y :: m => le0 x y ∧ les0 l m
  | _, _ => False
def le1 : D → D → Prop
  | .ag l, .ag m => les0 l m
  | x, y => le0 x y
def les1 : List D → List D → Prop
  | [], [] => True
  | x :: l, y :: m => le1 x y ∧ les1 l m
  | _, _ => False
def le2 : D → D → Prop
  | .tu l, .tu m => les1 l m
  | x, y => le1 x y
theorem le0_R1 {w : World} {S : Nat → Nat → Prop} {x y : D} {v : Value} (h : le0 x y) (k : R1 w S x v) : R1 w S y v := by
  unfold le0 at h
  split at h
  · obtain ⟨rfl, h⟩ := h
    exact k.resize h.symm
  · subst h; exact k
theorem les0_Rn {w : World} {S : Nat → Nat → Prop} : ∀ {l m : List D} {vs : List Value}, les0 l m → Rn w S l vs → Rn w S m vs
  | [], [], _, _, k => k
  | _ :: _, _ :: _, _, ⟨h1, h2⟩, k => by cases k with | acons _ _ _ _ k1 k2 => exact .acons _ _ _ _ (le0_R1 h1 k1) (les0_Rn h2 k2)
  | [], _ :: _, _, h, _ => h.elim
  | _ :: _, [], _, h, _ => h.elim
theorem le1_R1 {w : World} {S : Nat → Nat → Prop} {x y : D} {v : Value} (h : le1 x y) (k : R1 w S x v) : R1 w S y v := by
  unfold le1 at h
  split at h
  · obtain ⟨vs, rfl, k2⟩ := R1.agInv k
    exact .ag _ _ (les0_Rn h k2)
  · exact le0_R1 h k
theorem les1_Rn {w : World} {S : Nat → Nat → Prop} : ∀ {l m : List D} {vs : List Value}, les1 l m → Rn w S l vs → Rn w S m vs
  | [], [], _, _, k => k
  | _ :: _, _ :: _, _, ⟨h1, h2⟩, k => by cases k with | acons _ _ _ _ k1 k2 => exact .acons _ _ _ _ (le1_R1 h1 k1) (les1_Rn h2 k2)
  | [], _ :: _, _, h, _ => h.elim
  | _ :: _, [], _, h, _ => h.elim
theorem le2_R1 {w : World} {S : Nat → Nat → Prop} {x y : D} {v : Value} (h : le2 x y) (k : R1 w S x v) : R1 w S y v := by
  unfold le2 at h
  split at h
  · obtain ⟨vs, rfl, k2⟩ := R1.tuInv k
    exact .tu _ _ (les1_Rn h k2)
  · exact le1_R1 h k
def strip0 : D → D
  | .sl _ l => .sl 0 l
  | d => d
def strip1 : D → D
  | .ag l => .ag (l.map strip0)
  | d => strip0 d
theorem le0_strip {x y : D} (h : le0 x y) : strip0 x = strip0 y := by
  unfold le0 at h
  split at h
  · obtain ⟨rfl, _⟩ := h; rfl
  · subst h; rfl
theorem les0_strip : ∀ {l m : List D}, les0 l m → l.map strip0 = m.map strip0
  | [], [], _ => rfl
  | _ :: _, _ :: _, ⟨h1, h2⟩ => by rw [List.map_cons, List.map_cons, le0_strip h1, les0_strip h2]
  | [], _ :: _, h => h.elim
  | _ :: _, [], h => h.elim
theorem le1_strip {x y : D} (h : le1 x y) : strip1 x = strip1 y := by
  unfold le1 at h
  split at h
  · simp only [strip1, les0_strip h]
  · unfold le0 at h
    split at h
    · obtain ⟨rfl, _⟩ := h; rfl
    · subst h; rfl
theorem les1_strip : ∀ {l m : List D}, les1 l m → l.map strip1 = m.map strip1
  | [], [], _ => rfl
  | _ :: _, _ :: _, ⟨h1, h2⟩ => by rw [List.map_cons, List.map_cons, le1_strip h1, les1_strip h2]
  | [], _ :: _, h => h.elim
  | _ :: _, [], h => h.elim
theorem le0_refl (x : D) : le0 x x := by cases x <;> simp [le0]
theorem les0_refl : ∀ l : List D, les0 l l
  | [] => trivial
  | x :: l => ⟨le0_refl x, les0_refl l⟩
theorem le1_refl (x : D) : le1 x x := by cases x <;> simp [le1, le0, les0_refl]
theorem les1_refl : ∀ l : List D, les1 l l
  | [] => trivial
  | x :: l => ⟨le1_refl x, les1_refl l⟩

def aRet (P : Program) (rs : List ResultVar) (σ : Nat → AV) (h : Hp) (d : D) : Prop :=
  (∀ r ∈ rs, (aRes1 P σ h r).1) ∧ le2 (joinD (rs.map fun r => (aRes1 P σ h r).2)) d

theorem run_res1 {Γ : Ctx} {σ : Nat → AV} {h : Hp} {a : Act} {e : Env} (hs : SlotsOk Γ.nt σ a e) (hw : WInv Γ h e) {r : ResultVar} (hin : resIn Γ.nt r = true) (hp : (aRes1 Γ.P σ h r).1) :
    ∃ v, (match r with | .tmp t => pure (a.tmps.getD t undef) | .cell x ty => do loadVar ty (← asAddr (a.tmps.getD x undef)) : Sem Value).run Γ.P e.w = .ok v e.w ∧ R1 e.w e.S (aRes1 Γ.P σ h r).2 v := by
  cases r with
  | tmp t =>
    simp only [resIn, decide_eq_true_eq] at hin
    exact ⟨_, by simp, (hs.2.2 t hin).toD hp⟩
  | cell x ty =>
    simp only [resIn, decide_eq_true_eq] at hin
    have hx := hs.2.2 x hin
    simp only [aRes1] at hp ⊢
    split at hp
    · rename_i n hσ
      split at hp
      · rename_i row hrow
        rw [hσ] at hx
        obtain ⟨b, h2, h3⟩ := hx
        obtain ⟨b', cs, ty', h4, h5, h6, h7, _⟩ := hw.boxAt h2 row hrow
        rw [h2] at h4
        simp at h4
        subst h4
        obtain ⟨v, h8, h9⟩ := load_row (b := b) (o := 0) hp.2.1 (h6.plain hp.1) (fun i x hx => by simp [World.cell?, h5]; simpa using hx)
        refine ⟨v, ?_, h9.toD hp.2.2⟩
        simp only [Nat.zero_add] at h8
        simp only [h3, asAddr, Sem.run_bind, Sem.run_pure, Result.andThen_ok]
        simpa [Instr.loadAt, Instr.sureAddr] using h8
      · exact hp.elim
    · exact hp.elim

theorem run_results {Γ : Ctx} {σ : Nat → AV} {h : Hp} {a : Act} {e : Env} (hs : SlotsOk Γ.nt σ a e) (hw : WInv Γ h e) : ∀ (rs : List ResultVar), (rs.all (resIn Γ.nt)) = true → (∀ r ∈ rs, (aRes1 Γ.P σ h r).1) →
    ∃ vs, (rs.mapM fun r => (match r with | .tmp t => pure (a.tmps.getD t undef) | .cell x ty => do loadVar ty (← asAddr (a.tmps.getD x undef)) : Sem Value)).run Γ.P e.w = .ok vs e.w ∧ Rn e.w e.S (rs.map fun r => (aRes1 Γ.P σ h r).2) vs
  | [], _, _ => ⟨[], by simp, .anil⟩
  | r :: rs, hin, hp => by
    simp only [List.all_cons, Bool.and_eq_true] at hin
    obtain ⟨v, h1, h2⟩ := run_res1 hs hw hin.1 (hp r (by simp))
    obtain ⟨vs, h3, h4⟩ := run_results hs hw rs hin.2 (fun r hr => hp r (by simp [hr]))
    refine ⟨v :: vs, ?_, .acons _ _ _ _ h2 h4⟩
    rw [List.mapM_cons, Sem.run_bind, h1, Result.andThen_ok, Sem.run_bind, h3]
    rfl

theorem run_resultsFn {Γ : Ctx} {σ : Nat → AV} {h : Hp} {a : Act} {e : Env} {fn : Func} {d : D} (hs : SlotsOk Γ.nt σ a e) (hw : WInv Γ h e) (hin : (fn.results.toList.all (resIn Γ.nt)) = true) (hr : aRet Γ.P fn.results.toList σ h d) :
    ∃ v, (results fn a.tmps).run Γ.P e.w = .ok v e.w ∧ R1 e.w e.S d v := by
  obtain ⟨vs, h1, h2⟩ := run_results hs hw fn.results.toList hin hr.1
  have hle := hr.2
  suffices hsuf : ∃ v, (results fn a.tmps).run Γ.P e.w = .ok v e.w ∧ R1 e.w e.S (joinD (fn.results.toList.map fun r => (aRes1 Γ.P σ h r).2)) v by
    obtain ⟨v, k1, k2⟩ := hsuf
    exact ⟨v, k1, le2_R1 hle k2⟩
  have hd : joinD (fn.results.toList.map fun r => (aRes1 Γ.P σ h r).2) = joinD (fn.results.toList.map fun r => (aRes1 Γ.P σ h r).2) := rfl
  generalize hdd : joinD (fn.results.toList.map fun r => (aRes1 Γ.P σ h r).2) = d at hd ⊢
  have hd := hdd
  have hrun : (fn.results.mapM fun r => (match r with | .tmp t => pure (a.tmps.getD t undef) | .cell x ty => do loadVar ty (← asAddr (a.tmps.getD x undef)) : Sem Value)).run Γ.P e.w = .ok vs.toArray e.w := by
    rw [Array.mapM_eq_mapM_toList, Sem.run_map, h1]; rfl
  refine ⟨if h : vs.toArray.size = 1 then vs.toArray[0] else .tuple vs.toArray, ?_, ?_⟩
  · unfold results
    rw [Sem.run_bind]
    erw [hrun]
    rfl
  · generalize (fn.results.toList.map fun r => (aRes1 Γ.P σ h r).2) = ds at h2 hd
    cases ds with
    | nil => cases h2; subst hd; exact .tu _ _ .anil
    | cons x ds =>
      cases ds with
      | nil =>
        cases h2 with
        | acons _ v _ vs h3 h4 => cases h4; subst hd; simpa [joinD] using h3
      | cons y ds =>
        cases h2 with
        | acons _ v _ vs h3 h4 =>
          cases h4 with
          | acons _ u _ us h5 h6 =>
            subst hd
            simp only [joinD]
            rw [dif_neg (by simp)]
            exact .tu _ _ (.acons _ _ _ _ h3 (.acons _ _ _ _ h5 h6))

/-- The way out of a function. -/
def QRet (P : Program) (fn : Func) (d : D) : APost := fun ex σ h =>
  match ex with
  | .ret => aRet P fn.results.toList σ h d
  | .normal => aRet P fn.results.toList σ h d
  | _ => False

theorem pure_of_aC {t : Tab} {pure : Nat → Bool} (ht : TabOk t) (hm : t.P.follows .mixedOrders = true) (hpure : ∀ n, pure n = true → (t.Φ n).isSome) {f : Nat} {fn : Func} {c : Code} (hf : t.P.funcs[f]? = some fn) (hb : fn.body = some c)
    (hcode : (codeOk pure fn.ntmps c && fn.results.toList.all (resIn fn.ntmps)) = true) (pf : PF)
    (h : ∀ args, pf.pre args → args.length ≤ fn.ntmps ∧ t.rt = false ∧ ∃ σ h, Wk t.rt (sig0 (args.map fun d => .c (.d d))) hp0 σ h ∧ (h.Good → aC t c σ h (QRet t.P fn (pf.val args)))) : PureOk t.P f pf := by
  simp only [Bool.and_eq_true] at hcode
  intro w S args vs hargs hS hp
  obtain ⟨hn, hrt, σ1, h1, hwk, hC⟩ := h args hp
  have hlen := hargs.length
  refine calls_of_wp hf hb ?_
  let Γ : Ctx := ⟨t.P, w, w.heap.size, S, fun _ => False, fn.ntmps, none⟩
  let e : Env := ⟨w, S, fun _ => none, fun _ => none⟩
  have hw : WInv Γ hp0 e := by
    constructor
    · rfl
    · rfl
    · rfl
    · exact Nat.le_refl _
    · exact Nat.le_refl _
    · intro b _ _; rfl
    · exact hS
    · intro b o h _; exact h
    · exact hS
    · intro n row h; cases h
    · intro n m b h; exact absurd rfl h
    · intro k ty h; cases h
    · intro k m v u b h; exact absurd rfl h
    · intro n _; exact ⟨rfl, rfl, rfl, rfl⟩
    · exact Nat.one_pos
    · intro b hb; cases hb
  have hs : SlotsOk Γ.nt (sig0 (args.map fun d => .c (.d d))) { tmps := (⟨vs⟩ : Array Value) ++ Array.replicate (fn.ntmps - (⟨vs⟩ : Array Value).size) undef, defers := [] } e := by
    refine ⟨by simp [hlen, Γ]; omega, rfl, fun i hi => ?_⟩
    rcases Nat.lt_or_ge i args.length with hlt | hge
    · obtain ⟨v, h1, h2⟩ := hargs.get i args[i] (List.getElem?_eq_getElem hlt)
      have e1 : sig0 (args.map fun d => AV.c (.d d)) i = .c (.d args[i]) := by simp [sig0, hlt]
      have e2 : ((⟨vs⟩ : Array Value) ++ Array.replicate (fn.ntmps - (⟨vs⟩ : Array Value).size) undef).getD i undef = v := by
        have hiv : i < vs.length := by omega
        simp only [Array.getD_eq_getD_getElem?]
        rw [Array.getElem?_append_left (by simpa using hiv)]
        simp [h1]
      rw [e1, e2]
      exact h2
    · have e1 : sig0 (args.map fun d => AV.c (.d d)) i = undefA := by simp [sig0, hge]
      have e2 : ((⟨vs⟩ : Array Value) ++ Array.replicate (fn.ntmps - (⟨vs⟩ : Array Value).size) undef).getD i undef = undef := by
        simp only [Array.getD_eq_getD_getElem?]
        rw [Array.getElem?_append_right (by simp; omega), Array.getElem?_replicate]
        split <;> rfl
      rw [e1, e2]
      exact RA.undef e
  obtain ⟨e1, he1, hs1, hw1⟩ := hwk Γ _ e hrt.symm hs hw
  have he1' : e1.w = w := he1
  suffices hsuf : ∀ w1, w1 = e1.w → c.wp t.P (bodyPost t.P fn (fun en w' => ∃ v, en = Ending.returned v ∧ Grows w w' ∧ R1 w' S (pf.val args) v)) { tmps := (⟨vs⟩ : Array Value) ++ Array.replicate (fn.ntmps - (⟨vs⟩ : Array Value).size) undef, defers := [] } w1 from hsuf w he1'.symm
  rintro _ rfl
  refine aC_sound (Γ := Γ) (t := t) (pure := pure) ht rfl hrt.symm hm hpure c _ _ hcode.1 (fun ex σ h a e' hk hs' hw' => ?_) _ _ _ e1 (hC hw1.good) hs1 hw1
  have fin : aRet t.P fn.results.toList σ h (pf.val args) → a.defers = [] ∧ ∃ v, (results fn a.tmps).run t.P e'.w = .ok v e'.w ∧ ∃ v', Ending.returned v = .returned v' ∧ Grows w e'.w ∧ R1 e'.w S (pf.val args) v' := fun hr => by
    obtain ⟨v, h1, h2⟩ := run_resultsFn (Γ := Γ) hs' hw' hcode.2 hr
    refine ⟨hs'.2.1, v, h1, v, rfl, ⟨hw'.os, hw'.tape, hw'.output, hw'.grown, fun k hk => hw'.old k hk (fun h => h.elim)⟩, RD.mono (fun b o x hc hS' => ⟨hc, fun h => hS' (hw'.s0 b o h (fun h => h.elim))⟩) h2⟩
  cases ex with
  | normal => exact fin hk
  | ret => exact fin hk
  | exit id => exact hk.elim
  | goto l => exact hk.elim
  | panic ch => exact hk.elim
  | outgrown => exact hk.elim

end Go.Proofs.Ytgkacglpjmndbaa
