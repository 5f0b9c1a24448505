/- The walk's steps in short: what is done at each one stands here, once (it is run where the step is used). -/
import Derived.Test.YtgkacglpjmndbaaMx
namespace Go.Proofs.Ytgkacglpjmndbaa
open Go.RowKit

variable {t : Tab} {σ : Nat → AV} {h : Hp} {Q : APost}

/-- What the text alone decides. -/
theorem xS {p q : Prop} (x : p) (f : p → q := by intro x; (repeat (with_reducible (first | refine w_seq ?_ | refine then_normal ?_ | refine w_block ?_ | refine block_normal ?_ | refine w_skip ?_ | refine w_exit ?_ | refine then_exit ?_ | refine block_exit ?_ | refine w_ret ?_ | refine then_ret ?_ | refine block_ret ?_ | refine round_ret ?_ | refine round_exit ?_ | refine cut_ret ?_ | refine cut_exit ?_ | refine block_other rfl ?_))); exact x) : q := f x

/-- A region. -/
theorem xR {p : Prop} {id : Nat} {ops : Array Oper} {draw : Bool} {σ2 : Nat → AV} {h2 : Hp} (x : p)
    (hg : (ops.toList.all (guardsOk ops)) = true := by rfl)
    (hr : ∀ K : (Nat → AV) → Hp → Prop, K σ2 h2 → aRO t K (ops.toList.map (roOf ops)) σ h := by
      intro K hK
      simp -implicitDefEqProofs only [goR, ↓upd_at, goS, ↓reduceIte, reduceCtorEq, seval, F]
      repeat' (first | exact hK | (with_reducible apply And.intro) | exact trivial | assumption | omega))
    (f : p → Q .normal σ2 h2 := by intro x; refine xS ?_; exact x) : aC t (.region id ops draw) σ h Q :=
  w_region hg fun K hK => hr K (hK _ _ (f x))

theorem xT {p : Prop} {c : Operand} {a b : Code} (x : p) (hc : evA σ c = .c (.d (.v (.bool true))) := by simp -implicitDefEqProofs only [goR, ↓upd_at, goS, ↓reduceIte, reduceCtorEq, seval, F])
    (f : p → aC t a σ h Q := by intro x; refine xS ?_; exact x) : aC t (.cond c a b) σ h Q := w_condT hc (f x)
theorem xE {p : Prop} {c : Operand} {a b : Code} (x : p) (hc : evA σ c = .c (.d (.v (.bool false))) := by simp -implicitDefEqProofs only [goR, ↓upd_at, goS, ↓reduceIte, reduceCtorEq, seval, F])
    (f : p → aC t b σ h Q := by intro x; refine xS ?_; exact x) : aC t (.cond c a b) σ h Q := w_condF hc (f x)

theorem xr {p : Prop} {id : Nat} {ops : Array Oper} {draw : Bool} {σ2 : Nat → AV} {h2 : Hp} (x : p)
    (hg : (ops.toList.all (guardsOk ops)) = true := by rfl)
    (hr : ∀ K : (Nat → AV) → Hp → Prop, K σ2 h2 → aRO t K (ops.toList.map (roOf ops)) σ h := by
      intro K hK
      simp -implicitDefEqProofs only [goR, ↓upd_at, goS, ↓reduceIte, reduceCtorEq, seval, Y]
      repeat' (first | exact hK | (with_reducible apply And.intro) | exact trivial | assumption | omega))
    (f : p → Q .normal σ2 h2 := by intro x; refine xS ?_; exact x) : aC t (.region id ops draw) σ h Q :=
  w_region hg fun K hK => hr K (hK _ _ (f x))
theorem xt {p : Prop} {c : Operand} {a b : Code} (x : p) (hc : evA σ c = .c (.d (.v (.bool true))) := by simp -implicitDefEqProofs only [goR, ↓upd_at, goS, ↓reduceIte, reduceCtorEq, seval, Y])
    (f : p → aC t a σ h Q := by intro x; refine xS ?_; exact x) : aC t (.cond c a b) σ h Q := w_condT hc (f x)
theorem xe {p : Prop} {c : Operand} {a b : Code} (x : p) (hc : evA σ c = .c (.d (.v (.bool false))) := by simp -implicitDefEqProofs only [goR, ↓upd_at, goS, ↓reduceIte, reduceCtorEq, seval, Y])
    (f : p → aC t b σ h Q := by intro x; refine xS ?_; exact x) : aC t (.cond c a b) σ h Q := w_condF hc (f x)
/-! The same, without what follows. -/
theorem xR0 {id : Nat} {ops : Array Oper} {draw : Bool} {σ2 : Nat → AV} {h2 : Hp} (x : Q .normal σ2 h2)
    (hg : (ops.toList.all (guardsOk ops)) = true := by rfl)
    (hr : ∀ K : (Nat → AV) → Hp → Prop, K σ2 h2 → aRO t K (ops.toList.map (roOf ops)) σ h := by
      intro K hK
      simp -implicitDefEqProofs only [goR, ↓upd_at, goS, ↓reduceIte, reduceCtorEq, seval, F]
      repeat' (first | exact hK | (with_reducible apply And.intro) | exact trivial | assumption | omega)) : aC t (.region id ops draw) σ h Q :=
  w_region hg fun K hK => hr K (hK _ _ x)
theorem xr0 {id : Nat} {ops : Array Oper} {draw : Bool} {σ2 : Nat → AV} {h2 : Hp} (x : Q .normal σ2 h2)
    (hg : (ops.toList.all (guardsOk ops)) = true := by rfl)
    (hr : ∀ K : (Nat → AV) → Hp → Prop, K σ2 h2 → aRO t K (ops.toList.map (roOf ops)) σ h := by
      intro K hK
      simp -implicitDefEqProofs only [goR, ↓upd_at, goS, ↓reduceIte, reduceCtorEq, seval, Y]
      repeat' (first | exact hK | (with_reducible apply And.intro) | exact trivial | assumption | omega)) : aC t (.region id ops draw) σ h Q :=
  w_region hg fun K hK => hr K (hK _ _ x)
theorem xT0 {c : Operand} {a b : Code} (x : aC t a σ h Q) (hc : evA σ c = .c (.d (.v (.bool true))) := by simp -implicitDefEqProofs only [goR, ↓upd_at, goS, ↓reduceIte, reduceCtorEq, seval, F]) : aC t (.cond c a b) σ h Q := w_condT hc x
theorem xE0 {c : Operand} {a b : Code} (x : aC t b σ h Q) (hc : evA σ c = .c (.d (.v (.bool false))) := by simp -implicitDefEqProofs only [goR, ↓upd_at, goS, ↓reduceIte, reduceCtorEq, seval, F]) : aC t (.cond c a b) σ h Q := w_condF hc x
theorem xt0 {c : Operand} {a b : Code} (x : aC t a σ h Q) (hc : evA σ c = .c (.d (.v (.bool true))) := by simp -implicitDefEqProofs only [goR, ↓upd_at, goS, ↓reduceIte, reduceCtorEq, seval, Y]) : aC t (.cond c a b) σ h Q := w_condT hc x
theorem xe0 {c : Operand} {a b : Code} (x : aC t b σ h Q) (hc : evA σ c = .c (.d (.v (.bool false))) := by simp -implicitDefEqProofs only [goR, ↓upd_at, goS, ↓reduceIte, reduceCtorEq, seval, Y]) : aC t (.cond c a b) σ h Q := w_condF hc x

/-- Names anew. -/
theorem xK {rt : Bool} {L : List (Nat × AV)} {bs : List (List C)} {ts : List TypeId} (r : Ren) (hb : bs.length = r.ps.length := by rfl) (ht : ts.length = r.qs.length := by rfl)
    (hp : once r.ps = true := by rfl) (hq : once r.qs = true := by rfl)
    (h1 : BWk r h 1 bs := by first | (simp -implicitDefEqProofs only [goW, goR, ↓upd_at, goS, ↓reduceIte, reduceCtorEq, seval, Y]; done) | simp -implicitDefEqProofs only [goW, goR, ↓upd_at, goS, ↓reduceIte, reduceCtorEq, seval, Y, G])
    (h2 : TWk r h (r.ps.length + 1) ts := by first | (simp -implicitDefEqProofs only [goW, goR, ↓upd_at, goS, ↓reduceIte, reduceCtorEq, seval, Y]; done) | simp -implicitDefEqProofs only [goW, goR, ↓upd_at, goS, ↓reduceIte, reduceCtorEq, seval, Y, G])
    (h3 : LWk r σ L := by first | (simp -implicitDefEqProofs only [goW, goR, ↓upd_at, goS, ↓reduceIte, reduceCtorEq, seval, Y]; done) | simp -implicitDefEqProofs only [goW, goR, ↓upd_at, goS, ↓reduceIte, reduceCtorEq, seval, Y, G])
    (hrt : (!rt || r.ps.head? == some 1) = true := by rfl) : Wk rt σ h (sigL L) (hpL bs ts) := wk_ren r hb ht hp rfl hq h1 h2 h3 hrt

/-- What is known, and one thing more. -/
theorem xH {a b c d g : Prop} (F : a) (G : g) (y : b) (h1 : b → c := by intro y; (try (simp -implicitDefEqProofs only [goR, ↓upd_at, goS, ↓reduceIte, reduceCtorEq, seval, Y] at y)); exact y)
    (h2 : b → d := by intro y; (try (simp only [goT] at y)); exact y) : (a ∧ c) ∧ (c ∧ g) ∧ d := ⟨⟨F, h1 y⟩, ⟨h1 y, G⟩, h2 y⟩
theorem xC {a b c : Prop} (F : a) (y : b) (h1 : b → c := by intro y; (try (simp -implicitDefEqProofs only [goR, ↓upd_at, goS, ↓reduceIte, reduceCtorEq, seval, Y] at y)); exact y) : a ∧ c := ⟨F, h1 y⟩
theorem xZ {a b : Prop} (x : a) (y : b) : a ∧ b := ⟨x, y⟩
/-- The way out. -/
theorem xN {p : Prop} (h : p := by first | (simp -implicitDefEqProofs only [goQ, goR, ↓upd_at, goS, ↓reduceIte, reduceCtorEq, seval, Y]; done) | simp -implicitDefEqProofs only [goQ, goR, ↓upd_at, goS, ↓reduceIte, reduceCtorEq, seval, Y, G]) : p := h

/-! ### How arguments are data -/
/-- Different data are different, whatever the sizes of empty slices' elements. -/
class DInj {A : Type} (e : A → D) : Prop where
  s : ∀ a b, strip1 (e a) = strip1 (e b) → a = b
  i : ∀ a b, e a = e b → a = b
instance : DInj dI := ⟨fun a b h => dI_inj a b h, dI_inj⟩
instance : DInj dB := ⟨fun a b h => dB_inj a b h, dB_inj⟩
instance : DInj dS := ⟨fun a b h => dS_inj a b h, dS_inj⟩
instance : DInj dU := ⟨fun a b h => dU_inj a b h, dU_inj⟩
instance {A : Type} {e : A → D} {sz : Nat} [he : DInj e] : DInj (dL sz e) := ⟨fun _ _ h => dL_inj (sz := 0) he.i _ _ h, dL_inj he.i⟩
def dF (n : Nat) : D := .v (.func (.func n) #[] #[])
theorem dF_inj (a b : Nat) (h : dF a = dF b) : a = b := by simpa [dF] using h
instance : DInj dF := ⟨fun a b h => dF_inj a b h, dF_inj⟩
theorem nsplit {R : Type} {n : Nat} (c : Nat) {A B : Option R} {o : Option R} (H : (if n = c then A else B) = o) : (n = c ∧ A = o) ∨ B = o := by
  split at H
  · exact .inl ⟨by assumption, H⟩
  · exact .inr H
class IEnc {A : Type} (enc : A → List D) : Prop where
  inj : Inj enc
def E0 : Unit → List D := fun _ => []
section
variable {A1 A2 A3 A4 A5 A6 A7 A8 : Type}
def E1 (e1 : A1 → D) : A1 → List D := fun a => [e1 a]
def E2 (e1 : A1 → D) (e2 : A2 → D) : A1 × A2 → List D := fun a => [e1 a.1, e2 a.2]
def E3 (e1 : A1 → D) (e2 : A2 → D) (e3 : A3 → D) : A1 × A2 × A3 → List D := fun a => [e1 a.1, e2 a.2.1, e3 a.2.2]
def E4 (e1 : A1 → D) (e2 : A2 → D) (e3 : A3 → D) (e4 : A4 → D) : A1 × A2 × A3 × A4 → List D := fun a => [e1 a.1, e2 a.2.1, e3 a.2.2.1, e4 a.2.2.2]
def E5 (e1 : A1 → D) (e2 : A2 → D) (e3 : A3 → D) (e4 : A4 → D) (e5 : A5 → D) : A1 × A2 × A3 × A4 × A5 → List D := fun a => [e1 a.1, e2 a.2.1, e3 a.2.2.1, e4 a.2.2.2.1, e5 a.2.2.2.2]
def E6 (e1 : A1 → D) (e2 : A2 → D) (e3 : A3 → D) (e4 : A4 → D) (e5 : A5 → D) (e6 : A6 → D) : A1 × A2 × A3 × A4 × A5 × A6 → List D := fun a => [e1 a.1, e2 a.2.1, e3 a.2.2.1, e4 a.2.2.2.1, e5 a.2.2.2.2.1, e6 a.2.2.2.2.2]
instance : IEnc E0 := ⟨fun _ _ _ => rfl⟩
instance {e1 : A1 → D} [h1 : DInj e1] : IEnc (E1 e1) := ⟨fun a b h => by
  simp only [E1, List.map_cons, List.map_nil, List.cons.injEq, and_true] at h
  exact h1.s _ _ h⟩
instance {e1 : A1 → D} {e2 : A2 → D} [h1 : DInj e1] [h2 : DInj e2] : IEnc (E2 e1 e2) := ⟨fun a b h => by
  simp only [E2, List.map_cons, List.map_nil, List.cons.injEq, and_true] at h
  exact Prod.ext (h1.s _ _ h.1) (h2.s _ _ h.2)⟩
instance {e1 : A1 → D} {e2 : A2 → D} {e3 : A3 → D} [h1 : DInj e1] [h2 : DInj e2] [h3 : DInj e3] : IEnc (E3 e1 e2 e3) := ⟨fun a b h => by
  simp only [E3, List.map_cons, List.map_nil, List.cons.injEq, and_true] at h
  exact Prod.ext (h1.s _ _ h.1) (Prod.ext (h2.s _ _ h.2.1) (h3.s _ _ h.2.2))⟩
instance {e1 : A1 → D} {e2 : A2 → D} {e3 : A3 → D} {e4 : A4 → D} [h1 : DInj e1] [h2 : DInj e2] [h3 : DInj e3] [h4 : DInj e4] : IEnc (E4 e1 e2 e3 e4) := ⟨fun a b h => by
  simp only [E4, List.map_cons, List.map_nil, List.cons.injEq, and_true] at h
  exact Prod.ext (h1.s _ _ h.1) (Prod.ext (h2.s _ _ h.2.1) (Prod.ext (h3.s _ _ h.2.2.1) (h4.s _ _ h.2.2.2)))⟩
instance {e1 : A1 → D} {e2 : A2 → D} {e3 : A3 → D} {e4 : A4 → D} {e5 : A5 → D} [h1 : DInj e1] [h2 : DInj e2] [h3 : DInj e3] [h4 : DInj e4] [h5 : DInj e5] : IEnc (E5 e1 e2 e3 e4 e5) := ⟨fun a b h => by
  simp only [E5, List.map_cons, List.map_nil, List.cons.injEq, and_true] at h
  exact Prod.ext (h1.s _ _ h.1) (Prod.ext (h2.s _ _ h.2.1) (Prod.ext (h3.s _ _ h.2.2.1) (Prod.ext (h4.s _ _ h.2.2.2.1) (h5.s _ _ h.2.2.2.2))))⟩
instance {e1 : A1 → D} {e2 : A2 → D} {e3 : A3 → D} {e4 : A4 → D} {e5 : A5 → D} {e6 : A6 → D} [h1 : DInj e1] [h2 : DInj e2] [h3 : DInj e3] [h4 : DInj e4] [h5 : DInj e5] [h6 : DInj e6] : IEnc (E6 e1 e2 e3 e4 e5 e6) := ⟨fun a b h => by
  simp only [E6, List.map_cons, List.map_nil, List.cons.injEq, and_true] at h
  exact Prod.ext (h1.s _ _ h.1) (Prod.ext (h2.s _ _ h.2.1) (Prod.ext (h3.s _ _ h.2.2.1) (Prod.ext (h4.s _ _ h.2.2.2.1) (Prod.ext (h5.s _ _ h.2.2.2.2.1) (h6.s _ _ h.2.2.2.2.2)))))⟩
/-! Results. -/
def T0 : Unit → D := fun _ => .tu []
def T2 (e1 : A1 → D) (e2 : A2 → D) : A1 × A2 → D := fun r => .tu [e1 r.1, e2 r.2]
def T3 (e1 : A1 → D) (e2 : A2 → D) (e3 : A3 → D) : A1 × A2 × A3 → D := fun r => .tu [e1 r.1, e2 r.2.1, e3 r.2.2]
def T4 (e1 : A1 → D) (e2 : A2 → D) (e3 : A3 → D) (e4 : A4 → D) : A1 × A2 × A3 × A4 → D := fun r => .tu [e1 r.1, e2 r.2.1, e3 r.2.2.1, e4 r.2.2.2]
end

/-! ### A function of data, and what callers know of it -/
abbrev PC (pf : PF) (l : List D) (d : D) : Prop := pf.pre l = True ∧ pf.val l = d
theorem PF.c {A R : Type} {enc : A → List D} {f : A → Option R} {e : R → D} [IEnc enc] {a : A} {r : R} (H : f a = some r) : PC (PF.of enc f e) (enc a) (e r) :=
  ⟨PF.of_pre H, PF.of_val IEnc.inj H⟩
theorem PF.cl {A R : Type} {enc : A → List D} {f : A → Option R} {e : R → D} [IEnc enc] {l : List D} {a : A} {r : R} (H : f a = some r) (hl : les1 l (enc a)) : PC (PF.of enc f e) l (e r) :=
  ⟨PF.of_prel hl H, PF.of_vall IEnc.inj hl H⟩
theorem tabOf_keys {P : Program} {l : List (Nat × PF)} {m : List (Nat × MF)} (n : Nat) (hn : (l.map Prod.fst).contains n = true) : ((tabOf P l m).Φ n).isSome := tabOf_pure rfl n hn
theorem tabOfM_keys {P : Program} {l : List (Nat × PF)} {m : List (Nat × MF)} (n : Nat) (hn : (l.map Prod.fst).contains n = true) : ((tabOfM P l m).Φ n).isSome := tabOfM_pure rfl n hn
theorem xF {P : Program} (hm : P.follows .mixedOrders = true) {A R : Type} {enc : A → List D} {f : A → Option R} {e : R → D} [IEnc enc] (l : List (Nat × PF)) (m : List (Nat × MF)) (h1 : AllOk P l) (h2 : AllOkM P m)
    {k : Nat} {fn : Func} {c : Code} (hf : P.funcs[k]? = some fn)
    (h : ∀ a r, f a = some r → aC (tabOf P l m) c (sig0 ((enc a).map fun d => .c (.d d))) hp0 (QRet P fn (e r)))
    (hb : fn.body = some c := by rfl) (hcode : (codeOk (fun n => (l.map Prod.fst).contains n) fn.ntmps c && fn.results.toList.all (resIn fn.ntmps)) = true := by kernel_rfl)
    (hl : ∀ a, (enc a).length ≤ fn.ntmps := by intro a; exact Nat.le_of_ble_eq_true rfl) : PureOk P k (PF.of enc f e) :=
  pure_of (t := tabOf P l m) IEnc.inj rfl (tabOf_ok h1 h2) hm tabOf_keys hf hb hcode hl h

/-! ### Methods -/
class BInj {A : Type} (d : A → D) : Prop where
  b : ∀ a b, (d a).cells.map strip1 = (d b).cells.map strip1 → a = b
noncomputable def MF.on {S A R : Type} (d : S → D) (enc : A → List D) (f : S × A → Option R) (e : R → D) (u : R → List (Nat × D)) : MF := MF.of (fun a : S × A => (d a.1).cells) (fun a : S × A => enc a.2) f e u
theorem on_inj {S A : Type} {d : S → D} {enc : A → List D} [hd : BInj d] [he : IEnc enc] : Inj2 (fun a : S × A => (d a.1).cells) (fun a : S × A => enc a.2) :=
  fun _ _ h1 h2 => Prod.ext (hd.b _ _ h1) (he.inj _ _ h2)
abbrev MC (mf : MF) (row l : List D) (d : D) (u : List (Nat × D)) : Prop := mf.pre row l = True ∧ mf.val row l = d ∧ mf.upd row l = u
theorem MF.c {S A R : Type} {d : S → D} {enc : A → List D} {f : S × A → Option R} {e : R → D} {u : R → List (Nat × D)} [BInj d] [IEnc enc] {s : S} {a : A} {r : R} (H : f (s, a) = some r) : MC (MF.on d enc f e u) (d s).cells (enc a) (e r) (u r) :=
  MF.of_all (encB := fun a : S × A => (d a.1).cells) (encA := fun a : S × A => enc a.2) on_inj (a := (s, a)) (les1_refl _) (les1_refl _) H
theorem MF.cl {S A R : Type} {d : S → D} {enc : A → List D} {f : S × A → Option R} {e : R → D} {u : R → List (Nat × D)} [BInj d] [IEnc enc] {s : S} {a : A} {r : R} {l : List D} (H : f (s, a) = some r) (hl : les1 l (enc a)) : MC (MF.on d enc f e u) (d s).cells l (e r) (u r) :=
  MF.of_all (encB := fun a : S × A => (d a.1).cells) (encA := fun a : S × A => enc a.2) on_inj (a := (s, a)) (les1_refl _) hl H
theorem xM {P : Program} (hm : P.follows .mixedOrders = true) {S A R : Type} {d : S → D} {enc : A → List D} {f : S × A → Option R} {e : R → D} {u : R → List (Nat × D)} [BInj d] [IEnc enc] (l : List (Nat × PF)) (m : List (Nat × MF)) (h1 : AllOk P l) (h2 : AllOkM P m)
    {k : Nat} {fn : Func} {c : Code} (hf : P.funcs[k]? = some fn)
    (h : ∀ s a r, f (s, a) = some r → ∀ xs : List Value, xs.length = (d s).cells.length → aC (tabOfM P l m) c (sig0 (.c (.pt 1 0) :: (enc a).map fun d => .c (.d d))) (hpL [exRow xs (d s).cells] []) (QRetM P fn (e r) (exRow xs (d s).cells) (u r)))
    (hb : fn.body = some c := by rfl) (hcode : (codeOk (fun n => (l.map Prod.fst).contains n) fn.ntmps c && fn.results.toList.all (resIn fn.ntmps)) = true := by kernel_rfl)
    (hl : ∀ a, (enc a).length + 1 ≤ fn.ntmps := by intro a; exact Nat.le_of_ble_eq_true rfl)
    (hu : ∀ (s : S) (r : R), usIn (d s).cells.length (u r)) : MethOk P k (MF.on d enc f e u) :=
  meth_of (t := tabOfM P l m) on_inj rfl (tabOfM_ok h1 h2) hm tabOfM_keys hf hb hcode (fun a => hl a.2) (fun a r => hu a.1 r) (fun a r H xs hx => h a.1 a.2 r H xs hx)

end Go.Proofs.Ytgkacglpjmndbaa
