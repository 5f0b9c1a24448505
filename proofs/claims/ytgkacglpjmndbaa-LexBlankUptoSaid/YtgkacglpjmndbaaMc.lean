/- What the machine makes of operations that leave the heap alone. -/
import Derived.Test.YtgkacglpjmndbaaMb
import Derived.Laws.StructEq
namespace Go.Proofs.Ytgkacglpjmndbaa
open Go.RowKit

abbrev str (l : List UInt8) : Value := .string ⟨l.toArray⟩
def bl (s : ByteArray) : List UInt8 := s.data.toList
@[simp] theorem bl_mk (l : List UInt8) : bl ⟨l.toArray⟩ = l := rfl
theorem str_bl (s : ByteArray) : str (bl s) = .string s := rfl
theorem bl_size (s : ByteArray) : s.size = (bl s).length := (Array.length_toList (xs := s.data)).symm

/-! Tests, behind names: so that what is in them can be rewritten. -/
def eqI (a b : Int) : Bool := decide (a = b)
def ltI (a b : Int) : Bool := decide (a < b)
def leI (a b : Int) : Bool := decide (a ≤ b)
def eqS (a b : List UInt8) : Bool := decide (a = b)
def eqB (a b : Bool) : Bool := decide (a = b)
theorem eqI_true (a b : Int) : (eqI a b = true) = (a = b) := by simp [eqI]
theorem eqI_false (a b : Int) : (eqI a b = false) = ¬ (a = b) := by simp [eqI]
theorem ltI_true (a b : Int) : (ltI a b = true) = (a < b) := by simp [ltI]
theorem ltI_false (a b : Int) : (ltI a b = false) = ¬ (a < b) := by simp [ltI]
theorem leI_true (a b : Int) : (leI a b = true) = (a ≤ b) := by simp [leI]
theorem leI_false (a b : Int) : (leI a b = false) = ¬ (a ≤ b) := by simp [leI]
theorem eqS_true (a b : List UInt8) : (eqS a b = true) = (a = b) := by simp [eqS]
theorem eqS_false (a b : List UInt8) : (eqS a b = false) = ¬ (a = b) := by simp [eqS]
theorem eqB_true (a b : Bool) : (eqB a b = true) = (a = b) := by simp [eqB]
theorem eqB_false (a b : Bool) : (eqB a b = false) = ¬ (a = b) := by simp [eqB]
theorem eqI_self (a : Int) : eqI a a = true := by simp [eqI]
theorem eqS_self (a : List UInt8) : eqS a a = true := by simp [eqS]

/-- Two scalars' value, and what it takes. -/
def abin (P : Program) (op : BinOp) (t : TypeId) : Value → Value → Prop × Value
  | .int k a, .int k' b =>
    match op with
    | .add => (k = k', .int k (k.wrap (a + b)))
    | .sub => (k = k', .int k (k.wrap (a - b)))
    | .mul => (k = k', .int k (k.wrap (a * b)))
    | .eql => (k = k', .bool (eqI a b))
    | .neq => (k = k', .bool (!eqI a b))
    | .lss => (k = k', .bool (ltI a b))
    | .leq => (k = k', .bool (leI a b))
    | .gtr => (k = k', .bool (ltI b a))
    | .geq => (k = k', .bool (leI b a))
    | .quo => (k = k' ∧ b ≠ 0, .int k (k.wrap (a.tdiv b)))
    | .rem => (k = k' ∧ b ≠ 0, .int k (a.tmod b))
    | .shr => (0 ≤ b, .int k (a.fdiv (2 ^ (min b.toNat k.bits))))
    | .shl => (0 ≤ b, .int k (k.wrap (a * 2 ^ (min b.toNat k.bits))))
    | .and => (k = k', .int k (k.wrap ((BitVec.ofInt k.bits a) &&& (BitVec.ofInt k.bits b)).toNat))
    | .or => (k = k', .int k (k.wrap ((BitVec.ofInt k.bits a) ||| (BitVec.ofInt k.bits b)).toNat))
    | .xor => (k = k', .int k (k.wrap ((BitVec.ofInt k.bits a) ^^^ (BitVec.ofInt k.bits b)).toNat))
    | _ => (False, undef)
  | .string x, .string y =>
    match op with
    | .add => ((bl x).length + (bl y).length ≤ 9223372036854775807, str (bl x ++ bl y))
    | .eql => (True, .bool (eqS (bl x) (bl y)))
    | .neq => (True, .bool (!eqS (bl x) (bl y)))
    | .lss => (True, .bool (Op.bytesLess (bl x) (bl y)))
    | .leq => (True, .bool (Op.bytesLess (bl x) (bl y) || eqS (bl x) (bl y)))
    | .gtr => (True, .bool (!(Op.bytesLess (bl x) (bl y) || eqS (bl x) (bl y))))
    | .geq => (True, .bool (!Op.bytesLess (bl x) (bl y)))
    | _ => (False, undef)
  | .bool a, .bool b =>
    match op with
    | .eql => (P.underlying t = some .bool, .bool (eqB a b))
    | .neq => (P.underlying t = some .bool, .bool (!eqB a b))
    | _ => (False, undef)
  | _, _ => (False, undef)

theorem run_eqGuard_plain (P : Program) (op : BinOp) (t : TypeId) (x y : Operand) (a b : Value) (w : World) (h1 : ∀ c, a ≠ .agg c) (h2 : a ≠ .nilIface) :
    (eqGuard op t x y a b).run P w = .ok () w := by
  unfold eqGuard
  cases op <;> simp [Sem.run_bind] <;> (cases a <;> first | (exfalso; exact h1 _ rfl) | (exfalso; exact h2 rfl) | simp [Sem.run_pure])

theorem Bool.dec_eq (a b : Bool) : (a == b) = decide (a = b) := by cases a <;> cases b <;> rfl

theorem abin_bool (P : Program) (op : BinOp) (t : TypeId) (a b : Bool) (w : World) (h : (abin P op t (.bool a) (.bool b)).1) :
    (binOp op t (.bool a) (.bool b)).run P w = .ok (abin P op t (.bool a) (.bool b)).2 w := by
  cases op <;> simp only [abin] at h ⊢ <;>
    first | (exact h.elim) | (simp only [Go.binOp, Sem.run_bind, run_equal_bool _ _ _ _ h, Result.andThen_ok, Sem.run_pure, Bool.dec_eq, eqB])

theorem abin_int (P : Program) (op : BinOp) (t : TypeId) (k k' : IntKind) (a b : Int) (w : World) (h : (abin P op t (.int k a) (.int k' b)).1) :
    (binOp op t (.int k a) (.int k' b)).run P w = .ok (abin P op t (.int k a) (.int k' b)).2 w := by
  cases op <;> simp only [abin] at h ⊢ <;> (try exact h.elim) <;> (try obtain ⟨h, h2⟩ := h) <;> (try subst h) <;>
    simp only [Go.binOp, ne_eq, not_true_eq_false, if_false, eqI, ltI, leI, Op.intArith, Op.intCmp, Op.intBits, Op.intDiv, Op.shift, Sem.run_pure]
  all_goals first
    | rfl
    | (rw [if_neg h2]; rfl)
    | (rw [if_neg (by omega)]; rfl)
    | (by_cases hab : a = b <;> simp [hab])

theorem abin_str (P : Program) (op : BinOp) (t : TypeId) (a b : ByteArray) (w : World) (h : (abin P op t (.string a) (.string b)).1) :
    (binOp op t (.string a) (.string b)).run P w = .ok (abin P op t (.string a) (.string b)).2 w := by
  have hl : (bl a == bl b) = decide (bl a = bl b) := by by_cases hab : bl a = bl b <;> simp [hab]
  have ha : a.toList = bl a := ByteArray.toList_eq a
  have hb : b.toList = bl b := ByteArray.toList_eq b
  cases op <;> simp only [abin] at h ⊢ <;> (try exact h.elim) <;> simp only [Go.binOp, Op.stringOp, ha, hb, hl, eqS, Sem.run_pure]
  · have hm : IntKind.i64.max = 9223372036854775807 := rfl
    rw [bl_size, bl_size, hm, if_neg (by omega), Sem.run_pure]
    have : a ++ b = ⟨(bl a ++ bl b).toArray⟩ := by
      apply ByteArray.ext
      simp [bl, ByteArray.data_append]
    rw [this]

theorem abin_run (P : Program) (op : BinOp) (t : TypeId) (x y : Operand) (a b : Value) (w : World) (h : (abin P op t a b).1) :
    (do eqGuard op t x y a b; binOp op t a b).run P w = .ok (abin P op t a b).2 w := by
  cases a <;> try (exact h.elim)
  all_goals cases b <;> try (exact h.elim)
  all_goals rw [Sem.run_bind, run_eqGuard_plain _ _ _ _ _ _ _ _ (by simp) (by simp), Result.andThen_ok]
  · exact abin_bool _ _ _ _ _ _ h
  · exact abin_int _ _ _ _ _ _ _ _ h
  · exact abin_str _ _ _ _ _ _ h

def aun (op : UnOp) : Value → Prop × Value
  | .bool b => match op with
    | .not => (True, .bool (!b))
    | _ => (False, undef)
  | .int k n => match op with
    | .neg => (True, .int k (k.wrap (0 - n)))
    | _ => (False, undef)
  | _ => (False, undef)

theorem aun_run (P : Program) (op : UnOp) (a : Value) (w : World) (h : (aun op a).1) : (Op.unary op a).run P w = .ok (aun op a).2 w := by
  cases a <;> try (exact h.elim)
  all_goals cases op <;> first | (exact h.elim) | rfl

/-! What types are like. -/
def tAgg (P : Program) (t : TypeId) : Bool := match P.underlying t with | some (.struct _) | some (.array _ _) => true | _ => false
def tOff (P : Program) (s : TypeId) (f : Nat) : Nat := match P.underlying s with | some (.struct fs) => ((fs[f]?).map (·.offset)).getD 0 | _ => 0
def tFld (P : Program) (s : TypeId) (f : Nat) : TypeId := match P.underlying s with | some (.struct fs) => ((fs[f]?).map (·.type)).getD 0 | _ => 0
def tElem (P : Program) (t : TypeId) : TypeId := match P.underlying t with | some (.slice e) => e | _ => 0
def tStruct (P : Program) (s : TypeId) (f : Nat) : Bool := match P.underlying s with | some (.struct fs) => (fs[f]?).isSome && tSize P (((fs[f]?).map (·.type)).getD 0) != 0 && (P.underlying (((fs[f]?).map (·.type)).getD 0)).isSome && (P.info? (((fs[f]?).map (·.type)).getD 0)).isSome | _ => false
def tSlice (P : Program) (t : TypeId) : Bool := match P.underlying t with | some (.slice e) => (P.info? e).isSome && (P.underlying e).isSome | _ => false
def tKnown (P : Program) (t : TypeId) : Bool := (P.info? t).isSome && (P.underlying t).isSome

theorem run_sizeOf (P : Program) (t : TypeId) (w : World) (h : tKnown P t = true) : (sizeOf t).run P w = .ok (tSize P t) w := by
  simp only [tKnown, Bool.and_eq_true, Option.isSome_iff_exists] at h
  obtain ⟨⟨i, hi⟩, _⟩ := h
  simp [sizeOf, typeInfo, tSize, hi]

theorem run_isAgg (P : Program) (t : TypeId) (w : World) (h : tKnown P t = true) : (isAgg t).run P w = .ok (tAgg P t) w := by
  simp only [tKnown, Bool.and_eq_true, Option.isSome_iff_exists] at h
  obtain ⟨_, ⟨d, hd⟩⟩ := h
  cases d <;> simp [isAgg, underlying, tAgg, hd]

/-- A slice's data. -/
def slD : AV → Option (Nat × List D)
  | .c (.d (.sl sz l)) => some (sz, l)
  | .c (.sl sz l _) => some (sz, l)
  | .c (.ex _ (.sl sz l)) => some (sz, l)
  | _ => none

theorem RA.slD {e : Env} {x : AV} {v : Value} {sz : Nat} {l : List D} (h : RA e x v) (hs : slD x = some (sz, l)) : R1 e.w e.S (.sl sz l) v := by
  unfold Proofs.Ytgkacglpjmndbaa.slD at hs
  split at hs
  · simp at hs; obtain ⟨rfl, rfl⟩ := hs; exact h
  · simp at hs; obtain ⟨rfl, rfl⟩ := hs; exact h.1
  · simp at hs; obtain ⟨rfl, rfl⟩ := hs; exact h.2
  · simp at hs

theorem R1.slInv {w : World} {S : Nat → Nat → Prop} {sz : Nat} {l : List D} {v : Value} (h : R1 w S (.sl sz l) v) :
    (l = [] ∧ ∃ o, v = .slice o 0 0) ∨ ∃ vs b o cap, v = .slice (some ⟨b, o, none⟩) l.length cap ∧ Rn w S (l.flatMap D.cells) vs ∧
      (∀ i x, vs[i]? = some x → w.cell? ⟨b, o + i, none⟩ = some x ∧ ¬ S b (o + i)) ∧ (∀ d ∈ l, d.cells.length = sz) ∧ l.length ≤ cap := by
  cases h with
  | slnil _ o => exact .inl ⟨rfl, o, rfl⟩
  | sl _ _ vs b o cap h1 h2 h3 h4 => exact .inr ⟨vs, b, o, cap, rfl, h1, h2, h3, h4⟩

theorem R1.vInv {w : World} {S : Nat → Nat → Prop} {x v : Value} (h : R1 w S (.v x) v) : v = x := by cases h; rfl
theorem R1.tuInv {w : World} {S : Nat → Nat → Prop} {l : List D} {v : Value} (h : R1 w S (.tu l) v) : ∃ vs, v = .tuple ⟨vs⟩ ∧ Rn w S l vs := by
  cases h with | tu _ vs h => exact ⟨vs, rfl, h⟩
theorem R1.agInv {w : World} {S : Nat → Nat → Prop} {l : List D} {v : Value} (h : R1 w S (.ag l) v) : ∃ vs, v = .agg ⟨vs⟩ ∧ Rn w S l vs := by
  cases h with | ag _ vs h => exact ⟨vs, rfl, h⟩

/-- An operation that only reckons. -/
theorem VR.of_run {Γ : Ctx} {o : Oper} {σ : Nat → AV} {h : Hp} {av : AV}
    (hr : ∀ a e, OpndOk o σ a e → WInv Γ h e → ∃ v, (execOp a.eval o).run Γ.P e.w = .ok (.value v) e.w ∧ RA e av v) : VR Γ o σ h av h := by
  intro a e ho hw K Q hk
  obtain ⟨v, h1, h2⟩ := hr a e ho hw
  unfold Oper.wp
  rw [h1]
  exact hk v e hw (Env.le.refl e) h2

structure AR where
  pre : Prop
  val : AV
  h : Hp

def AR.bad (h : Hp) : AR := ⟨False, .c (.d (.v undef)), h⟩

/-- A pick: the first, or the second. -/
def aPick (σ : Nat → AV) (h : Hp) (c x y : Operand) : AR :=
  match evA σ c with
  | .c (.d (.v (.bool p))) => ⟨True, if p then evA σ x else evA σ y, h⟩
  | _ => .bad h

theorem vr_pick {Γ : Ctx} {σ : Nat → AV} {h : Hp} (o : Oper) (c x y : Operand) (ho : o.op = .pick c x y) (hp : (aPick σ h c x y).pre) :
    VR Γ o σ h (aPick σ h c x y).val (aPick σ h c x y).h := by
  unfold aPick at *
  split at hp
  · rename_i p hc
    refine VR.of_run fun a e hop hw => ?_
    have h1 := hop c (by simp [ho, Op.operands])
    have h2 := hop x (by simp [ho, Op.operands])
    have h3 := hop y (by simp [ho, Op.operands])
    rw [hc] at h1
    have h1 := R1.vInv h1
    refine ⟨if p then a.eval x else a.eval y, ?_, ?_⟩
    · simp [execOp, ho, h1, asBool]
    · cases p <;> simpa using by assumption
  · exact hp.elim

theorem vr_move {Γ : Ctx} {σ : Nat → AV} {h : Hp} (o : Oper) (x : Operand) (ho : o.op = .move x ∨ o.op = .assign x) : VR Γ o σ h (evA σ x) h := by
  refine VR.of_run fun a e hop hw => ⟨a.eval x, ?_, hop x ?_⟩
  · rcases ho with ho | ho <;> simp [execOp, ho]
  · rcases ho with ho | ho <;> simp [ho, Op.operands]

/-! Structs of plain fields: whether they are equal. -/
def eqV : Value → Value → Prop × Bool
  | .int k a, .int k' b => (k = k', eqI a b)
  | .string a, .string b => (True, eqS (bl a) (bl b))
  | .bool a, .bool b => (True, eqB a b)
  | _, _ => (False, false)
def eqVs : List Value → List Value → Prop × Bool
  | [a], [b] => eqV a b
  | a :: l, b :: m => ((eqV a b).1 ∧ (eqVs l m).1, (eqV a b).2 && (eqVs l m).2)
  | _, _ => (False, false)
def tScal (P : Program) (t : TypeId) : Bool := match P.underlying t with | some (.int _) | some .string | some .bool => (P.info? t).isSome | _ => false
def tFlatAt (P : Program) : Nat → List Field → Bool
  | _, [] => true
  | n, f :: fs => f.name != "_" && f.offset == n && tScal P f.type && tFlatAt P (n + 1) fs
def tFlat (P : Program) (t : TypeId) : Bool := match P.underlying t with | some (.struct fs) => !fs.toList.isEmpty && tFlatAt P 0 fs.toList && !P.stoodInHeld t && !P.eqGuardType P.depth t && (P.info? t).isSome | _ => false

/-- Whether a value is one of a plain type. -/
def okV (P : Program) (t : TypeId) (a : Value) : Prop := match a, P.underlying t with | .int _ _, some (.int _) => True | .string _, some .string => True | .bool _, some .bool => True | _, _ => False
def fitV : Value → TypeDesc → Prop
  | .int _ _, .int _ => True
  | .string _, .string => True
  | .bool _, .bool => True
  | _, _ => False
theorem okV_ex {P : Program} {t : TypeId} {a : Value} (h : okV P t a) : ∃ D, P.underlying t = some D ∧ fitV a D := by
  unfold okV at h
  cases hu : P.underlying t with
  | none => rw [hu] at h; cases a <;> exact h.elim
  | some D => rw [hu] at h; refine ⟨D, rfl, ?_⟩; cases a <;> cases D <;> first | trivial | exact h.elim
theorem run_equalIn_eqV {P : Program} (d : Nat) (t : TypeId) (a b : Value) (w : World) (h : (eqV a b).1) (hok : okV P t a) :
    (Op.equalIn (d + 1) t a b).run P w = .ok (eqV a b).2 w := by
  obtain ⟨D, hD, hm⟩ := okV_ex hok
  clear hok
  cases a <;> cases b <;> simp only [eqV] at h ⊢ <;> try (exact h.elim)
  · cases D <;> try (exact hm.elim)
    simp only [Op.equalIn, Sem.run_bind, run_underlying hD, Result.andThen_ok, Sem.run_pure, Bool.dec_eq, eqB]
  · cases D <;> try (exact hm.elim)
    subst h
    simp only [Op.equalIn, Sem.run_bind, run_underlying hD, Result.andThen_ok, Sem.run_pure, if_true, eqI]
    congr 1
  · rename_i x y
    cases D <;> try (exact hm.elim)
    have ha : x.toList = bl x := ByteArray.toList_eq x
    have hb : y.toList = bl y := ByteArray.toList_eq y
    have hl : (bl x == bl y) = decide (bl x = bl y) := by by_cases hab : bl x = bl y <;> simp [hab]
    simp only [Op.equalIn, Sem.run_bind, run_underlying hD, Result.andThen_ok, Sem.run_pure, eqS, beq_toListBytes, ha, hb, hl]

def okVs (P : Program) : List Field → List Value → Prop
  | [], [] => True
  | f :: fs, a :: l => okV P f.type a ∧ okVs P fs l
  | _, _ => False

def kindV : Value → Nat
  | .int _ _ => 1
  | .string _ => 2
  | .bool _ => 3
  | _ => 0
def kindT : Option TypeDesc → Nat
  | some (.int _) => 1
  | some .string => 2
  | some .bool => 3
  | _ => 4
theorem okV_of {P : Program} {t : TypeId} {a : Value} (h : kindV a = kindT (P.underlying t)) : okV P t a := by
  unfold okV
  cases hu : P.underlying t with
  | none => rw [hu] at h; cases a <;> simp [kindV, kindT] at h
  | some D => rw [hu] at h; cases a <;> cases D <;> simp_all [kindV, kindT]
theorem okVs_of {P : Program} : ∀ {fs : List Field} {as : List Value}, as.map kindV = fs.map (fun f => kindT (P.underlying f.type)) → okVs P fs as
  | [], [], _ => trivial
  | [], _ :: _, h => by simp at h
  | _ :: _, [], h => by simp at h
  | f :: fs, a :: as, h => by
    simp only [List.map_cons, List.cons.injEq] at h
    exact ⟨okV_of h.1, okVs_of h.2⟩
theorem run_part_scal {P : Program} {t : TypeId} {xs : Array Value} {n : Nat} {v : Value} (w : World) (ht : tScal P t = true) (hx : xs[n]? = some v) : (part t xs n).run P w = .ok v w := by
  unfold tScal at ht
  cases hu : P.underlying t with
  | none => rw [hu] at ht; simp at ht
  | some D =>
    rw [hu] at ht
    have hi : (isAgg t).run P w = .ok false w := by
      cases D <;> first | (simp at ht; done) | simp [isAgg, underlying, hu]
    unfold part
    simp only [Sem.run_bind, hi, Result.andThen_ok, Bool.false_eq_true, if_false, hx, Sem.run_pure]

theorem run_eqFields_eqVs {P : Program} (d : Nat) (xs ys : Array Value) (w : World) : ∀ (fs : List Field) (n : Nat) (as bs : List Value), tFlatAt P n fs = true → fs ≠ [] → (∀ i : Nat, i < as.length → xs[n + i]? = as[i]?) → (∀ i : Nat, i < bs.length → ys[n + i]? = bs[i]?) →
    okVs P fs as → (eqVs as bs).1 → (Op.eqFields (d + 1) xs ys fs).run P w = .ok (eqVs as bs).2 w
  | [], _, _, _, _, h, _, _, _, _ => absurd rfl h
  | f :: fs, n, as, bs, hf, _, hx, hy, hok, he => by
    simp only [tFlatAt, Bool.and_eq_true, bne_iff_ne, ne_eq, beq_iff_eq] at hf
    obtain ⟨⟨⟨h1, h2⟩, h3⟩, h4⟩ := hf
    match as, bs, hok, he with
    | _ :: _, [], _, he => simp [eqVs] at he
    | a :: as, b :: bs, hok, he =>
      have e1 := run_part_scal (P := P) w h3 (xs := xs) (n := n) (v := a) (by simpa using hx 0 (by simp))
      have e2 := run_part_scal (P := P) w h3 (xs := ys) (n := n) (v := b) (by simpa using hy 0 (by simp))
      have hab : (eqV a b).1 := by
        cases as <;> cases bs <;> simp only [eqVs] at he
        · exact he
        · exact he.1
        · exact he.1
        · exact he.1
      have e3 := run_equalIn_eqV (P := P) d f.type a b w hab hok.1
      simp only [Op.eqFields, h1, ne_eq, not_false_eq_true, if_true, Sem.run_bind, h2, e1, e2, e3, Result.andThen_ok]
      cases hfs : fs with
      | nil =>
        subst hfs
        have hasn : as = [] := by cases as with | nil => rfl | cons _ _ => exact hok.2.elim
        subst hasn
        cases bs with
        | nil => simp only [eqVs]; cases (eqV a b).2 <;> simp [Op.eqFields]
        | cons _ _ => simp [eqVs] at he
      | cons g gs =>
        rw [← hfs]
        have hne : fs ≠ [] := by rw [hfs]; simp
        cases as with
        | nil => rw [hfs] at hok; exact hok.2.elim
        | cons a' as' =>
          cases bs with
          | nil => simp [eqVs] at he
          | cons b' bs' =>
            have ih := run_eqFields_eqVs d xs ys w fs (n + 1) (a' :: as') (b' :: bs') h4 hne (fun i hi => by have := hx (i + 1) (by simp at hi ⊢; omega); rw [show n + (i + 1) = n + 1 + i by omega] at this; simpa using this) (fun i hi => by have := hy (i + 1) (by simp at hi ⊢; omega); rw [show n + (i + 1) = n + 1 + i by omega] at this; simpa using this) hok.2 (by
              have := he
              simp only [eqVs] at this
              exact this.2)
            have hv : (eqVs (a :: a' :: as') (b :: b' :: bs')).2 = ((eqV a b).2 && (eqVs (a' :: as') (b' :: bs')).2) := by
              simp [eqVs]
            rw [hv]
            cases (eqV a b).2
            · simp
            · simpa using ih

def exV : C → Option Value
  | .d (.v x) => some x
  | _ => none
def exVs : List C → Option (List Value)
  | [] => some []
  | c :: l => match exV c, exVs l with | some v, some vs => some (v :: vs) | _, _ => none
def agV : AV → Option (List Value)
  | .ag l => exVs l
  | .c (.d (.ag l)) => exVs (l.map .d)
  | _ => none
theorem exVs_rep {e : Env} : ∀ {l : List C} {vs us : List Value}, exVs l = some us → RCs e l vs → vs = us
  | [], [], us, h, _ => by simp [exVs] at h; exact h.symm
  | c :: l, v :: vs, us, h, ⟨h1, h2⟩ => by
    simp only [exVs] at h
    split at h
    · rename_i x xs hx hxs
      simp at h; subst h
      have := exVs_rep hxs h2
      subst this
      unfold exV at hx
      split at hx
      · simp at hx; subst hx
        have := R1.vInv h1
        subst this; rfl
      · cases hx
    · cases h
theorem agV_rep {e : Env} {a : AV} {v : Value} {us : List Value} (h : agV a = some us) (k : RA e a v) : v = .agg ⟨us⟩ := by
  unfold agV at h
  split at h
  · obtain ⟨vs, rfl, k2⟩ := k
    rw [exVs_rep h k2]
  · obtain ⟨vs, rfl, k2⟩ := R1.agInv k
    rw [exVs_rep h (RCs.ofD k2)]
  · cases h

def flds (P : Program) (t : TypeId) : List Field := match P.underlying t with | some (.struct fs) => fs.toList | _ => []
def tKinds (P : Program) (t : TypeId) : List Nat := (flds P t).map fun f => kindT (P.underlying f.type)
def aBinAg (P : Program) (h : Hp) (op : BinOp) (t : TypeId) (x y : AV) : AR :=
  match op, agV x, agV y with
  | .eql, some as, some bs => ⟨tFlat P t = true ∧ as.map kindV = tKinds P t ∧ (eqVs as bs).1, .c (.d (.v (.bool (eqVs as bs).2))), h⟩
  | .neq, some as, some bs => ⟨tFlat P t = true ∧ as.map kindV = tKinds P t ∧ (eqVs as bs).1, .c (.d (.v (.bool (!(eqVs as bs).2)))), h⟩
  | _, _, _ => .bad h

theorem run_binAg {P : Program} {t : TypeId} (as bs : List Value) (w : World) (h1 : tFlat P t = true) (h2 : as.map kindV = tKinds P t) (h4 : (eqVs as bs).1) (xo yo : Operand) :
    (do eqGuard .eql t xo yo (.agg ⟨as⟩) (.agg ⟨bs⟩); binOp .eql t (.agg ⟨as⟩) (.agg ⟨bs⟩)).run P w = .ok (.bool (eqVs as bs).2) w ∧
    (do eqGuard .neq t xo yo (.agg ⟨as⟩) (.agg ⟨bs⟩); binOp .neq t (.agg ⟨as⟩) (.agg ⟨bs⟩)).run P w = .ok (.bool (!(eqVs as bs).2)) w := by
  have h2 := okVs_of (P := P) (fs := flds P t) h2
  unfold tFlat at h1
  unfold flds at h2
  cases hu : P.underlying t with
  | none => rw [hu] at h1; cases h1
  | some D =>
    rw [hu] at h1 h2
    cases D with
    | struct fs =>
      simp only [Bool.and_eq_true, Bool.not_eq_true'] at h1
      obtain ⟨⟨⟨⟨g0, g1⟩, g2⟩, g3⟩, _⟩ := h1
      have h3 : fs.toList ≠ [] := by simpa using g0
      have hfs : P.fieldsOf t = fs := by simp [Program.fieldsOf, hu]
      have e1 : (Op.equal t (.agg ⟨as⟩) (.agg ⟨bs⟩)).run P w = .ok (eqVs as bs).2 w := by
        show (Op.equalIn (9999 + 1) t _ _).run P w = _
        rw [run_equalIn_struct w 9999 t _ _ (by rw [hfs]; exact hu) g2, hfs]
        exact run_eqFields_eqVs 9998 _ _ w fs.toList 0 as bs g1 h3 (fun i hi => by simp) (fun i hi => by simp) h2 h4
      constructor <;> simp [eqGuard, Sem.run_bind, run_program, g3, Go.binOp, e1]
    | _ => simp at h1

def aBin (P : Program) (σ : Nat → AV) (h : Hp) (op : BinOp) (t : TypeId) (x y : Operand) : AR :=
  match evA σ x, evA σ y with
  | .c (.d (.v a)), .c (.d (.v b)) => ⟨(abin P op t a b).1, .c (.d (.v (abin P op t a b).2)), h⟩
  | a, b => aBinAg P h op t a b

theorem vr_bin {Γ : Ctx} {σ : Nat → AV} {h : Hp} (o : Oper) (op : BinOp) (t : TypeId) (x y : Operand) (yt : TypeId) (ho : o.op = .binOp op t x y yt) (hp : (aBin Γ.P σ h op t x y).pre) :
    VR Γ o σ h (aBin Γ.P σ h op t x y).val (aBin Γ.P σ h op t x y).h := by
  unfold aBin at *
  split at hp
  · rename_i u v hx hy
    refine VR.of_run fun a e hop hw => ⟨_, ?_, .v _⟩
    have h1 := hop x (by simp [ho, Op.operands])
    have h2 := hop y (by simp [ho, Op.operands])
    rw [hx] at h1; rw [hy] at h2
    have h1 := R1.vInv h1
    have h2 := R1.vInv h2
    have := abin_run Γ.P op t x y u v e.w hp
    simp only [execOp, ho, h1, h2]
    rw [Sem.run_bind, this]
    rfl
  · unfold aBinAg at hp ⊢
    split at hp
    · rename_i as bs ha hb
      refine VR.of_run fun a e hop hw => ⟨_, ?_, .v _⟩
      have h1 := agV_rep ha (hop x (by simp [ho, Op.operands]))
      have h2 := agV_rep hb (hop y (by simp [ho, Op.operands]))
      have := (run_binAg as bs e.w hp.1 hp.2.1 hp.2.2 x y).1
      simp only [execOp, ho, h1, h2]
      rw [Sem.run_bind, this]
      rfl
    · rename_i as bs ha hb
      refine VR.of_run fun a e hop hw => ⟨_, ?_, .v _⟩
      have h1 := agV_rep ha (hop x (by simp [ho, Op.operands]))
      have h2 := agV_rep hb (hop y (by simp [ho, Op.operands]))
      have := (run_binAg as bs e.w hp.1 hp.2.1 hp.2.2 x y).2
      simp only [execOp, ho, h1, h2]
      rw [Sem.run_bind, this]
      rfl
    · exact hp.elim

def aUn (σ : Nat → AV) (h : Hp) (op : UnOp) (x : Operand) : AR :=
  match evA σ x with
  | .c (.d (.v a)) => ⟨(aun op a).1, .c (.d (.v (aun op a).2)), h⟩
  | _ => .bad h

theorem vr_un {Γ : Ctx} {σ : Nat → AV} {h : Hp} (o : Oper) (op : UnOp) (t : TypeId) (x : Operand) (ho : o.op = .unOp op t x) (hp : (aUn σ h op x).pre) :
    VR Γ o σ h (aUn σ h op x).val (aUn σ h op x).h := by
  unfold aUn at *
  split at hp
  · rename_i u hx
    refine VR.of_run fun a e hop hw => ⟨_, ?_, .v _⟩
    have h1 := hop x (by simp [ho, Op.operands])
    rw [hx] at h1
    have h1 := R1.vInv h1
    simp only [execOp, ho, h1]
    rw [Sem.run_bind, aun_run _ _ _ _ hp]
    rfl
  · exact hp.elim

/-- A field's address. -/
def aFieldAddr (P : Program) (σ : Nat → AV) (h : Hp) (s : TypeId) (x : Operand) (f : Nat) : AR :=
  match evA σ x with
  | .c (.pt n off) => ⟨tStruct P s f = true, .c (.pt n (off + tOff P s f)), h⟩
  | .c (.pp l) => ⟨tStruct P s f = true, .c (.pp (l.drop (tOff P s f))), h⟩
  | .c (.pa n sz i off) => ⟨tStruct P s f = true, .c (.pa n sz i (off + tOff P s f)), h⟩
  | _ => .bad h

theorem run_fieldAt {P : Program} {s : TypeId} {f : Nat} (h : tStruct P s f = true) (b o : Nat) (w : World) :
    (Instr.fieldAt s (.pointer (some ⟨b, o, none⟩)) f).run P w = .ok (.pointer (some ⟨b, o + tOff P s f, none⟩)) w := by
  unfold tStruct at h
  split at h
  · rename_i fs hu
    simp only [Bool.and_eq_true, Option.isSome_iff_exists, bne_iff_ne, ne_eq] at h
    obtain ⟨⟨⟨⟨fd, hf⟩, hz⟩, ⟨d, hd⟩⟩, ⟨i, hi⟩⟩ := h
    simp only [hf, Option.map_some, Option.getD_some] at hz hd hi
    have hs := run_sizeOf P fd.type w (by simp [tKnown, hi, hd])
    simp only [Instr.fieldAt, Sem.run_bind, run_underlying hu, Result.andThen_ok, hf, Instr.sureAddr, fieldPlace, hs, hz, if_false, Sem.run_pure, tOff, hu, Option.map_some, Option.getD_some]
    simp only [Addr.add]
    split <;> simp_all
  · simp at h

theorem vr_fieldAddr {Γ : Ctx} {σ : Nat → AV} {h : Hp} (o : Oper) (s : TypeId) (x : Operand) (f : Nat) (ho : o.op = .fieldAddr s x f) (hp : (aFieldAddr Γ.P σ h s x f).pre) :
    VR Γ o σ h (aFieldAddr Γ.P σ h s x f).val (aFieldAddr Γ.P σ h s x f).h := by
  unfold aFieldAddr at *
  split at hp
  · rename_i n off hx
    refine VR.of_run fun a e hop hw => ?_
    have h1 := hop x (by simp [ho, Op.operands])
    rw [hx] at h1
    obtain ⟨b, h2, h3⟩ := h1
    refine ⟨_, ?_, b, h2, rfl⟩
    simp only [execOp, ho, h3]
    rw [Sem.run_bind, run_fieldAt hp]
    rfl
  · rename_i l hx
    refine VR.of_run fun a e hop hw => ?_
    have h1 := hop x (by simp [ho, Op.operands])
    rw [hx] at h1
    obtain ⟨b, of, vs, h2, h3, h4⟩ := h1
    refine ⟨_, ?_, b, of + tOff Γ.P s f, vs.drop (tOff Γ.P s f), rfl, h3.drop _, fun i y hy => ?_⟩
    · simp only [execOp, ho, h2]
      rw [Sem.run_bind, run_fieldAt hp]
      rfl
    · have := h4 (tOff Γ.P s f + i) y (by simpa using hy)
      simpa [Nat.add_assoc] using this
  · rename_i n sz i off hx
    refine VR.of_run fun a e hop hw => ?_
    have h1 := hop x (by simp [ho, Op.operands])
    rw [hx] at h1
    obtain ⟨b, h2, h3⟩ := h1
    refine ⟨_, ?_, b, h2, rfl⟩
    simp only [execOp, ho, h3]
    rw [Sem.run_bind, run_fieldAt hp, Nat.add_assoc]
    rfl
  · exact hp.elim

end Go.Proofs.Ytgkacglpjmndbaa
