/- More operations that leave the heap alone: reads. -/
import Derived.Test.YtgkacglpjmndbaaMc
namespace Go.Proofs.Ytgkacglpjmndbaa
open Go.RowKit

/-- An element's address. -/
def aIndexAddr (P : Program) (σ : Nat → AV) (h : Hp) (t : TypeId) (x ix : Operand) : AR :=
  match slD (evA σ x), evA σ ix with
  | some (sz, l), .c (.d (.v (.int _ i))) => ⟨tSlice P t = true ∧ sz = tSize P (tElem P t) ∧ 0 ≤ i ∧ i.toNat < l.length, .c (.pp (l.getD i.toNat default).cells), h⟩
  | none, .c (.d (.v (.int _ i))) => match evA σ x with
    | .c (.os n sz len) => ⟨tSlice P t = true ∧ sz = tSize P (tElem P t) ∧ 0 ≤ i ∧ i.toNat < len, .c (.pa n sz i.toNat 0), h⟩
    | _ => .bad h
  | _, _ => .bad h

theorem vr_indexAddr {Γ : Ctx} {σ : Nat → AV} {h : Hp} (o : Oper) (t : TypeId) (x ix : Operand) (ho : o.op = .indexAddr t x ix) (hp : (aIndexAddr Γ.P σ h t x ix).pre) :
    VR Γ o σ h (aIndexAddr Γ.P σ h t x ix).val (aIndexAddr Γ.P σ h t x ix).h := by
  unfold aIndexAddr at *
  split at hp
  · rename_i sz l k i hx hi
    obtain ⟨ht, rfl, h0, hl⟩ := hp
    refine VR.of_run fun a e hop hw => ?_
    have h1 := (hop x (by simp [ho, Op.operands])).slD hx
    have h2 := hop ix (by simp [ho, Op.operands])
    rw [hi] at h2
    have h2 := R1.vInv h2
    unfold tSlice at ht
    split at ht
    · rename_i el hu
      simp only [Bool.and_eq_true] at ht
      have he : tElem Γ.P t = el := by simp [tElem, hu]
      rw [he] at h1
      rcases h1.slInv with ⟨rfl, _⟩ | ⟨vs, b, of, cap, h3, h4, h5, h6, h7⟩
      · simp at hl
      · have hd : l[i.toNat]? = some (l.getD i.toNat default) := by simp [List.getD_eq_getElem?_getD, List.getElem?_eq_getElem hl]
        have hfl := flat_at h6 _ _ hd
        have hs := run_sizeOf Γ.P el e.w (by simp [tKnown, ht])
        refine ⟨.pointer (some ⟨b, of + i.toNat * tSize Γ.P el, none⟩), ?_, b, _, (vs.drop (i.toNat * tSize Γ.P el)).take (tSize Γ.P el), rfl, ?_, fun j y hy => ?_⟩
        · simp only [execOp, ho, h2, h3, Instr.indexAt, asIntOf, Sem.run_bind, Sem.run_pure, Result.andThen_ok, run_underlying hu, h0, true_and, hs]
          rw [Sem.run_ite, if_pos (by omega)]
          simp only [Sem.run_bind, hs, Result.andThen_ok, Sem.run_pure, Addr.add]
          split <;> simp_all
        · have := (h4.drop (i.toNat * tSize Γ.P el)).take (tSize Γ.P el)
          rwa [hfl] at this
        · rw [List.getElem?_take] at hy
          split at hy
          · rw [List.getElem?_drop] at hy
            have := h5 _ _ hy
            simpa [Nat.add_assoc] using this
          · cases hy
    · simp at ht
  · rename_i k i hx hi
    split at hp
    · rename_i n sz len hxe
      obtain ⟨ht, rfl, h0, hl⟩ := hp
      refine VR.of_run fun a e hop hw => ?_
      have h1 := hop x (by simp [ho, Op.operands])
      rw [hxe] at h1
      have h2 := hop ix (by simp [ho, Op.operands])
      rw [hi] at h2
      have h2 := R1.vInv h2
      unfold tSlice at ht
      split at ht
      · rename_i el hu
        simp only [Bool.and_eq_true] at ht
        have he : tElem Γ.P t = el := by simp [tElem, hu]
        rw [he]
        have hs := run_sizeOf Γ.P el e.w (by simp [tKnown, ht])
        rcases h1 with ⟨hl0, _⟩ | ⟨b, cap, k1, k2, h3, k4⟩
        · omega
        · refine ⟨.pointer (some ⟨b, i.toNat * tSize Γ.P el, none⟩), ?_, b, k1, rfl⟩
          simp only [execOp, ho, h2, h3, Instr.indexAt, asIntOf, Sem.run_bind, Sem.run_pure, Result.andThen_ok, run_underlying hu, h0, true_and]
          rw [Sem.run_ite, if_pos (by omega)]
          simp only [Sem.run_bind, hs, Result.andThen_ok, Sem.run_pure, Addr.add]
          split <;> simp_all
      · simp at ht
    · exact hp.elim
  · exact hp.elim

/-- A string's byte. -/
def aIndex (P : Program) (σ : Nat → AV) (h : Hp) (t : TypeId) (x ix : Operand) : AR :=
  match evA σ x, evA σ ix with
  | .c (.d (.v (.string s))), .c (.d (.v (.int _ i))) => ⟨P.underlying t = some .string ∧ 0 ≤ i ∧ i.toNat < (bl s).length, .c (.d (.v (.int .u8 ((bl s).getD i.toNat 0).toNat))), h⟩
  | _, _ => .bad h

theorem vr_index {Γ : Ctx} {σ : Nat → AV} {h : Hp} (o : Oper) (t : TypeId) (x ix : Operand) (ho : o.op = .index t x ix) (hp : (aIndex Γ.P σ h t x ix).pre) :
    VR Γ o σ h (aIndex Γ.P σ h t x ix).val (aIndex Γ.P σ h t x ix).h := by
  unfold aIndex at *
  split at hp
  · rename_i s k i hx hi
    obtain ⟨ht, h0, hl⟩ := hp
    refine VR.of_run fun a e hop hw => ⟨_, ?_, .v _⟩
    have h1 := hop x (by simp [ho, Op.operands])
    rw [hx] at h1
    have h1 := R1.vInv h1
    have h2 := hop ix (by simp [ho, Op.operands])
    rw [hi] at h2
    have h2 := R1.vInv h2
    have hg : s[i.toNat]? = some ((bl s).getD i.toNat 0) := by
      have hl' : i.toNat < s.size := by rw [bl_size]; exact hl
      rw [getElem?_pos s i.toNat hl']
      simp only [List.getD_eq_getElem?_getD, List.getElem?_eq_getElem hl, Option.getD_some]
      rfl
    simp only [execOp, ho, h1, h2, Instr.index, asIntOf, Sem.run_bind, Sem.run_pure, Result.andThen_ok, run_underlying ht, h0, if_true, hg]
  · exact hp.elim

/-- A length. -/
def aLen (P : Program) (σ : Nat → AV) (h : Hp) (t : TypeId) (x : Operand) : AR :=
  match evA σ x with
  | .c (.d (.v (.string s))) => ⟨P.underlying t = some .string, .c (.d (.v (.int .i64 ((bl s).length)))), h⟩
  | .c (.d (.sl _ l)) => ⟨tSlice P t = true, .c (.d (.v (.int .i64 (l.length)))), h⟩
  | .c (.sl _ l _) => ⟨tSlice P t = true, .c (.d (.v (.int .i64 (l.length)))), h⟩
  | .c (.ex _ (.sl _ l)) => ⟨tSlice P t = true, .c (.d (.v (.int .i64 (l.length)))), h⟩
  | .c (.os _ _ len) => ⟨tSlice P t = true, .c (.d (.v (.int .i64 len))), h⟩
  | _ => .bad h

theorem run_len_slice {P : Program} {t : TypeId} {v : Value} {w : World} {S : Nat → Nat → Prop} {sz : Nat} {l : List D} (ht : tSlice P t = true) (h : R1 w S (.sl sz l) v) (ty : TypeId) :
    (Builtin.len_ #[t] ty #[v]).run P w = .ok (.int .i64 l.length) w := by
  unfold tSlice at ht
  split at ht
  · rename_i el hu
    rcases h.slInv with ⟨rfl, o, rfl⟩ | ⟨vs, b, of, cap, rfl, _⟩ <;> simp [Builtin.len_, run_underlying hu, goInt]
  · simp at ht

theorem vr_len {Γ : Ctx} {σ : Nat → AV} {h : Hp} (o : Oper) (t : TypeId) (x : Operand) (ho : o.op = .call { callee := .builtin .len, args := #[x], argTypes := #[t] }) (hp : (aLen Γ.P σ h t x).pre) :
    VR Γ o σ h (aLen Γ.P σ h t x).val (aLen Γ.P σ h t x).h := by
  have hmem : x ∈ o.op.operands := by simp [ho, Op.operands, Call.operands]
  have hex : ∀ (a : Act) (w : World) (r : Value), (Builtin.len_ #[t] o.type #[a.eval x]).run Γ.P w = .ok r w → (execOp a.eval o).run Γ.P w = .ok (.value r) w := by
    intro a w r hr
    simp only [execOp, ho, resolve, invoke, builtin, Sem.run_bind, Sem.run_pure, Result.andThen_ok, List.map_toArray, List.map_cons, List.map_nil, hr]
  unfold aLen at *
  split at hp
  · rename_i s hx
    refine VR.of_run fun a e hop hw => ⟨_, hex _ _ _ ?_, .v _⟩
    have h1 := hop x hmem
    rw [hx] at h1
    have h1 := R1.vInv h1
    simp [Builtin.len_, h1, run_underlying hp, goInt, bl_size]
  · rename_i sz l hx
    refine VR.of_run fun a e hop hw => ⟨_, hex _ _ _ ?_, .v _⟩
    have h1 := hop x hmem
    rw [hx] at h1
    exact run_len_slice hp h1 _
  · rename_i sz l k hx
    refine VR.of_run fun a e hop hw => ⟨_, hex _ _ _ ?_, .v _⟩
    have h1 := hop x hmem
    rw [hx] at h1
    exact run_len_slice hp h1.1 _
  · rename_i y sz l hx
    refine VR.of_run fun a e hop hw => ⟨_, hex _ _ _ ?_, .v _⟩
    have h1 := hop x hmem
    rw [hx] at h1
    exact run_len_slice hp h1.2 _
  · rename_i n sz len hx
    refine VR.of_run fun a e hop hw => ⟨_, hex _ _ _ ?_, .v _⟩
    have h1 := hop x hmem
    rw [hx] at h1
    unfold tSlice at hp
    split at hp
    · rename_i el hu
      rcases h1 with ⟨rfl, o, h⟩ | ⟨b, cap, _, _, h, _⟩ <;> rw [h] <;> simp [Builtin.len_, run_underlying hu, goInt]
    · simp at hp
  · exact hp.elim

def aMinMax (σ : Nat → AV) (h : Hp) (mx : Bool) (x y : Operand) : AR :=
  match evA σ x, evA σ y with
  | .c (.d (.v (.int k a))), .c (.d (.v (.int k' b))) => ⟨k = k', .c (.d (.v (.int k (if mx then (if b > a then b else a) else (if b < a then b else a))))), h⟩
  | _, _ => .bad h

theorem vr_minmax {Γ : Ctx} {σ : Nat → AV} {h : Hp} (o : Oper) (mx : Bool) (ts : Array TypeId) (x y : Operand) (ho : o.op = .call { callee := .builtin (if mx then .max else .min), args := #[x, y], argTypes := ts }) (hp : (aMinMax σ h mx x y).pre) :
    VR Γ o σ h (aMinMax σ h mx x y).val (aMinMax σ h mx x y).h := by
  unfold aMinMax at *
  split at hp
  · rename_i k a' k' b' hx hy
    refine VR.of_run fun a e hop hw => ⟨_, ?_, .v _⟩
    have h1 := hop x (by simp [ho, Op.operands, Call.operands])
    have h2 := hop y (by simp [ho, Op.operands, Call.operands])
    rw [hx] at h1; rw [hy] at h2
    have h1 := R1.vInv h1
    have h2 := R1.vInv h2
    cases mx <;> simp [execOp, ho, resolve, invoke, builtin, h1, h2, Builtin.min_, Builtin.max_, Builtin.min2, Builtin.max2]
  · exact hp.elim

def aExtract (σ : Nat → AV) (h : Hp) (x : Operand) (i : Nat) : AR :=
  match evA σ x with
  | .c (.d (.tu l)) => ⟨i < l.length, .c (.d (l.getD i default)), h⟩
  | _ => .bad h

theorem vr_extract {Γ : Ctx} {σ : Nat → AV} {h : Hp} (o : Oper) (x : Operand) (i : Nat) (ho : o.op = .extract x i) (hp : (aExtract σ h x i).pre) :
    VR Γ o σ h (aExtract σ h x i).val (aExtract σ h x i).h := by
  unfold aExtract at *
  split at hp
  · rename_i l hx
    refine VR.of_run fun a e hop hw => ?_
    have h1 := hop x (by simp [ho, Op.operands])
    rw [hx] at h1
    obtain ⟨vs, h1, h2⟩ := R1.tuInv h1
    obtain ⟨v, h3, h4⟩ := h2.get i (l.getD i default) (by simp [List.getD_eq_getElem?_getD, List.getElem?_eq_getElem hp])
    refine ⟨v, ?_, h4⟩
    simp [execOp, ho, h1, Instr.extract, h3]
  · exact hp.elim

def aNilCheck (σ : Nat → AV) (h : Hp) (x : Operand) : AR :=
  match evA σ x with
  | .c (.pt n off) => ⟨True, .c (.pt n off), h⟩
  | .c (.pp l) => ⟨True, .c (.pp l), h⟩
  | _ => .bad h

theorem vr_nilCheck {Γ : Ctx} {σ : Nat → AV} {h : Hp} (o : Oper) (x : Operand) (ho : o.op = .nilCheck x) (hp : (aNilCheck σ h x).pre) :
    VR Γ o σ h (aNilCheck σ h x).val (aNilCheck σ h x).h := by
  unfold aNilCheck at *
  split at hp
  · rename_i n off hx
    refine VR.of_run fun a e hop hw => ⟨a.eval x, ?_, ?_⟩
    · have h1 := hop x (by simp [ho, Op.operands])
      rw [hx] at h1
      obtain ⟨b, h2, h3⟩ := h1
      simp [execOp, ho, h3]
    · have h1 := hop x (by simp [ho, Op.operands])
      rwa [hx] at h1
  · rename_i l hx
    refine VR.of_run fun a e hop hw => ⟨a.eval x, ?_, ?_⟩
    · have h1 := hop x (by simp [ho, Op.operands])
      rw [hx] at h1
      obtain ⟨b, of, vs, h2, h3⟩ := h1
      simp [execOp, ho, h2]
    · have h1 := hop x (by simp [ho, Op.operands])
      rwa [hx] at h1
  · exact hp.elim

/-- A load: of an own box, or of what nobody writes. -/
def aLoadRow (P : Program) (h : Hp) (t : TypeId) (row : List C) (off : Nat) : AR :=
  ⟨tKnown P t = true ∧ off + tSize P t ≤ row.length ∧ (tAgg P t = false → off < row.length), if tAgg P t then .ag ((row.drop off).take (tSize P t)) else .c (row.getD off default), h⟩

/-- An array's element. -/
def aLoadArr (P : Program) (h : Hp) (t : TypeId) (sz i off : Nat) : Option (List C) → AR
  | some [.arr sz' l] => ⟨sz = sz' ∧ i < l.length ∧ (aLoadRow P h t ((l.getD i default).cells.map C.d) off).pre, (aLoadRow P h t ((l.getD i default).cells.map C.d) off).val, h⟩
  | some [.arr sz' l, c] => ⟨sz = sz' ∧ off = 0 ∧ i = l.length ∧ (aLoadRow P h t [c] 0).pre, (aLoadRow P h t [c] 0).val, h⟩
  | _ => .bad h

def aLoad (P : Program) (σ : Nat → AV) (h : Hp) (t : TypeId) (x : Operand) : AR :=
  match evA σ x with
  | .c (.pt n off) => match h.H n with
    | some row => ⟨rowP row = true ∧ (aLoadRow P h t row off).pre, (aLoadRow P h t row off).val, h⟩
    | none => .bad h
  | .c (.pp l) => aLoadRow P h t (l.map C.d) 0
  | .c (.pa n sz i off) => aLoadArr P h t sz i off (h.H n)
  | _ => .bad h

theorem load_row {P : Program} {h : Hp} {t : TypeId} {row : List C} {off : Nat} {e : Env} {b o : Nat} {vs : List Value}
    (hp : (aLoadRow P h t row off).pre) (hr : RCs e row vs) (hc : ∀ i x, vs[i]? = some x → e.w.cell? ⟨b, o + i, none⟩ = some x) :
    ∃ v, (Instr.loadAt t (.pointer (some ⟨b, o + off, none⟩))).run P e.w = .ok v e.w ∧ RA e (aLoadRow P h t row off).val v := by
  obtain ⟨h1, h2, h3⟩ := hp
  have hlen := hr.length
  simp only [aLoadRow]
  cases hag : tAgg P t with
  | true =>
    have hs := run_sizeOf P t e.w h1
    have hi := run_isAgg P t e.w h1
    rw [hag] at hi
    have hl : ((vs.drop off).take (tSize P t)).length = tSize P t := by simp; omega
    have hcells : (loadCells ⟨b, o + off, none⟩ (tSize P t)).run P e.w = .ok ((vs.drop off).take (tSize P t)).toArray e.w := by
      have := run_loadCells_list (P := P) (w := e.w) ⟨b, o + off, none⟩ ((vs.drop off).take (tSize P t)) (fun j x hx => by
        rw [List.getElem?_take] at hx
        split at hx
        · rw [List.getElem?_drop] at hx
          have := hc _ _ hx
          simp only [Addr.add]
          split
          · rename_i h0; simpa [h0] using this
          · simpa [Nat.add_assoc] using this
        · cases hx)
      rwa [hl] at this
    refine ⟨.agg ((vs.drop off).take (tSize P t)).toArray, ?_, ?_⟩
    · simp [Instr.loadAt, Instr.sureAddr, loadVar, hi, hs, hcells]
    · exact ⟨_, rfl, (hr.drop off).take _⟩
  | false =>
    have hi := run_isAgg P t e.w h1
    rw [hag] at hi
    have hof := h3 hag
    obtain ⟨v, hv, hv'⟩ := hr.get off (row.getD off default) (by simp [List.getD_eq_getElem?_getD, List.getElem?_eq_getElem hof])
    refine ⟨v, ?_, hv'⟩
    have := hc _ _ hv
    simp [Instr.loadAt, Instr.sureAddr, loadVar, hi, this]

theorem vr_load {Γ : Ctx} {σ : Nat → AV} {h : Hp} (o : Oper) (t : TypeId) (x : Operand) (ho : o.op = .load t x) (hp : (aLoad Γ.P σ h t x).pre) :
    VR Γ o σ h (aLoad Γ.P σ h t x).val (aLoad Γ.P σ h t x).h := by
  unfold aLoad at *
  split at hp
  · rename_i n off hx
    split at hp
    · rename_i row hrow
      refine VR.of_run fun a e hop hw => ?_
      have h1 := hop x (by simp [ho, Op.operands])
      rw [hx] at h1
      obtain ⟨b, h2, h3⟩ := h1
      obtain ⟨b', cs, ty, h4, h5, h6, h7, _⟩ := hw.boxAt h2 row hrow
      rw [h2] at h4
      simp at h4
      subst h4
      obtain ⟨v, h8, h9⟩ := load_row (b := b) (o := 0) hp.2 (h6.plain hp.1) (fun i x hx => by simp [World.cell?, h5]; simpa using hx)
      refine ⟨v, ?_, h9⟩
      simp only [execOp, ho, h3]
      rw [Sem.run_bind]
      simp only [Nat.zero_add] at h8
      rw [h8]; rfl
    · exact hp.elim
  · rename_i l hx
    refine VR.of_run fun a e hop hw => ?_
    have h1 := hop x (by simp [ho, Op.operands])
    rw [hx] at h1
    obtain ⟨b, of, vs, h2, h3, h4⟩ := h1
    obtain ⟨v, h8, h9⟩ := load_row (b := b) (o := of) hp (RCs.ofD h3) (fun i x hx => (h4 i x hx).1)
    refine ⟨v, ?_, h9⟩
    simp only [execOp, ho, h2]
    rw [Sem.run_bind]
    simp only [Nat.add_zero] at h8
    rw [h8]; rfl
  · rename_i n sz i off hx
    unfold aLoadArr at *
    split at hp
    · rename_i sz' l hrow
      obtain ⟨rfl, hil, hp⟩ := hp
      refine VR.of_run fun a e hop hw => ?_
      have h1 := hop x (by simp [ho, Op.operands])
      rw [hx] at h1
      obtain ⟨b, h2, h3⟩ := h1
      obtain ⟨b', cs, ty, h4, h5, h6, h7, _⟩ := hw.boxAt h2 _ hrow
      rw [h2] at h4
      simp at h4
      subst h4
      obtain ⟨us, ts, zs, cap, k1, k2, k3, k4, k5, k6, k7, k8, k9⟩ := h6
      have hd : l[i]? = some (l.getD i default) := by simp [List.getD_eq_getElem?_getD, List.getElem?_eq_getElem hil]
      have hfl := flat_at k3 _ _ hd
      have hr := (k2.drop (i * sz)).take sz
      rw [hfl] at hr
      obtain ⟨v, h8, h9⟩ := load_row (b := b) (o := i * sz) hp (RCs.ofD hr) (fun j y hy => by
        rw [List.getElem?_take] at hy
        split at hy
        · rw [List.getElem?_drop] at hy
          have hlt : i * sz + j < us.length := (List.getElem?_eq_some_iff.1 hy).1
          simp only [World.cell?, h5]
          have : cs.toList[i * sz + j]? = some y := by rw [k1, List.append_assoc, List.getElem?_append_left hlt]; exact hy
          simpa using this
        · cases hy)
      refine ⟨v, ?_, h9⟩
      simp only [execOp, ho, h3]
      rw [Sem.run_bind, h8]; rfl
    · rename_i sz' l c hrow
      obtain ⟨rfl, rfl, rfl, hp⟩ := hp
      refine VR.of_run fun a e hop hw => ?_
      have h1 := hop x (by simp [ho, Op.operands])
      rw [hx] at h1
      obtain ⟨b, h2, h3⟩ := h1
      obtain ⟨b', cs, ty, h4, h5, h6, h7, _⟩ := hw.boxAt h2 _ hrow
      rw [h2] at h4
      simp at h4
      subst h4
      obtain ⟨us, ts, zs, cap, k1, k2, k3, k4, k5, k6, k7, k8, k9⟩ := h6
      have hz : sz = 1 := k5.resolve_left (by simp)
      have hul : us.length = l.length * sz := by rw [k2.length, flat_length k3]
      obtain ⟨v, h8, h9⟩ := load_row (b := b) (o := l.length * sz) hp k4 (fun j y hy => by
        have hlt : j < ts.length := (List.getElem?_eq_some_iff.1 hy).1
        simp only [World.cell?, h5]
        have : cs.toList[l.length * sz + j]? = some y := by
          rw [k1, List.append_assoc, List.getElem?_append_right (by omega), hul, show l.length * sz + j - l.length * sz = j by omega, List.getElem?_append_left hlt]; exact hy
        simpa using this)
      refine ⟨v, ?_, h9⟩
      simp only [execOp, ho, h3]
      rw [Sem.run_bind, h8]; rfl
    · exact hp.elim
  · exact hp.elim

end Go.Proofs.Ytgkacglpjmndbaa
