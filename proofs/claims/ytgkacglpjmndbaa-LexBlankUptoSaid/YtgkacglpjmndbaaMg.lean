/- Operations that make or write memory: alloc, box, store, buildSlice, build. -/
import Derived.Test.YtgkacglpjmndbaaMf
namespace Go.Proofs.Ytgkacglpjmndbaa
open Go.RowKit

theorem wp_of_run {P : Program} {o : Oper} {a : Act} {w w' : World} {v : Value} {K : Act → World → Prop} {Q : Exit → Act → World → Prop}
    (hr : (execOp a.eval o).run P w = .ok (.value v) w') (hk : K (a.put o.dst v) w') : o.wp P a w K Q := by
  unfold Oper.wp; rw [hr]; exact hk
theorem wp_of_skip {P : Program} {o : Oper} {a : Act} {w w' : World} {K : Act → World → Prop} {Q : Exit → Act → World → Prop}
    (hr : (execOp a.eval o).run P w = .ok .skip w') (hk : K (a.put o.dst undef) w') : o.wp P a w K Q := by
  unfold Oper.wp; rw [hr]; exact hk

def D.one : D → Bool
  | .v x => x.oneCell'
  | .sl _ _ => true
  | _ => false
def C.one : C → Bool
  | .d x => x.one
  | .ex _ y => y.one
  | .top => false
  | .arr _ _ => false
  | _ => true
def AV.row : AV → List C
  | .c (.d (.ag l)) => l.map .d
  | .c x => [x]
  | .ag l => l
def AV.rowOk : AV → Bool
  | .c (.d (.v x)) => x.oneCell'
  | .c (.d (.tu _)) => false
  | .c (.ex _ d) => d.one
  | .c .top => false
  | .c (.arr _ _) => false
  | _ => true

theorem oneCell_cells {v : Value} (h : v.oneCell' = true) : v.cells = #[v] := by cases v <;> simp_all [Value.oneCell', Value.cells]
theorem R1.slOne {w : World} {S : Nat → Nat → Prop} {sz : Nat} {l : List D} {v : Value} (h : R1 w S (.sl sz l) v) : v.oneCell' = true := by
  rcases h.slInv with ⟨_, o, rfl⟩ | ⟨vs, b, of, cap, rfl, _⟩ <;> rfl

theorem R1.one {w : World} {S : Nat → Nat → Prop} : ∀ {d : D} {v : Value}, R1 w S d v → d.one = true → v.oneCell' = true
  | .v x, v, h, k => by have := R1.vInv h; subst this; exact k
  | .sl _ _, v, h, _ => R1.slOne h

theorem RC.one {e : Env} : ∀ {c : C} {v : Value}, RC e c v → c.one = true → v.oneCell' = true
  | .d (.v x), v, h, k => by have := R1.vInv h; subst this; exact k
  | .d (.sl _ _), v, h, _ => R1.slOne h
  | .sl _ _ _, v, h, _ => R1.slOne h.1
  | .pt _ _, v, ⟨_, _, h⟩, _ => by subst h; rfl
  | .pp _, v, ⟨_, _, _, h, _⟩, _ => by subst h; rfl
  | .ex _ _, v, h, k => R1.one h.2 k
  | .top, _, _, k => by cases k
  | .os _ _ _, v, h, _ => by
    rcases h with ⟨_, _, h⟩ | ⟨_, _, _, _, h, _⟩ <;> subst h <;> rfl
  | .pa _ _ _ _, v, ⟨_, _, h⟩, _ => by subst h; rfl
  | .nl, v, ⟨_, h, _⟩, _ => by subst h; rfl

theorem RCs.one {e : Env} : ∀ {l : List C} {vs : List Value}, RCs e l vs → l.all C.one = true → ∀ v ∈ vs, v.oneCell' = true
  | [], [], _, _, v, hv => by simp at hv
  | c :: l, x :: vs, ⟨h1, h2⟩, h, v, hv => by
    simp only [List.all_cons, Bool.and_eq_true] at h
    simp only [List.mem_cons] at hv
    rcases hv with rfl | hv
    · exact h1.one h.1
    · exact RCs.one h2 h.2 v hv

theorem RA.row {e : Env} : ∀ {x : AV} {v : Value}, RA e x v → x.rowOk = true → RCs e x.row v.cells.toList
  | .c (.d (.ag l)), v, h, _ => by
    obtain ⟨vs, rfl, h2⟩ := R1.agInv h
    exact RCs.ofD h2
  | .c (.d (.v y)), v, h, k => by
    have := R1.vInv h
    subst this
    rw [oneCell_cells k]
    exact ⟨h, trivial⟩
  | .c (.d (.sl _ _)), v, h, _ => by rw [oneCell_cells (R1.slOne h)]; exact ⟨h, trivial⟩
  | .c (.sl _ _ _), v, h, _ => by rw [oneCell_cells (R1.slOne h.1)]; exact ⟨h, trivial⟩
  | .c (.pt n off), v, h, _ => by
    have h' := h
    obtain ⟨_, _, h⟩ := h; subst h; exact ⟨h', trivial⟩
  | .c (.pp _), v, h, _ => by
    have h' := h
    obtain ⟨_, _, _, h, _⟩ := h; subst h; exact ⟨h', trivial⟩
  | .c (.ex _ _), v, h, k => by rw [oneCell_cells (R1.one h.2 k)]; exact ⟨h, trivial⟩
  | .c .top, _, _, k => by cases k
  | .c (.os n sz len), v, h, _ => by rw [oneCell_cells (RC.one (c := .os n sz len) h rfl)]; exact ⟨h, trivial⟩
  | .c (.pa n sz i off), v, h, _ => by rw [oneCell_cells (RC.one (c := .pa n sz i off) h rfl)]; exact ⟨h, trivial⟩
  | .c .nl, v, h, _ => by rw [oneCell_cells (RC.one (c := .nl) h rfl)]; exact ⟨h, trivial⟩
  | .ag _, v, ⟨vs, h1, h2⟩, _ => by subst h1; exact h2

def ofV : Value → C
  | .slice none 0 0 => .sl 0 [] 0
  | v => .d (.v v)
theorem RC.ofV (e : Env) (v : Value) : RC e (ofV v) v := by
  unfold Proofs.Ytgkacglpjmndbaa.ofV
  split
  · exact ⟨.slnil 0 _, .inl ⟨_, _, rfl⟩⟩
  · exact .v _
theorem RCs.ofV (e : Env) : ∀ (vs : List Value), RCs e (vs.map ofV) vs
  | [] => trivial
  | v :: vs => ⟨RC.ofV e v, RCs.ofV e vs⟩

theorem R1.nilAny {w : World} {S : Nat → Nat → Prop} {sz sz' : Nat} {v : Value} (h : R1 w S (.sl sz []) v) : R1 w S (.sl sz' []) v := by
  rcases h.slInv with ⟨_, _, rfl⟩ | ⟨vs, b, o, cap, rfl, _⟩
  · exact .slnil _ _
  · exact RD.sl _ [] [] b o cap .anil (by simp) (by simp) (by simp)
/-- A nil slice is one of whatever elements. -/
def sizeC (s : Nat) : C → C
  | .sl 0 [] k => .sl s [] k
  | .d (.sl 0 []) => .d (.sl s [])
  | c => c
theorem RC.sizeC {e : Env} (s : Nat) {c : C} {v : Value} (h : RC e c v) : RC e (sizeC s c) v := by
  unfold Proofs.Ytgkacglpjmndbaa.sizeC
  split
  · exact ⟨h.1.nilAny, h.2⟩
  · exact R1.nilAny h
  · exact h
def sizeRow : List Nat → List C → List C
  | s :: ss, c :: cs => sizeC s c :: sizeRow ss cs
  | _, cs => cs
theorem RCs.sizeRow {e : Env} : ∀ (ss : List Nat) {l : List C} {vs : List Value}, RCs e l vs → RCs e (sizeRow ss l) vs
  | [], _, _, h => by simpa [Proofs.Ytgkacglpjmndbaa.sizeRow] using h
  | _ :: _, [], _, h => by simpa [Proofs.Ytgkacglpjmndbaa.sizeRow] using h
  | s :: ss, _ :: _, _ :: _, ⟨h1, h2⟩ => ⟨RC.sizeC s h1, RCs.sizeRow ss h2⟩
theorem sizeRow_length : ∀ (ss : List Nat) (l : List C), (sizeRow ss l).length = l.length
  | [], _ => by simp [sizeRow]
  | _ :: _, [] => by simp [sizeRow]
  | _ :: ss, _ :: l => by simp [sizeRow, sizeRow_length ss l]
def sizeD0 (s : Nat) : D → D
  | .sl 0 [] => .sl s []
  | d => d
def sizeDs : List Nat → List D → List D
  | s :: ss, d :: ds => sizeD0 s d :: sizeDs ss ds
  | _, ds => ds
def sizeD (ss : List Nat) : D → D
  | .ag l => .ag (sizeDs ss l)
  | d => sizeD0 (ss.headD 0) d
theorem R1.sizeD0 {w : World} {S : Nat → Nat → Prop} (s : Nat) {d : D} {v : Value} (h : R1 w S d v) : R1 w S (sizeD0 s d) v := by
  unfold Proofs.Ytgkacglpjmndbaa.sizeD0
  split
  · exact R1.nilAny h
  · exact h
theorem Rn.sizeDs {w : World} {S : Nat → Nat → Prop} : ∀ (ss : List Nat) {l : List D} {vs : List Value}, Rn w S l vs → Rn w S (sizeDs ss l) vs
  | [], _, _, h => by simpa [Proofs.Ytgkacglpjmndbaa.sizeDs] using h
  | _ :: _, [], _, h => by simpa [Proofs.Ytgkacglpjmndbaa.sizeDs] using h
  | s :: ss, _ :: _, _, h => by cases h with | acons _ _ _ _ h1 h2 => exact .acons _ _ _ _ (R1.sizeD0 s h1) (Rn.sizeDs ss h2)
theorem R1.sizeD {w : World} {S : Nat → Nat → Prop} (ss : List Nat) {d : D} {v : Value} (h : R1 w S d v) : R1 w S (sizeD ss d) v := by
  unfold Proofs.Ytgkacglpjmndbaa.sizeD
  split
  · obtain ⟨vs, rfl, k⟩ := R1.agInv h
    exact .ag _ _ (Rn.sizeDs ss k)
  · exact R1.sizeD0 _ h
theorem sizeDs_length : ∀ (ss : List Nat) (l : List D), (sizeDs ss l).length = l.length
  | [], _ => by simp [sizeDs]
  | _ :: _, [] => by simp [sizeDs]
  | _ :: ss, _ :: l => by simp [sizeDs, sizeDs_length ss l]
theorem sizeD_cells (ss : List Nat) (d : D) : (sizeD ss d).cells.length = d.cells.length := by
  unfold sizeD
  split
  · simp [D.cells, sizeDs_length]
  · unfold sizeD0
    split <;> rfl
/-- The elements' cells of the slices in a type's cells. -/
def cSz (P : Program) : Nat → TypeId → List Nat
  | 0, _ => []
  | n + 1, t => match P.underlying t with
    | some (.struct fs) => fs.toList.flatMap fun f => cSz P n f.type
    | some (.slice e) => [tSize P e]
    | _ => [0]
def tCS (P : Program) (t : TypeId) : List Nat := cSz P 6 t

def tZ (P : Program) (t : TypeId) : List Value := (((P.info? t).bind (·.zero)).map (·.cells.toList)).getD []
def tZok (P : Program) (t : TypeId) : Bool := ((P.info? t).bind (·.zero)).isSome

theorem run_zeroValue {P : Program} {t : TypeId} (h : tZok P t = true) (w : World) : ∃ z, (zeroValue t).run P w = .ok z w ∧ z.cells.toList = tZ P t ∧ (P.info? t).bind (·.zero) = some z := by
  simp only [tZok, Option.isSome_iff_exists] at h
  obtain ⟨z, hz⟩ := h
  rw [Option.bind_eq_some_iff] at hz
  obtain ⟨i, hi, hz⟩ := hz
  exact ⟨z, by simp [zeroValue, typeInfo, hi, hz], by simp [tZ, hi, hz], by simp [hi, hz]⟩

/-- A new own box. -/
def Hp.box (h : Hp) (row : List C) : Hp := { h with H := upd h.H h.nx (some row), nx := h.nx + 1 }

theorem WInv.newBox {Γ : Ctx} {h : Hp} {e : Env} (hw : WInv Γ h e) {cs : Array Value} {ty : TypeId} {row : List C} (hr : RCs e row cs.toList) :
    ∃ e', e'.w = e.w.alloc (.cells cs ty) ∧ WInv Γ (h.box row) e' ∧ e.le e' ∧ e'.ρ h.nx = some e.w.heap.size := by
  have hg := Grows.alloc e.w (.cells cs ty)
  obtain ⟨w1, l1⟩ := hw.grows (S' := fun b o => e.S b o ∨ b = e.w.heap.size) hg (fun b o hb => ⟨fun h => h.resolve_right (by omega), .inl⟩) (fun b o hb => by
    simp
    rcases hb with hb | hb
    · have := hw.sdom b o hb; omega
    · omega)
  have hnew : ∀ n b, h.H n ≠ none → e.ρ n = some b → b < e.w.heap.size := fun n b hn hb => by
    cases hH : h.H n with
    | none => exact absurd hH hn
    | some r =>
      obtain ⟨b', cs', ty', q1, q2, _⟩ := hw.boxAt hb r hH
      rw [hb] at q1; simp at q1; subst q1
      exact (Array.getElem?_eq_some_iff.1 q2).1
  obtain ⟨w2, l2⟩ := w1.addBox (b := e.w.heap.size) (cs := cs) (ty := ty) (row := row) (heap_alloc_new _ _) (RCs.mono l1 hr) (fun o _ => .inr rfl) hw.hB
    (fun n hn hb => by have := hnew n _ hn hb; omega)
    (fun k v hk hv hfull hb => by
      cases hT : h.T k with
      | none => exact absurd hT hk
      | some ty =>
        obtain ⟨_, v', q1, q2⟩ := hw.tok k ty hT
        simp only at hv
        rw [hv] at q1; simp at q1; subst q1
        obtain ⟨sz, n, xs, _, q2, _⟩ := q2.resolve_left hfull
        have := (q2.lt _ hb).2
        omega)
  exact ⟨_, rfl, w2, l1.trans l2, by simp⟩

def aAlloc (P : Program) (h : Hp) (t : TypeId) : AR := ⟨tZok P t = true, .c (.pt h.nx 0), h.box (sizeRow (tCS P t) ((tZ P t).map ofV))⟩

theorem vr_alloc {Γ : Ctx} {σ : Nat → AV} {h : Hp} (o : Oper) (t : TypeId) (ho : o.op = .alloc t) (hp : (aAlloc Γ.P h t).pre) :
    VR Γ o σ h (aAlloc Γ.P h t).val (aAlloc Γ.P h t).h := by
  intro a e hop hw K Q hk
  obtain ⟨z, hz, hz2, _⟩ := run_zeroValue hp e.w
  obtain ⟨e', h1, h2, h3, h4⟩ := hw.newBox (cs := z.cells) (ty := t) (row := sizeRow (tCS Γ.P t) ((tZ Γ.P t).map ofV)) (by rw [hz2]; exact RCs.sizeRow _ (RCs.ofV _ _))
  refine wp_of_run (v := .pointer (some ⟨e.w.heap.size, 0, none⟩)) (w' := e.w.alloc (.cells z.cells t)) ?_ ?_
  · simp only [execOp, ho, Instr.alloc, Sem.run_bind, hz, Result.andThen_ok, newVar, newRow, run_newObj, Sem.run_pure]
    rfl
  · rw [← h1]
    exact hk _ e' h2 h3 ⟨_, h4, rfl⟩

def aBox (h : Hp) (σ : Nat → AV) (x : Operand) : AR := ⟨(evA σ x).rowOk = true, .c (.pt h.nx 0), h.box (evA σ x).row⟩

theorem vr_box {Γ : Ctx} {σ : Nat → AV} {h : Hp} (o : Oper) (t : TypeId) (x : Operand) (ho : o.op = .box t x) (hp : (aBox h σ x).pre) :
    VR Γ o σ h (aBox h σ x).val (aBox h σ x).h := by
  intro a e hop hw K Q hk
  have hx := hop x (by simp [ho, Op.operands])
  obtain ⟨e', h1, h2, h3, h4⟩ := hw.newBox (cs := (a.eval x).cells) (ty := t) (row := (evA σ x).row) (hx.row hp)
  refine wp_of_run (v := .pointer (some ⟨e.w.heap.size, 0, none⟩)) (w' := e.w.alloc (.cells (a.eval x).cells t)) ?_ ?_
  · simp only [execOp, ho, Instr.box, Sem.run_bind, Result.andThen_ok, newVar, newRow, run_newObj, Sem.run_pure]
    rfl
  · rw [← h1]
    exact hk _ e' h2 h3 ⟨_, h4, rfl⟩

/-- Part of an element. -/
def putD (d : D) (off : Nat) (ys : List D) : D :=
  match d with
  | .ag m => .ag (m.take off ++ ys ++ m.drop (off + ys.length))
  | _ => ys.headD default
theorem putD_cells {d : D} {off : Nat} {ys : List D} (h : off + ys.length ≤ d.cells.length) (h0 : 0 < ys.length) (h1 : ys.all D.one = true) : (putD d off ys).cells = d.cells.take off ++ ys ++ d.cells.drop (off + ys.length) := by
  have hone : ∀ y : D, y.one = true → y.cells = [y] := fun y hy => by cases y <;> first | rfl | cases hy
  have other : d.cells = [d] → (putD d off ys) = ys.headD default → (putD d off ys).cells = d.cells.take off ++ ys ++ d.cells.drop (off + ys.length) := fun e1 e2 => by
    rw [e1] at h ⊢
    simp only [List.length_cons, List.length_nil] at h
    match ys, h, h0, h1, e2 with
    | [y], h, _, h1, e2 =>
      have : off = 0 := by simp at h; omega
      subst this
      rw [e2]
      simp only [List.all_cons, List.all_nil, Bool.and_true] at h1
      simp [hone y h1]
    | _ :: _ :: _, h, _, _, _ => simp at h; omega
  cases d with
  | ag m => rfl
  | v x => exact other rfl rfl
  | tu m => exact other rfl rfl
  | sl sz m => exact other rfl rfl

theorem splice_mid {α : Type} (A u B yc : List α) (off : Nat) (h : off + yc.length ≤ u.length) :
    (A ++ u ++ B).take (A.length + off) ++ yc ++ (A ++ u ++ B).drop (A.length + off + yc.length) = A ++ (u.take off ++ yc ++ u.drop (off + yc.length)) ++ B := by
  have e1 : (A ++ u ++ B).take (A.length + off) = A ++ u.take off := by
    rw [List.append_assoc, List.take_append, List.take_of_length_le (by omega), show A.length + off - A.length = off by omega, List.take_append, show off - u.length = 0 by omega, List.take_zero, List.append_nil]
  have e2 : (A ++ u ++ B).drop (A.length + off + yc.length) = u.drop (off + yc.length) ++ B := by
    rw [List.append_assoc, List.drop_append, List.drop_of_length_le (by omega), List.nil_append, show A.length + off + yc.length - A.length = off + yc.length by omega, List.drop_append, show off + yc.length - u.length = 0 by omega, List.drop_zero]
  rw [e1, e2]
  simp only [List.append_assoc]

theorem take_drop_mid {α : Type} (us : List α) (a k : Nat) (h : a + k ≤ us.length) : us = us.take a ++ (us.drop a).take k ++ us.drop (a + k) := by
  rw [← List.drop_drop, List.append_assoc, List.take_append_drop, List.take_append_drop]

/-- A store into an array's element. -/
def aStoreArr (P : Program) (h : Hp) (t : TypeId) (y : AV) (n sz i off : Nat) : Option (List C) → AR
  | some [.arr sz' l] => ⟨sz = sz' ∧ i < l.length ∧ tKnown P t = true ∧ y.rowOk = true ∧ y.row.all C.one = true ∧ (sizeRow (tCS P t) y.row).all C.isD = true ∧ ((sizeRow (tCS P t) y.row).map C.toD).all D.one = true ∧
      y.row.length = tSize P t ∧ 0 < y.row.length ∧ off + y.row.length ≤ sz, .c (.d (.v undef)),
      { h with H := upd h.H n (some [.arr sz (l.set i (putD (l.getD i default) off ((sizeRow (tCS P t) y.row).map C.toD)))]) }⟩
  | some [.arr sz' l, _] => ⟨sz = sz' ∧ off = 0 ∧ i = l.length ∧ tKnown P t = true ∧ y.rowOk = true ∧ y.row.all C.one = true ∧ y.row.length = tSize P t ∧ y.row.length = 1, .c (.d (.v undef)),
      { h with H := upd h.H n (some (.arr sz l :: sizeRow (tCS P t) y.row)) }⟩
  | _ => .bad h

/-- A store into an own box. -/
def aStore (P : Program) (h : Hp) (σ : Nat → AV) (t : TypeId) (x y : Operand) : AR :=
  match evA σ x with
  | .c (.pt n off) => match h.H n with
    | some row => ⟨rowP row = true ∧ tKnown P t = true ∧ (evA σ y).rowOk = true ∧ (evA σ y).row.all C.one = true ∧ (evA σ y).row.length = tSize P t ∧ off + (evA σ y).row.length ≤ row.length, .c (.d (.v undef)),
        { h with H := upd h.H n (some (row.take off ++ sizeRow (tCS P t) (evA σ y).row ++ row.drop (off + (evA σ y).row.length))) }⟩
    | none => .bad h
  | .c (.pa n sz i off) => aStoreArr P h t (evA σ y) n sz i off (h.H n)
  | _ => .bad h

theorem vr_store {Γ : Ctx} {σ : Nat → AV} {h : Hp} (o : Oper) (t : TypeId) (x y : Operand) (ho : o.op = .store t x y) (hp : (aStore Γ.P h σ t x y).pre) :
    VR Γ o σ h (aStore Γ.P h σ t x y).val (aStore Γ.P h σ t x y).h := by
  unfold aStore at *
  split at hp
  · rename_i n off hx
    split at hp
    · rename_i row hrow
      obtain ⟨p0, p1, p2, p3, p4, p5⟩ := hp
      intro a e hop hw K Q hk
      have h1 := hop x (by simp [ho, Op.operands])
      rw [hx] at h1
      obtain ⟨b, h2, h3⟩ := h1
      have hy := (hop y (by simp [ho, Op.operands])).row p2
      obtain ⟨b', cs, ty, h4, h5, h6, h7, _⟩ := hw.boxAt h2 row hrow
      have h6 := h6.plain p0
      rw [h2] at h4
      simp at h4
      subst h4
      have hl1 := hy.length
      have hl2 := h6.length
      have hrn := ((h6.take off).append (hy.sizeRow (tCS Γ.P t))).append (h6.drop (off + (evA σ y).row.length))
      obtain ⟨w2, l2⟩ := hw.setBox (vs := cs.toList.take off ++ (a.eval y).cells.toList ++ cs.toList.drop (off + (evA σ y).row.length)) hrow h2 h5 (.of hrn) (by simp at hl1 hl2 ⊢; omega)
      have hsc := run_storeCells_at Γ.P b off ty (a.eval y).cells.toList 0 cs e.w h5 (by simp at hl1 hl2 ⊢; omega) (hy.one p3)
      simp only [Nat.add_zero] at hsc
      refine wp_of_skip ?_ (hk undef _ w2 l2 (.v _))
      have hsz := run_sizeOf Γ.P t e.w p1
      have hcs : (a.eval y).cells.size = tSize Γ.P t := by rw [← p4, ← hl1]; simp
      simp only [execOp, ho, h3, Instr.storeAt, Instr.sureAddr, storeVar, Sem.run_bind, Sem.run_pure, Result.andThen_ok, hsz, hcs, ne_eq, not_true_eq_false, if_false, hsc, hl1]
    · exact hp.elim
  · rename_i n sz i off hx
    unfold aStoreArr at *
    split at hp
    · rename_i sz' l hrow
      obtain ⟨rfl, hil, p1, p2, p3, p6, p7, p4, p8, p5⟩ := hp
      intro a e hop hw K Q hk
      have h1 := hop x (by simp [ho, Op.operands])
      rw [hx] at h1
      obtain ⟨b, h2, h3⟩ := h1
      have hy := (hop y (by simp [ho, Op.operands])).row p2
      obtain ⟨b', cs, ty, h4, h5, h6, h7, _⟩ := hw.boxAt h2 _ hrow
      rw [h2] at h4
      simp at h4
      subst h4
      obtain ⟨us, ts, zs, cap, k1, k2, k3, k4, k5, k6, k7, k8, k9⟩ := h6
      have hts : ts = [] := by cases ts with | nil => rfl | cons _ _ => exact k4.elim
      subst hts
      rw [List.append_nil] at k1
      have hl1 := hy.length
      have hyD := RCs.toD p6 (hy.sizeRow (tCS Γ.P t))
      have hul : us.length = l.length * sz := by rw [k2.length, flat_length k3]
      have hmul : i * sz + sz ≤ l.length * sz := by have := Nat.mul_le_mul_right sz (show i + 1 ≤ l.length by omega); rwa [Nat.add_mul, Nat.one_mul] at this
      have hd : l[i]? = some (l.getD i default) := by simp [List.getD_eq_getElem?_getD, List.getElem?_eq_getElem hil]
      have hdl : (l.getD i default).cells.length = sz := k3 _ (by rw [List.getD_eq_getElem?_getD, List.getElem?_eq_getElem hil]; simp)
      have hfl := flat_at k3 _ _ hd
      have hmid := take_drop_mid us (i * sz) sz (by omega)
      generalize hA : us.take (i * sz) = A at hmid
      generalize hu : (us.drop (i * sz)).take sz = u at hmid
      generalize hB : us.drop (i * sz + sz) = B at hmid
      have hAl : A.length = i * sz := by rw [← hA, List.length_take]; omega
      have hul' : u.length = sz := by rw [← hu, List.length_take, List.length_drop]; omega
      have hru : Rn e.w e.S (l.getD i default).cells u := by rw [← hu, ← hfl]; exact (k2.drop _).take _
      have hrA : Rn e.w e.S ((l.take i).flatMap D.cells) A := by rw [← hA, flat_take _ k3]; exact k2.take _
      have hrB : Rn e.w e.S ((l.drop (i + 1)).flatMap D.cells) B := by rw [← hB, flat_drop _ k3, Nat.add_mul, Nat.one_mul]; exact k2.drop _
      have hyl : ((sizeRow (tCS Γ.P t) (evA σ y).row).map C.toD).length = (evA σ y).row.length := by rw [List.length_map, sizeRow_length]
      have hpc := putD_cells (d := l.getD i default) (off := off) (ys := (sizeRow (tCS Γ.P t) (evA σ y).row).map C.toD) (by rw [hyl, hdl]; exact p5) (by rw [hyl]; exact p8) p7
      have hpl : (putD (l.getD i default) off ((sizeRow (tCS Γ.P t) (evA σ y).row).map C.toD)).cells.length = sz := by
        rw [hpc]
        simp only [List.length_append, List.length_take, List.length_drop, hyl, hdl]
        omega
      have hrn : Rn e.w e.S ((l.set i (putD (l.getD i default) off ((sizeRow (tCS Γ.P t) (evA σ y).row).map C.toD))).flatMap D.cells) (A ++ (u.take off ++ (a.eval y).cells.toList ++ u.drop (off + (a.eval y).cells.toList.length)) ++ B) := by
        rw [List.set_eq_take_append_cons_drop, if_pos hil, List.flatMap_append, List.flatMap_cons, hpc, ← List.append_assoc]
        refine (hrA.append (((hru.take _).append hyD).append ?_)).append hrB
        rw [hyl, ← hl1]
        exact hru.drop _
      have hcs0 : cs.toList = A ++ u ++ (B ++ zs) := by rw [k1, hmid, List.append_assoc (A ++ u)]
      have hsp := splice_mid A u (B ++ zs) (a.eval y).cells.toList off (by rw [hl1, hul']; exact p5)
      rw [← hcs0, hAl] at hsp
      have hcl : cs.toList.length = A.length + (u.length + (B.length + zs.length)) := by rw [hcs0]; simp only [List.length_append]; omega
      have hnl : (A ++ (u.take off ++ (a.eval y).cells.toList ++ u.drop (off + (a.eval y).cells.toList.length)) ++ (B ++ zs)).length = cs.size := by
        rw [← Array.length_toList, hcl]
        simp only [List.length_append, List.length_take, List.length_drop]
        omega
      obtain ⟨w2, l2⟩ := hw.setBox (vs := A ++ (u.take off ++ (a.eval y).cells.toList ++ u.drop (off + (a.eval y).cells.toList.length)) ++ (B ++ zs)) (row' := [.arr sz (l.set i (putD (l.getD i default) off ((sizeRow (tCS Γ.P t) (evA σ y).row).map C.toD)))]) hrow h2 h5
        ⟨_, [], zs, cap, by rw [List.append_nil, ← List.append_assoc], hrn, fun d hdm => by
          rcases List.mem_or_eq_of_mem_set hdm with h | h
          · exact k3 d h
          · rw [h]; exact hpl, trivial, .inl rfl, k6, by rw [hnl]; simpa using k7, k8, k9⟩ hnl
      have hsc := run_storeCells_at Γ.P b (i * sz + off) ty (a.eval y).cells.toList 0 cs e.w h5 (by rw [← Array.length_toList, hcl]; omega) (hy.one p3)
      simp only [Nat.add_zero] at hsc
      rw [hsp] at hsc
      refine wp_of_skip ?_ (hk undef _ w2 l2 (.v _))
      have hsz := run_sizeOf Γ.P t e.w p1
      have hcs : (a.eval y).cells.size = tSize Γ.P t := by rw [← p4, ← hl1]; simp
      simp only [execOp, ho, h3, Instr.storeAt, Instr.sureAddr, storeVar, Sem.run_bind, Sem.run_pure, Result.andThen_ok, hsz, hcs, ne_eq, not_true_eq_false, if_false, hsc]
    · rename_i sz' l c hrow
      obtain ⟨rfl, rfl, rfl, p1, p2, p3, p4, p8⟩ := hp
      intro a e hop hw K Q hk
      have h1 := hop x (by simp [ho, Op.operands])
      rw [hx] at h1
      obtain ⟨b, h2, h3⟩ := h1
      have hy := (hop y (by simp [ho, Op.operands])).row p2
      obtain ⟨b', cs, ty, h4, h5, h6, h7, _⟩ := hw.boxAt h2 _ hrow
      rw [h2] at h4
      simp at h4
      subst h4
      obtain ⟨us, ts, zs, cap, k1, k2, k3, k4, k5, k6, k7, k8, k9⟩ := h6
      have hz : sz = 1 := k5.resolve_left (by simp)
      have hl1 := hy.length
      have hul : us.length = l.length * sz := by rw [k2.length, flat_length k3]
      have htl : ts.length = 1 := by simpa using k4.length
      have hsp := splice_mid us ts zs (a.eval y).cells.toList 0 (by omega)
      rw [← k1] at hsp
      have hcl : cs.toList.length = us.length + (ts.length + zs.length) := by rw [k1]; simp only [List.length_append]; omega
      have e0 : ts.take 0 ++ (a.eval y).cells.toList ++ ts.drop (0 + (a.eval y).cells.toList.length) = (a.eval y).cells.toList := by
        rw [List.take_zero, List.nil_append, List.drop_of_length_le (by omega), List.append_nil]
      rw [e0, Nat.add_zero, hul] at hsp
      have hnl : (us ++ (a.eval y).cells.toList ++ zs).length = cs.size := by
        rw [← Array.length_toList, hcl]
        simp only [List.length_append]
        omega
      obtain ⟨w2, l2⟩ := hw.setBox (vs := us ++ (a.eval y).cells.toList ++ zs) (row' := .arr sz l :: sizeRow (tCS Γ.P t) (evA σ y).row) hrow h2 h5
        ⟨us, _, zs, cap, rfl, k2, k3, hy.sizeRow _, .inr hz, k6, by rw [hnl]; simpa using k7, k8, k9⟩ hnl
      have hsc := run_storeCells_at Γ.P b (l.length * sz + 0) ty (a.eval y).cells.toList 0 cs e.w h5 (by rw [← Array.length_toList, hcl]; omega) (hy.one p3)
      simp only [Nat.add_zero] at hsc
      rw [hsp] at hsc
      refine wp_of_skip ?_ (hk undef _ w2 l2 (.v _))
      have hsz := run_sizeOf Γ.P t e.w p1
      have hcs : (a.eval y).cells.size = tSize Γ.P t := by rw [← p4, ← hl1]; simp
      simp only [execOp, ho, h3, Instr.storeAt, Instr.sureAddr, storeVar, Sem.run_bind, Sem.run_pure, Result.andThen_ok, hsz, hcs, ne_eq, not_true_eq_false, if_false, hsc, Nat.add_zero]
    · exact hp.elim
  · exact hp.elim

/-- Filling cells, one behind the other. -/
theorem foldl_set : ∀ (l : List Value) (k off : Nat) (cs : Array Value), off + k + l.length ≤ cs.size →
    ((l.zipIdx k).foldl (fun (cs : Array Value) p => cs.setIfInBounds (off + p.2) p.1) cs).toList = cs.toList.take (off + k) ++ l ++ cs.toList.drop (off + k + l.length)
  | [], k, off, cs, _ => by simp
  | v :: l, k, off, cs, h => by
    simp only [List.zipIdx_cons, List.foldl_cons]
    rw [foldl_set l (k + 1) off _ (by simp at h ⊢; omega)]
    have hlt : off + k < cs.toList.length := by simp at h ⊢; omega
    rw [Array.toList_setIfInBounds, show off + (k + 1) = off + k + 1 by omega, List.set_eq_take_append_cons_drop, if_pos hlt]
    generalize cs.toList = L at hlt ⊢
    have c1 : (L.take (off + k)).length = off + k := by simp; omega
    have t1 : (L.take (off + k) ++ v :: L.drop (off + k + 1)).take (off + k + 1) = L.take (off + k) ++ [v] := by
      rw [List.take_append, c1, List.take_of_length_le (by omega), show off + k + 1 - (off + k) = 1 by omega]; rfl
    have t2 : (L.take (off + k) ++ v :: L.drop (off + k + 1)).drop (off + k + 1 + l.length) = L.drop (off + k + (l.length + 1)) := by
      have t3 : (L.take (off + k)).drop (off + k + 1 + l.length) = [] := List.drop_of_length_le (by omega)
      rw [List.drop_append, c1, t3, show off + k + 1 + l.length - (off + k) = l.length + 1 by omega, List.nil_append, List.drop_succ_cons, List.drop_drop]
      congr 1
      omega
    rw [t1, t2]
    simp

theorem fill_seq (size : Nat) : ∀ (parts : List (Nat × Value)) (k : Nat) (cells : Array Value),
    (∀ i p, parts[i]? = some p → p.1 = k + i ∧ p.2.cells.size = size) → (k + parts.length) * size ≤ cells.size →
    ∃ out, Instr.fill (fun i => some (i * size, size)) cells parts = some out ∧ out.toList = cells.toList.take (k * size) ++ parts.flatMap (·.2.cells.toList) ++ cells.toList.drop ((k + parts.length) * size)
  | [], k, cells, _, _ => ⟨cells, rfl, by simp⟩
  | (i, v) :: parts, k, cells, h, hs => by
    have h0 := h 0 (i, v) rfl
    simp at h0
    obtain ⟨rfl, hv⟩ := h0
    have hle : (i + 1) * size ≤ cells.size := Nat.le_trans (Nat.mul_le_mul_right _ (by simp)) hs
    rw [Nat.add_mul, Nat.one_mul] at hle
    have hset := foldl_set v.cells.toList 0 (i * size) cells (by simp [hv]; omega)
    simp only [Nat.add_zero] at hset
    have hfold : (v.cells.zipIdx.foldl (fun cs (x : Value × Nat) => cs.setIfInBounds (i * size + x.2) x.1) cells) = ((v.cells.toList.zipIdx 0).foldl (fun (cs : Array Value) p => cs.setIfInBounds (i * size + p.2) p.1) cells) := by
      rw [← Array.foldl_toList, Array.toList_zipIdx]
    obtain ⟨out, h1, h2⟩ := fill_seq size parts (i + 1) (v.cells.zipIdx.foldl (fun cs (x : Value × Nat) => cs.setIfInBounds (i * size + x.2) x.1) cells)
      (fun j p hj => by
        have := h (j + 1) p (by simpa using hj)
        exact ⟨by omega, this.2⟩) (by
        have hsz : (v.cells.zipIdx.foldl (fun cs (x : Value × Nat) => cs.setIfInBounds (i * size + x.2) x.1) cells).size = cells.size := by
          rw [hfold]
          have := congrArg List.length hset
          simp [hv] at this
          omega
        rw [hsz]
        simpa [show i + 1 + parts.length = i + (parts.length + 1) by omega] using hs)
    refine ⟨out, ?_, ?_⟩
    · unfold Instr.fill
      simp only [hv, ne_eq, not_true_eq_false, decide_false, Bool.false_or, decide_eq_true_eq]
      rw [if_neg (by omega)]
      exact h1
    · rw [h2, hfold, hset]
      have e1 : (i + 1) * size = i * size + size := by rw [Nat.add_mul, Nat.one_mul]
      have e2 : (i + 1 + parts.length) * size = (i + (parts.length + 1)) * size := by congr 1; omega
      have hvl : v.cells.toList.length = size := by simpa using hv
      have e3 : (i + 1 + parts.length) * size = i * size + size + parts.length * size := by rw [Nat.add_mul, e1]
      rw [List.flatMap_cons, List.length_cons]
      have c1 : (cells.toList.take (i * size)).length = i * size := by simp; omega
      generalize hA : cells.toList.take (i * size) = A at c1 ⊢
      have t1 : (A ++ v.cells.toList ++ cells.toList.drop (i * size + v.cells.toList.length)).take ((i + 1) * size) = A ++ v.cells.toList := by
        rw [List.take_append, List.take_of_length_le (by simp [c1, hv]; omega)]
        simp [c1, hv, e1]
      have t2 : (A ++ v.cells.toList ++ cells.toList.drop (i * size + v.cells.toList.length)).drop ((i + 1 + parts.length) * size) = cells.toList.drop ((i + (parts.length + 1)) * size) := by
        rw [List.drop_append, List.drop_of_length_le (by simp [c1, hv]; omega), List.drop_drop]
        simp only [List.nil_append, List.length_append, c1, hvl]
        congr 1
        omega
      rw [t1, t2]
      simp

/-! Literal slices, and literal structs. -/
theorem cell_new (w : World) (out : Array Value) (el : TypeId) (j : Nat) : (w.alloc (.cells out el)).cell? ⟨w.heap.size, j, none⟩ = out[j]? := by
  have hn := heap_alloc_new w (.cells out el)
  unfold World.cell?
  simp only []
  rw [hn]
  rfl
theorem run_newRow (P : Program) (w : World) (el : TypeId) (out : Array Value) : (newRow el out).run P w = .ok ⟨w.heap.size, 0, none⟩ (w.alloc (.cells out el)) := by
  simp only [newRow, Sem.run_bind, run_newObj, Result.andThen_ok, Sem.run_pure]; rfl
theorem run_buildSlice {P : Program} {w : World} {t el : TypeId} {len sz : Nat} {z : Value} {parts : Array (Nat × Value)} {out : Array Value}
    (hu : P.underlying t = some (.slice el)) (hs : (sizeOf el).run P w = .ok sz w) (hz : (zeroValue el).run P w = .ok z w) (hl : len * sz ≤ 16777216)
    (hf : Instr.fill (fun i => some (i * sz, sz)) ((Array.range (len * sz)).map (z.cells[· % z.cells.size]!)) parts.toList = some out) :
    (Instr.buildSlice t len parts).run P w = .ok (.slice (some ⟨w.heap.size, 0, none⟩) len len) (w.alloc (.cells out el)) := by
  have hif : ¬ (len * sz > 2 ^ 24) := by omega
  unfold Instr.buildSlice
  by_cases h0 : len * sz = 0
  · rw [h0] at hf
    have hf' : Instr.fill (fun i => some (i * sz, sz)) ((Array.range 0).map ((#[] : Array Value)[· % (#[] : Array Value).size]!)) parts.toList = some out := by
      have hr0 : Array.range 0 = #[] := by simp
      rw [← hf, hr0, Array.map_empty, Array.map_empty]
    simp only [Sem.run_bind, run_underlying hu, Result.andThen_ok, hs, hif, if_false, h0, if_true, Sem.run_pure, hf', run_newRow, Nat.zero_le, show ¬ (0 > 2 ^ 24) by omega]
  · simp only [Sem.run_bind, run_underlying hu, Result.andThen_ok, hs, hif, if_false, h0, hz, Sem.run_pure, hf, run_newRow]
theorem AV.row_toD {x : AV} (h : x.isD = true) (k : x.rowOk = true) : x.row.map C.toD = x.toD.cells := by
  cases x with
  | ag l => rfl
  | c x => cases x with
    | d y => cases y with
      | ag l => simp [AV.row, AV.toD, C.toD, D.cells, Function.comp_def]
      | tu l => simp [AV.rowOk] at k
      | _ => rfl
    | sl _ _ _ => rfl
    | ex y d => cases d <;> simp_all [AV.rowOk, D.one, AV.row, AV.toD, C.toD, D.cells]
    | _ => simp [AV.isD, C.isD] at h

theorem R1.cells {w : World} {S : Nat → Nat → Prop} : ∀ {d : D} {v : Value}, R1 w S d v → (AV.c (.d d)).rowOk = true → Rn w S d.cells v.cells.toList
  | .v x, v, h, k => by
    have := R1.vInv h; subst this
    rw [oneCell_cells k]; exact .acons _ _ _ _ h .anil
  | .ag l, v, h, _ => by obtain ⟨vs, rfl, h2⟩ := R1.agInv h; exact h2
  | .sl _ _, v, h, _ => by rw [oneCell_cells (R1.slOne h)]; exact .acons _ _ _ _ h .anil

theorem AV.toD_rowOk {x : AV} (h : x.isD = true) (k : x.rowOk = true) : (AV.c (.d x.toD)).rowOk = true := by
  cases x with
  | ag l => rfl
  | c x => cases x with
    | d y => exact k
    | sl _ _ _ => rfl
    | ex y d => cases d <;> simp_all [AV.rowOk, D.one, AV.toD, C.toD]
    | _ => simp [AV.isD, C.isD] at h

def partsIn : Nat → List (Nat × Operand) → Bool
  | _, [] => true
  | k, (i, _) :: l => i == k && partsIn (k + 1) l

theorem partsIn_spec : ∀ {l : List (Nat × Operand)} {k : Nat}, partsIn k l = true → ∀ (i : Nat) (p : Nat × Operand), l[i]? = some p → p.1 = k + i
  | [], _, _, i, p, h => by simp at h
  | (j, x) :: l, k, h, i, p, hi => by
    simp only [partsIn, Bool.and_eq_true, beq_iff_eq] at h
    cases i with
    | zero => simp at hi; subst hi; simp [h.1]
    | succ i => have := partsIn_spec h.2 i p (by simpa using hi); omega

/-- `[][]T{nil}`. -/
def nilLit : List (Nat × Operand) → Bool
  | [(_, .const (.slice none 0 0))] => true
  | _ => false

def aBuildSlice (P : Program) (σ : Nat → AV) (h : Hp) (t : TypeId) (len : Nat) (parts : List (Nat × Operand)) : AR :=
  ⟨tSlice P t = true ∧ tZok P (tElem P t) = true ∧ (tZ P (tElem P t)).length = tSize P (tElem P t) ∧ 0 < tSize P (tElem P t) ∧ partsIn 0 parts = true ∧ parts.length = len ∧ len * tSize P (tElem P t) ≤ 16777216 ∧
    (parts.all fun p => (evA σ p.2).isD && (evA σ p.2).rowOk && ((evA σ p.2).toD.cells.length == tSize P (tElem P t))) = true,
   if nilLit parts = true then .c .nl else .c (.sl (tSize P (tElem P t)) (parts.map fun p => sizeD (tCS P (tElem P t)) (evA σ p.2).toD) 0), h⟩

theorem vr_buildSlice {Γ : Ctx} {σ : Nat → AV} {h : Hp} (o : Oper) (t : TypeId) (len : Nat) (parts : Array (Nat × Operand)) (ho : o.op = .buildSlice t len parts) (hp : (aBuildSlice Γ.P σ h t len parts.toList).pre) :
    VR Γ o σ h (aBuildSlice Γ.P σ h t len parts.toList).val (aBuildSlice Γ.P σ h t len parts.toList).h := by
  obtain ⟨p1, p2, p3, p4, p5, p6, p7, p8⟩ := hp
  intro a e hop hw K Q hk
  unfold tSlice at p1
  split at p1
  · rename_i el hu
    simp only [Bool.and_eq_true] at p1
    have he : tElem Γ.P t = el := by simp [tElem, hu]
    simp only [aBuildSlice, he] at p2 p3 p4 p7 p8 hk ⊢
    have hs := run_sizeOf Γ.P el e.w (by simp [tKnown, p1])
    obtain ⟨z, hz, hz2, _⟩ := run_zeroValue p2 e.w
    generalize hsz : tSize Γ.P el = sz at *
    have hzl : z.cells.size = sz := by rw [← p3, ← hz2]; simp
    -- the values, in a row
    generalize tCS Γ.P el = ss at *
    have hall : ∀ p ∈ parts.toList, R1 e.w e.S (sizeD ss (evA σ p.2).toD) (a.eval p.2) ∧ Rn e.w e.S (sizeD ss (evA σ p.2).toD).cells (a.eval p.2).cells.toList ∧ (sizeD ss (evA σ p.2).toD).cells.length = sz := fun p hpm => by
      have h1 := List.all_eq_true.1 p8 p hpm
      simp only [Bool.and_eq_true, beq_iff_eq] at h1
      have h2 := hop p.2 (by simp only [ho, Op.operands, List.mem_toArray, List.mem_map]; exact ⟨p, hpm, rfl⟩)
      have h3 := (h2.toD h1.1.1).sizeD ss
      have h4 := AV.toD_rowOk h1.1.1 h1.1.2
      exact ⟨h3, h3.cells (by
        revert h4
        cases (evA σ p.2).toD with
        | ag l => intro _; rfl
        | tu l => intro h; simp [AV.rowOk] at h
        | v x => exact id
        | sl n l => intro _; unfold sizeD; simp only; unfold sizeD0; split <;> rfl), by rw [sizeD_cells]; exact h1.2⟩
    have hcells : ∀ (l : List (Nat × Operand)), (∀ p ∈ l, p ∈ parts.toList) → Rn e.w e.S ((l.map fun p => sizeD ss (evA σ p.2).toD).flatMap D.cells) ((l.map fun p => (p.1, a.eval p.2)).flatMap (·.2.cells.toList)) := by
      intro l
      induction l with
      | nil => intro _; exact .anil
      | cons p l ih =>
        intro hl
        simp only [List.map_cons, List.flatMap_cons]
        exact (hall p (hl p (by simp))).2.1.append (ih fun q hq => hl q (by simp [hq]))
    have hR := hcells parts.toList fun _ h => h
    obtain ⟨out, ho1, ho2⟩ := fill_seq sz (parts.toList.map fun p => (p.1, a.eval p.2)) 0 ((Array.range (len * sz)).map (z.cells[· % z.cells.size]!)) (fun i p hi => by
      rw [List.getElem?_map, Option.map_eq_some_iff] at hi
      obtain ⟨q, hq, rfl⟩ := hi
      have := partsIn_spec p5 i q hq
      refine ⟨by simpa using this, ?_⟩
      have h3 := hall q (List.mem_of_getElem? hq)
      have h4 := h3.2.1.length
      simp at h4
      show (a.eval q.2).cells.size = sz
      omega) (by simp at p6 ⊢; rw [p6]; exact Nat.le_refl _)
    have hout : out.toList = (parts.toList.map fun p => (p.1, a.eval p.2)).flatMap (·.2.cells.toList) := by
      rw [ho2]
      simp at p6
      simp [p6]
    have hg := Grows.alloc e.w (.cells out el)
    obtain ⟨w1, l1⟩ := hw.quiet hg
    have hfin : R1 (e.w.alloc (.cells out el)) e.S (.sl sz (parts.toList.map fun p => sizeD ss (evA σ p.2).toD)) (.slice (some ⟨e.w.heap.size, 0, none⟩) len len) := by
      have hlen : (parts.toList.map fun p => sizeD ss (evA σ p.2).toD).length = len := by simpa using p6
      have := RD.sl (w := e.w.alloc (.cells out el)) (S := e.S) sz (parts.toList.map fun p => sizeD ss (evA σ p.2).toD) _ e.w.heap.size 0 len (RD.mono l1.keep hR) (fun i x hx => by
        rw [← hout] at hx
        refine ⟨?_, fun hS => by have := hw.sdom _ _ hS; omega⟩
        rw [cell_new]
        simpa using hx) (fun d hd => by
        rw [List.mem_map] at hd
        obtain ⟨p, hpm, rfl⟩ := hd
        exact (hall p hpm).2.2) (by omega)
      rwa [hlen] at this
    have hRA : RA { e with w := e.w.alloc (.cells out el) } (if nilLit parts.toList = true then .c .nl else .c (.sl sz (parts.toList.map fun p => sizeD ss (evA σ p.2).toD) 0)) (.slice (some ⟨e.w.heap.size, 0, none⟩) len len) := by
      by_cases hn : nilLit parts.toList = true
      · rw [if_pos hn]
        unfold nilLit at hn
        split at hn
        · rename_i k hpl
          rw [hpl] at p6 hout
          have hl1 : len = 1 := by simpa using p6.symm
          subst hl1
          refine ⟨e.w.heap.size, rfl, ?_, fun hS => by have := hw.sdom _ _ hS; omega⟩
          show (e.w.alloc (.cells out el)).cell? _ = _
          rw [cell_new, ← Array.getElem?_toList, hout]
          rfl
        · cases hn
      · rw [if_neg hn]
        exact ⟨hfin, .inl ⟨_, _, rfl⟩⟩
    refine wp_of_run (v := .slice (some ⟨e.w.heap.size, 0, none⟩) len len) (w' := e.w.alloc (.cells out el)) ?_ (hk _ _ w1 l1 hRA)
    have hmap : (parts.map fun (x : Nat × Operand) => (x.1, a.eval x.2)).toList = parts.toList.map fun p => (p.1, a.eval p.2) := by simp
    have hrun := run_buildSlice (parts := parts.map fun (x : Nat × Operand) => (x.1, a.eval x.2)) hu hs hz p7 (by rw [hmap]; exact ho1)
    simp only [execOp, ho]
    rw [Sem.run_bind, hrun]
    rfl
  · simp at p1

end Go.Proofs.Ytgkacglpjmndbaa
