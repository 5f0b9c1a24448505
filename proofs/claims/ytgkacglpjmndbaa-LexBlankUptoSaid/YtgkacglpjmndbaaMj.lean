/- Calls, and one function for all operations. -/
import Derived.Test.YtgkacglpjmndbaaMi
namespace Go.Proofs.Ytgkacglpjmndbaa
open Go.RowKit

/-- What a function of data answers. -/
structure PF where
  pre : List D → Prop
  val : List D → D

def PureOk (P : Program) (f : Nat) (pf : PF) : Prop :=
  ∀ (w : World) (S : Nat → Nat → Prop) (args : List D) (vs : List Value), Rn w S args vs → (∀ b o, S b o → b < w.heap.size) → pf.pre args →
    Calls P f ⟨vs⟩ w (fun en w' => ∃ v, en = .returned v ∧ Grows w w' ∧ R1 w' S (pf.val args) v)

/-- What a method answers, and what it makes of its receiver's cells. -/
structure MF where
  pre : List D → List D → Prop
  val : List D → List D → D
  upd : List D → List D → List (Nat × D)

structure GrowsBut (b : Nat) (w w' : World) : Prop where
  os : w'.os = w.os
  tape : w'.tape = w.tape
  output : w'.output = w.output
  size : w.heap.size ≤ w'.heap.size
  block : ∀ k, k < w.heap.size → k ≠ b → w'.heap[k]? = w.heap[k]?

def CellsUpd (w : World) (S : Nat → Nat → Prop) : List (Nat × D) → List Value → List Value → Prop
  | [], cs, cs' => cs' = cs
  | (o, d) :: us, cs, cs' => ∃ x, R1 w S d x ∧ o < cs.length ∧ CellsUpd w S us (cs.set o x) cs'

def rowUpd (row : List C) (us : List (Nat × D)) : List C := us.foldl (fun r p => r.set p.1 (.d p.2)) row

def MethOk (P : Program) (f : Nat) (mf : MF) : Prop :=
  ∀ (w : World) (S : Nat → Nat → Prop) (b : Nat) (cs : Array Value) (ty : TypeId) (row args : List D) (vs : List Value),
    w.heap[b]? = some (.cells cs ty (0, 0)) → (∀ o, o < cs.size → S b o) → Rn w S row cs.toList → Rn w S args vs → (∀ b o, S b o → b < w.heap.size) → mf.pre row args →
    Calls P f ⟨.pointer (some ⟨b, 0, none⟩) :: vs⟩ w (fun en w' => ∃ v cs' ty', en = .returned v ∧ GrowsBut b w w' ∧ w'.heap[b]? = some (.cells cs' ty' (0, 0)) ∧
      CellsUpd w' S (mf.upd row args) cs.toList cs'.toList ∧ R1 w' S (mf.val row args) v)

def Callable (P : Program) (f : Nat) : Prop := ∀ (args : Array Value) (w : World), (callFunc f args).run P w = .ok (.enter f args) w

theorem RCs.set {e : Env} : ∀ {l : List C} {vs : List Value} (o : Nat) {c : C} {x : Value}, RCs e l vs → RC e c x → RCs e (l.set o c) (vs.set o x)
  | [], [], _, _, _, _, _ => trivial
  | _ :: _, _ :: _, 0, _, _, ⟨_, h2⟩, k => ⟨k, h2⟩
  | _ :: _, _ :: _, o + 1, _, _, ⟨h1, h2⟩, k => ⟨h1, RCs.set o h2 k⟩

theorem RCs.upd {e : Env} : ∀ (us : List (Nat × D)) {row : List C} {cs cs' : List Value}, RCs e row cs → CellsUpd e.w e.S us cs cs' → RCs e (rowUpd row us) cs'
  | [], _, _, _, h, k => by cases k; exact h
  | (o, d) :: us, row, cs, cs', h, ⟨x, k1, _, k3⟩ => RCs.upd us (h.set o (c := .d d) k1) k3

theorem CellsUpd.length {w : World} {S : Nat → Nat → Prop} : ∀ {us : List (Nat × D)} {cs cs' : List Value}, CellsUpd w S us cs cs' → cs'.length = cs.length
  | [], _, _, h => by cases h; rfl
  | (_, _) :: _, _, _, ⟨_, _, _, h⟩ => by simpa using CellsUpd.length h

theorem WInv.upBox_le {Γ : Ctx} {h : Hp} {e : Env} (hw : WInv Γ h e) {n : Nat} {row : List C} {b : Nat} {w' : World}
    (hn : h.H n = some row) (hρ : e.ρ n = some b) (hg : GrowsBut b e.w w') : e.le { e with w := w' } := by
  obtain ⟨b0, cs0, ty0, q1, q2, q3, q4, q5⟩ := hw.boxAt hρ row hn
  rw [hρ] at q1; simp at q1; subst q1
  refine ⟨fun c o x hc hs => ?_, fun _ _ h => h, fun _ _ h => h⟩
  have hne : c ≠ b := fun he => by
    subst he
    have : cs0[o]? = some x := by simpa [World.cell?, q2] using hc
    exact hs (q4 o (Array.getElem?_eq_some_iff.1 this).1)
  exact ⟨(World.cell?_of_block (hg.block c (cell_block hc) hne)).trans hc, hs⟩

theorem WInv.upBox {Γ : Ctx} {h : Hp} {e : Env} (hw : WInv Γ h e) {n : Nat} {row row' : List C} {b : Nat} {cs cs' : Array Value} {ty ty' : TypeId} {w' : World}
    (hn : h.H n = some row) (hρ : e.ρ n = some b) (hb : e.w.heap[b]? = some (.cells cs ty (0, 0))) (hg : GrowsBut b e.w w') (hb' : w'.heap[b]? = some (.cells cs' ty' (0, 0)))
    (hl : cs'.size = cs.size) (hr : RCs { e with w := w' } row' cs'.toList) :
    WInv Γ { h with H := upd h.H n (some row') } { e with w := w' } := by
  have hle := hw.upBox_le hn hρ hg
  obtain ⟨b0, cs0, ty0, q1, q2, q3, q4, q5⟩ := hw.boxAt hρ row hn
  rw [hρ] at q1; simp at q1; subst q1
  rw [hb] at q2; simp at q2; obtain ⟨rfl, rfl⟩ := q2
  have hblt : b < e.w.heap.size := (Array.getElem?_eq_some_iff.1 hb).1
  constructor
  · exact hg.os.trans hw.os
  · exact hg.tape.trans hw.tape
  · exact hg.output.trans hw.output
  · exact Nat.le_trans hw.grown hg.size
  · exact Nat.le_trans hw.hB hg.size
  · intro c hc hm
    have hne : c ≠ b := fun he => by
      subst he
      rcases q5 with h | h
      · omega
      · exact hm h
    exact (hg.block c (Nat.lt_of_lt_of_le hc hw.hB) hne).trans (hw.old c hc hm)
  · intro c o hc; exact Nat.lt_of_lt_of_le (hw.sdom c o hc) hg.size
  · exact hw.s0
  · exact hw.s0B
  · intro m r hmr
    by_cases hmn : m = n
    · subst hmn
      simp only [upd_same, Option.some.injEq] at hmr
      subst hmr
      exact .inr ⟨b, cs', ty', hρ, hb', .of hr, fun o ho => q4 o (by omega), q5⟩
    · simp only [Ytgkacglpjmndbaa.upd, hmn, if_false] at hmr
      rcases hw.box m r hmr with hz | ⟨b', cs1, ty', h1, h2, h3, h4, h5⟩
      · exact .inl hz
      have hne : b' ≠ b := fun he => by
        subst he
        exact hmn (hw.inj m n b' (by simp [hmr]) (by simp [hn]) h1 hρ)
      exact .inr ⟨b', cs1, ty', h1, (hg.block b' (Array.getElem?_eq_some_iff.1 h2).1 hne).trans h2, RB.mono hle h3, h4, h5⟩
  · intro m m' c hm hm'
    have g : ∀ i, Ytgkacglpjmndbaa.upd h.H n (some row') i ≠ none → h.H i ≠ none := fun i hi => by
      by_cases hin : i = n
      · subst hin; simp [hn]
      · simpa [Ytgkacglpjmndbaa.upd, hin] using hi
    exact hw.inj m m' c (g m hm) (g m' hm')
  · intro k ty' hk
    obtain ⟨h0, v, h1, hor⟩ := hw.tok k ty' hk
    refine ⟨h0, v, h1, hor.imp id ?_⟩
    rintro ⟨sz, m, xs, hsz, h2, h3, h4⟩
    have hne : ∀ c, v.ownBlock = some c → c ≠ b := fun c hc he => by
      subst he
      exact h4 c hc n (by simp [hn]) hρ
    have hblk : ∀ c, v.ownBlock = some c → w'.heap[c]? = e.w.heap[c]? := fun c hc => hg.block c (h2.lt c hc).2 (hne c hc)
    refine ⟨sz, m, xs, hsz, ownsRow_same h2 hblk, fun c o hc ho hs => ?_, fun c hc i hi => ?_⟩
    · have hce : w'.cell? ⟨c, o, none⟩ = e.w.cell? ⟨c, o, none⟩ := World.cell?_of_block (hblk c hc)
      exact h3 c o hc ho (by rw [← hce]; exact hs)
    · have : h.H i ≠ none := by
        by_cases hin : i = n
        · subst hin; simp [hn]
        · simpa [Ytgkacglpjmndbaa.upd, hin] using hi
      exact h4 c hc i this
  · exact hw.tokinj
  · intro m hm
    obtain ⟨g1, g2, g3, g4⟩ := hw.fresh m hm
    refine ⟨?_, g2, g3, g4⟩
    have : m ≠ n := fun he => by rw [he, hn] at g1; cases g1
    simp [Ytgkacglpjmndbaa.upd, this, g1]
  · exact hw.nx0
  · exact hw.rt

/-- A call. -/
def aCall (Φ : Nat → Option PF) (Ψ : Nat → Option MF) (σ : Nat → AV) (h : Hp) (f : Operand) (args : List Operand) : AR :=
  match evA σ f with
  | .c (.d (.v (.func (.func n) fs cs))) =>
    match Φ n with
    | some pf => ⟨fs.size = 0 ∧ cs.size = 0 ∧ (args.all fun x => (evA σ x).isD) = true ∧ pf.pre (args.map fun x => (evA σ x).toD), .c (.d (pf.val (args.map fun x => (evA σ x).toD))), h⟩
    | none => match Ψ n, args with
      | some mf, x :: rest => match evA σ x with
        | .c (.pt m 0) => match h.H m with
          | some row => ⟨fs.size = 0 ∧ cs.size = 0 ∧ row.all C.isD = true ∧ (rest.all fun x => (evA σ x).isD) = true ∧ mf.pre (row.map C.toD) (rest.map fun x => (evA σ x).toD),
              .c (.d (mf.val (row.map C.toD) (rest.map fun x => (evA σ x).toD))), { h with H := upd h.H m (some (rowUpd row (mf.upd (row.map C.toD) (rest.map fun x => (evA σ x).toD)))) }⟩
          | none => .bad h
        | _ => .bad h
      | _, _ => .bad h
  | _ => .bad h

theorem args_rep {σ : Nat → AV} {a : Act} {e : Env} : ∀ {l : List Operand}, (∀ x ∈ l, RA e (evA σ x) (a.eval x)) → (l.all fun x => (evA σ x).isD) = true →
    Rn e.w e.S (l.map fun x => (evA σ x).toD) (l.map a.eval)
  | [], _, _ => .anil
  | x :: l, h, k => by
    simp only [List.all_cons, Bool.and_eq_true] at k
    exact .acons _ _ _ _ ((h x (by simp)).toD k.1) (args_rep (fun y hy => h y (by simp [hy])) k.2)

theorem vr_call {Γ : Ctx} {Φ : Nat → Option PF} {Ψ : Nat → Option MF} {σ : Nat → AV} {h : Hp} (hΦ : ∀ f pf, Φ f = some pf → Callable Γ.P f ∧ PureOk Γ.P f pf) (hΨ : ∀ f mf, Ψ f = some mf → Callable Γ.P f ∧ MethOk Γ.P f mf)
    (o : Oper) (f : Operand) (args : Array Operand) (ts : Array TypeId) (ho : o.op = .call { callee := .value f, args := args, argTypes := ts }) (hp : (aCall Φ Ψ σ h f args.toList).pre) :
    VR Γ o σ h (aCall Φ Ψ σ h f args.toList).val (aCall Φ Ψ σ h f args.toList).h := by
  have hmf : f ∈ o.op.operands := by simp [ho, Op.operands, Call.operands]
  have hma : ∀ x ∈ args.toList, x ∈ o.op.operands := fun x hx => by simp [ho, Op.operands, Call.operands]; right; simpa using hx
  unfold aCall at *
  split at hp
  case h_2 => exact hp.elim
  rename_i n fs cs hf
  have hex : ∀ (a : Act) (w : World), fs.size = 0 → cs.size = 0 → a.eval f = .func (.func n) fs cs → Callable Γ.P n → (execOp a.eval o).run Γ.P w = .ok (.enter n (args.map a.eval)) w := by
    intro a w h1 h2 h3 h4
    have h1 : fs = #[] := Array.eq_empty_of_size_eq_zero h1
    have h2 : cs = #[] := Array.eq_empty_of_size_eq_zero h2
    subst h1; subst h2
    simp only [execOp, ho, resolve, h3, Deferred.ofValue, Sem.run_bind, Sem.run_pure, Result.andThen_ok, invoke, Array.empty_append, Array.append_empty]
    exact h4 _ _
  split at hp
  · rename_i pf hpf
    obtain ⟨p1, p2, p3, p4⟩ := hp
    obtain ⟨c1, c2⟩ := hΦ n pf hpf
    intro a e hop hw K Q hk
    have h1 := hop f hmf
    rw [hf] at h1
    have h1 := R1.vInv h1
    have hargs := args_rep (fun x hx => hop x (hma x hx)) p3
    have hc := c2 e.w e.S _ _ hargs hw.sdom p4
    unfold Oper.wp
    rw [hex a e.w p1 p2 h1 c1, Oper.upon_enter]
    have harr : (⟨args.toList.map a.eval⟩ : Array Value) = args.map a.eval := by apply Array.ext'; simp
    rw [harr] at hc
    refine hc.mono ?_
    rintro en w' ⟨v, rfl, hg, hr⟩
    obtain ⟨w1, l1⟩ := hw.quiet hg
    exact hk v _ w1 l1 hr
  · rename_i hnone
    split at hp
    case h_2 => exact hp.elim
    rename_i mf x rest hmfn hargsl
    split at hp
    case h_2 => exact hp.elim
    rename_i m hx
    split at hp
    case h_2 => exact hp.elim
    rename_i row hrow
    obtain ⟨p1, p2, p3, p4, p5⟩ := hp
    obtain ⟨c1, c2⟩ := hΨ n mf hmfn
    intro a e hop hw K Q hk
    have h1 := hop f hmf
    rw [hf] at h1
    have h1 := R1.vInv h1
    have h2 := hop x (hma x (by rw [hargsl]; simp))
    rw [hx] at h2
    obtain ⟨b, h3, h4⟩ := h2
    obtain ⟨b', cs0, ty, q1, q2, q3, q4, q5⟩ := hw.boxAt h3 row hrow
    have q3 := q3.plain (rowP_of_isD p3)
    rw [h3] at q1; simp at q1; subst q1
    have hargs := args_rep (l := rest) (fun y hy => hop y (hma y (by rw [hargsl]; simp [hy]))) p4
    have hc := c2 e.w e.S b cs0 ty (row.map C.toD) _ _ q2 q4 (RCs.toD p3 q3) hargs hw.sdom p5
    unfold Oper.wp
    rw [hex a e.w p1 p2 h1 c1, Oper.upon_enter]
    have harr : (⟨Value.pointer (some ⟨b, 0, none⟩) :: rest.map a.eval⟩ : Array Value) = args.map a.eval := by
      apply Array.ext'
      simp [hargsl, h4]
    rw [harr] at hc
    refine hc.mono ?_
    rintro en w' ⟨v, cs', ty', rfl, hg, hb', hu, hr⟩
    have hle := hw.upBox_le hrow h3 hg
    have hwi := hw.upBox (row' := rowUpd row (mf.upd (row.map C.toD) (rest.map fun x => (evA σ x).toD))) hrow h3 q2 hg hb' (by have := hu.length; simpa using this) (RCs.upd _ (RCs.mono hle q3) hu)
    exact hk v _ hwi hle hr

/-- A builtin's call. -/
def aCallB (P : Program) (σ : Nat → AV) (h : Hp) (b : Builtin) (args : List Operand) (ts : List TypeId) : AR :=
  match b, args, ts with
  | .len, [x], [t] => aLen P σ h t x
  | .append, [s, x], [t, u] => if t = u then aAppend P σ h t s x else .bad h
  | .min, [x, y], _ => aMinMax σ h false x y
  | .max, [x, y], _ => aMinMax σ h true x y
  | _, _, _ => .bad h

def aop (P : Program) (Φ : Nat → Option PF) (Ψ : Nat → Option MF) (op : Op) (σ : Nat → AV) (h : Hp) : AR :=
  match op with
  | .move x => ⟨True, evA σ x, h⟩
  | .assign x => ⟨True, evA σ x, h⟩
  | .pick c x y => aPick σ h c x y
  | .binOp op t x y _ => aBin P σ h op t x y
  | .unOp op _ x => aUn σ h op x
  | .convert s d x => aConvert P σ h s d x
  | .alloc t => aAlloc P h t
  | .box _ x => aBox h σ x
  | .build t ps => aBuild P σ h t ps.toList
  | .buildSlice t n ps => aBuildSlice P σ h t n ps.toList
  | .load t x => aLoad P σ h t x
  | .store t x y => aStore P h σ t x y
  | .nilCheck x => aNilCheck σ h x
  | .slice t x lo hi none => aSlice P σ h t x lo hi
  | .fieldAddr t x f => aFieldAddr P σ h t x f
  | .field t x f => aField P σ h t x f
  | .indexAddr t x i => aIndexAddr P σ h t x i
  | .index t x i => aIndex P σ h t x i
  | .extract x i => aExtract σ h x i
  | .call c => match c.callee with
    | .builtin b => aCallB P σ h b c.args.toList c.argTypes.toList
    | .value f => aCall Φ Ψ σ h f c.args.toList
    | _ => .bad h
  | _ => .bad h

theorem arr1 {α : Type} {a : Array α} {x : α} (h : a.toList = [x]) : a = #[x] := Array.ext' (by simpa using h)
theorem arr2 {α : Type} {a : Array α} {x y : α} (h : a.toList = [x, y]) : a = #[x, y] := Array.ext' (by simpa using h)

theorem aop_vr {Γ : Ctx} {Φ : Nat → Option PF} {Ψ : Nat → Option MF} {σ : Nat → AV} {h : Hp} (hΦ : ∀ f pf, Φ f = some pf → Callable Γ.P f ∧ PureOk Γ.P f pf) (hΨ : ∀ f mf, Ψ f = some mf → Callable Γ.P f ∧ MethOk Γ.P f mf)
    (o : Oper) (hp : (aop Γ.P Φ Ψ o.op σ h).pre) : VR Γ o σ h (aop Γ.P Φ Ψ o.op σ h).val (aop Γ.P Φ Ψ o.op σ h).h := by
  cases hop : o.op <;> rw [hop] at hp <;> simp only [aop] at hp ⊢ <;> try (exact hp.elim)
  case move x => exact vr_move o x (.inl hop)
  case assign x => exact vr_move o x (.inr hop)
  case pick c x y => exact vr_pick o c x y hop hp
  case binOp op t x y u => exact vr_bin o op t x y u hop hp
  case unOp op t x => exact vr_un o op t x hop hp
  case convert s d x => exact vr_convert o s d x hop hp
  case alloc t => exact vr_alloc o t hop hp
  case box t x => exact vr_box o t x hop hp
  case build t ps => exact vr_build o t ps hop hp
  case buildSlice t n ps => exact vr_buildSlice o t n ps hop hp
  case load t x => exact vr_load o t x hop hp
  case store t x y => exact vr_store o t x y hop hp
  case nilCheck x => exact vr_nilCheck o x hop hp
  case slice t x lo hi mx =>
    cases mx with
    | none => exact vr_slice o t x lo hi hop hp
    | some _ => exact hp.elim
  case fieldAddr t x f => exact vr_fieldAddr o t x f hop hp
  case field t x f => exact vr_field o t x f hop hp
  case indexAddr t x i => exact vr_indexAddr o t x i hop hp
  case index t x i => exact vr_index o t x i hop hp
  case extract x i => exact vr_extract o x i hop hp
  case call c =>
    obtain ⟨callee, args, ts⟩ := c
    cases callee with
    | invoke _ _ => exact hp.elim
    | value f => exact vr_call hΦ hΨ o f args ts hop hp
    | builtin b =>
      simp only at hp ⊢
      unfold aCallB at *
      split at hp
      · rename_i x t h1 h2
        rw [arr1 h1, arr1 h2] at hop
        exact vr_len o t x hop hp
      · rename_i s x t u h1 h2
        split at hp
        · rename_i htu
          subst htu
          rw [arr2 h1, arr2 h2] at hop
          simp only [if_true]
          exact vr_append o t s x hop hp
        · exact hp.elim
      · rename_i x y h1
        rw [arr2 h1] at hop
        exact vr_minmax o false ts x y (by simpa using hop) hp
      · rename_i x y h1
        rw [arr2 h1] at hop
        exact vr_minmax o true ts x y (by simpa using hop) hp
      · exact hp.elim

end Go.Proofs.Ytgkacglpjmndbaa
