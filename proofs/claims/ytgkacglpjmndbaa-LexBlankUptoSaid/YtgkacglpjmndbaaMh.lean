/- append. -/
import Derived.Test.YtgkacglpjmndbaaMg
namespace Go.Proofs.Ytgkacglpjmndbaa
open Go.RowKit

def tBytes (P : Program) (t : TypeId) : Nat := ((P.info? t).map (·.bytes)).getD 0

def Hp.tok (h : Hp) (k : Nat) (el : TypeId) : Hp := { h with T := upd (upd h.T k none) h.nx (some el), nx := h.nx + 1 }

theorem ownsRow_cases {w : World} {B ty sz n : Nat} {v : Value} {xs : List Value} (h : w.ownsRow B ty sz v n xs) :
    (v = .slice none 0 0) ∨ ∃ g cap cur, v = .slice (some ⟨g, 0, none⟩) n cap ∧ B ≤ g ∧ w.heap[g]? = some (.cells cur ty (0, 0)) ∧ n ≤ cap ∧ cap ≤ maxLen ∧ cur.size = cap * sz ∧ cur.toList.take (n * sz) = xs := by
  rcases h.2 with ⟨h1, _⟩ | h2
  · exact .inl h1
  · exact .inr h2

/-- A token of a slice that is no more than it was: any slice that is nil. -/
theorem WInv.tokFull {Γ : Ctx} {h : Hp} {e : Env} (hw : WInv Γ h e) (ty : TypeId) {v : Value} (hv : FullS v) :
    ∃ e', e'.w = e.w ∧ WInv Γ { h with T := upd h.T h.nx (some ty), nx := h.nx + 1 } e' ∧ e.le e' := by
  obtain ⟨w1, l1⟩ := hw.addTok (v := v) (ty := ty) (.inl hv) (fun h => absurd hv h)
  exact ⟨{ e with τ := upd e.τ h.nx (some v) }, rfl, w1, l1⟩

/-- A new array: where an append could not stay where it was. -/
theorem WInv.newArr {Γ : Ctx} {h : Hp} {e : Env} (hw : WInv Γ h e) {el : TypeId} {sz cap : Nat} {l : List D} {vs zs : List Value} {cur : Array Value}
    (hsz : 0 < sz ∧ sz = tSize Γ.P el) (hr : Rn e.w e.S (l.flatMap D.cells) vs) (hd : ∀ d ∈ l, d.cells.length = sz) (hcur : cur.toList = vs ++ zs) (hcs : cur.size = cap * sz) (hcap : l.length ≤ cap) (hmax : cap ≤ maxLen) :
    ∃ e', e'.w = e.w.drew.alloc (.cells cur el) ∧ WInv Γ { h with T := upd h.T h.nx (some el), nx := h.nx + 1 } e' ∧ e.le e' ∧
      RC e' (.sl sz l h.nx) (.slice (some ⟨e.w.heap.size, 0, none⟩) l.length cap) := by
  have hnx0 : h.nx ≠ 0 := by have := hw.nx0; omega
  have hg : Grows e.w (e.w.drew.alloc (.cells cur el)) := (Grows.drew e.w).trans (Grows.alloc _ _)
  have hvl : vs.length = l.length * sz := by rw [hr.length, flat_length hd]
  obtain ⟨w1, l1⟩ := hw.grows (S' := fun b o => e.S b o ∨ (b = e.w.heap.size ∧ l.length * sz ≤ o)) hg (fun b o hb => ⟨fun h => h.resolve_right (fun h => by omega), .inl⟩) (fun b o hb => by
    simp
    rcases hb with hb | hb
    · have := hw.sdom b o hb; omega
    · omega)
  have hcell : ∀ j, (e.w.drew.alloc (.cells cur el)).cell? ⟨e.w.heap.size, j, none⟩ = cur[j]? := fun j => cell_new e.w.drew cur el j
  have hnew : (e.w.drew.alloc (.cells cur el)).heap[e.w.heap.size]? = some (.cells cur el (0, 0)) := heap_alloc_new e.w.drew _
  have howns : (e.w.drew.alloc (.cells cur el)).ownsRow Γ.B el sz (.slice (some ⟨e.w.heap.size, 0, none⟩) l.length cap) l.length vs :=
    ⟨hvl, .inr ⟨e.w.heap.size, cap, cur, rfl, hw.hB, hnew, hcap, hmax, hcs, by rw [hcur, ← hvl]; simp⟩⟩
  obtain ⟨w2, l2⟩ := w1.addTok (v := .slice (some ⟨e.w.heap.size, 0, none⟩) l.length cap) (ty := el) (.inr ⟨sz, l.length, vs, hsz, howns,
    (fun b o hb ho _ => by simp [Value.ownBlock] at hb; exact .inr ⟨hb.symm, ho⟩),
    (fun b hb m hm hρ => by
      simp [Value.ownBlock] at hb
      subst hb
      cases hH : h.H m with
      | none => exact hm hH
      | some r =>
        simp only at hρ
        obtain ⟨b', cs', ty', q1, q2, _⟩ := hw.boxAt hρ r hH
        rw [hρ] at q1; simp at q1; subst q1
        have := (Array.getElem?_eq_some_iff.1 q2).1
        omega)⟩)
    (fun _ k u b hk hu hb hfull hb' => by
      simp [Value.ownBlock] at hb'
      cases hT : h.T k with
      | none => exact hk hT
      | some ty =>
        obtain ⟨_, v', q1, q2⟩ := hw.tok k ty hT
        simp only at hu
        rw [hu] at q1; simp at q1; subst q1
        obtain ⟨sz', n, xs, _, q2, _⟩ := q2.resolve_left hfull
        have := (q2.lt _ hb).2
        omega)
  refine ⟨_, rfl, w2, l1.trans l2, ?_, ?_⟩
  · refine RD.sl sz l vs e.w.heap.size 0 cap (RD.mono (l1.trans l2).keep hr) (fun i x hx => ?_) hd hcap
    have hil : i < vs.length := (List.getElem?_eq_some_iff.1 hx).1
    refine ⟨?_, fun hS => ?_⟩
    · show (e.w.drew.alloc (.cells cur el)).cell? _ = _
      rw [Nat.zero_add, hcell, ← Array.getElem?_toList, hcur, List.getElem?_append_left hil, hx]
    · rcases hS with hS | ⟨_, hS⟩
      · have := hw.sdom _ _ hS; omega
      · omega
  · exact .inr ⟨hnx0, by simp⟩

/-- An append to an array: its new name. -/
def aAppArr (P : Program) (h : Hp) (t : TypeId) (n sz len szy : Nat) (ys : List D) (op : List C) : Option (List C) → AR
  | some (.arr sz' l :: cs) => ⟨tSlice P t = true ∧ tZok P (tElem P t) = true ∧ (tZ P (tElem P t)).length = tSize P (tElem P t) ∧ 0 < sz ∧ sz = tSize P (tElem P t) ∧ sz = sz' ∧ szy = sz ∧ len = l.length + cs.length ∧
      cs.all C.isD = true ∧ (cs.map C.toD).all D.one = true ∧ (op = [] ∨ sz = 1) ∧ 0 < ys.length + op.length ∧ (len + (ys.length + op.length)) * tBytes P (tElem P t) ≤ 140737488355328 ∧ len + (ys.length + op.length) ≤ 9223372036854775807 ∧
      (∀ y ∈ ys, y.cells.all D.one = true) ∧ op.all C.one = true,
     .c (.os h.nx sz (len + (ys.length + op.length))), { h with H := upd (upd h.H n none) h.nx (some (.arr sz (l ++ cs.map C.toD ++ ys) :: op)), nx := h.nx + 1 }⟩
  | _ => .bad h

def aAppend (P : Program) (σ : Nat → AV) (h : Hp) (t : TypeId) (s x : Operand) : AR :=
  match evA σ s, slD (evA σ x) with
  | .c (.sl sz l k), some (szy, ys) =>
    ⟨tSlice P t = true ∧ tZok P (tElem P t) = true ∧ (tZ P (tElem P t)).length = tSize P (tElem P t) ∧ 0 < tSize P (tElem P t) ∧ (l = [] ∨ sz = tSize P (tElem P t)) ∧ (ys = [] ∨ szy = tSize P (tElem P t)) ∧
      (k = 0 ∨ h.T k = some (tElem P t)) ∧ (l.length + ys.length) * tBytes P (tElem P t) ≤ 140737488355328 ∧ l.length + ys.length ≤ 9223372036854775807 ∧ (∀ y ∈ ys, y.cells.all D.one = true),
     .c (.sl (tSize P (tElem P t)) (l ++ ys) h.nx), h.tok k (tElem P t)⟩
  | .c (.os n sz len), some (szy, ys) => if arrTy t = true then aAppArr P h t n sz len szy ys [] (h.H n) else .bad h
  | .c (.os n sz len), none => match evA σ x with
    | .c .nl => if arrTy t = true then aAppArr P h t n sz len 1 [] [.sl 0 [] 0] (h.H n) else .bad h
    | _ => .bad h
  | _, _ => .bad h

theorem Rn.one {w : World} {S : Nat → Nat → Prop} : ∀ {l : List D} {vs : List Value}, Rn w S l vs → l.all D.one = true → ∀ v ∈ vs, v.oneCell' = true
  | [], _, h, _, v, hv => by cases h; simp at hv
  | d :: l, _, h, k, v, hv => by
    cases h with
    | acons _ x _ vs h1 h2 =>
      simp only [List.all_cons, Bool.and_eq_true] at k
      simp only [List.mem_cons] at hv
      rcases hv with rfl | hv
      · cases d with
        | v y => have := R1.vInv h1; subst this; exact k.1
        | sl _ _ => exact R1.slOne h1
        | _ => simp [D.one] at k
      · exact Rn.one h2 k.2 v hv

theorem all_flat {l : List D} (h : ∀ y ∈ l, y.cells.all D.one = true) : (l.flatMap D.cells).all D.one = true := by
  rw [List.all_eq_true]
  intro d hd
  rw [List.mem_flatMap] at hd
  obtain ⟨y, hy, hdy⟩ := hd
  exact List.all_eq_true.1 (h y hy) d hdy

/-- A new array of one's own. -/
theorem WInv.newArrBox {Γ : Ctx} {h : Hp} {e : Env} (hw : WInv Γ h e) {el : TypeId} {sz cap : Nat} {l : List D} {op : List C} {us ts zs : List Value} {cur : Array Value}
    (hcur : cur.toList = us ++ ts ++ zs) (hr : Rn e.w e.S (l.flatMap D.cells) us) (hd : ∀ d ∈ l, d.cells.length = sz) (ho : RCs e op ts) (ho1 : op = [] ∨ sz = 1) (hsz : 0 < sz) (hcs : cur.size = cap * sz) (hmax : cap ≤ maxLen) :
    ∃ e', e'.w = e.w.drew.alloc (.cells cur el) ∧ WInv Γ { h with H := upd h.H h.nx (some (.arr sz l :: op)), nx := h.nx + 1 } e' ∧ e.le e' ∧ e'.ρ h.nx = some e.w.heap.size ∧ e'.τ h.nx = some (.slice none cap cap) := by
  have hg : Grows e.w (e.w.drew.alloc (.cells cur el)) := (Grows.drew e.w).trans (Grows.alloc _ _)
  obtain ⟨w1, l1⟩ := hw.grows (S' := fun b o => e.S b o ∨ b = e.w.heap.size) hg (fun b o hb => ⟨fun h => h.resolve_right (by omega), .inl⟩) (fun b o hb => by
    simp
    rcases hb with hb | hb
    · have := hw.sdom b o hb; omega
    · omega)
  have hnew : (e.w.drew.alloc (.cells cur el)).heap[e.w.heap.size]? = some (.cells cur el (0, 0)) := heap_alloc_new e.w.drew _
  obtain ⟨f1, f2, f3, f4⟩ := w1.fresh h.nx (Nat.le_refl _)
  have hle := (Env.le_name (b := e.w.heap.size) f3).trans (Env.le_tok (v := .slice none cap cap) (e := { ({ e with w := e.w.drew.alloc (.cells cur el), S := fun b o => e.S b o ∨ b = e.w.heap.size } : Env) with ρ := upd e.ρ h.nx (some e.w.heap.size) }) f4)
  have hle2 := l1.trans hle
  obtain ⟨w2, l2⟩ := w1.addArr (b := e.w.heap.size) (cs := cur) (ty := el) (row := .arr sz l :: op) (u := .slice none cap cap) hnew
    ⟨us, ts, zs, cap, hcur, RD.mono hle2.keep hr, hd, RCs.mono hle2 ho, ho1, hsz, by simpa using hcs, hmax, by simp⟩ (fun o _ => .inr rfl) (.inl hw.hB)
    (fun n hn hb => by
      cases hH : h.H n with
      | none => exact hn hH
      | some r =>
        simp only at hb
        obtain ⟨b', cs', ty', q1, q2, _⟩ := hw.boxAt hb r hH
        rw [hb] at q1; simp at q1; subst q1
        have := (Array.getElem?_eq_some_iff.1 q2).1
        omega)
    (fun k v hk hv hfull hb => by
      cases hT : h.T k with
      | none => exact absurd hT hk
      | some ty =>
        obtain ⟨_, v', q1, q2⟩ := hw.tok k ty hT
        simp only at hv
        rw [hv] at q1; simp at q1; subst q1
        obtain ⟨sz, n, xs, _, q2, _⟩ := q2.resolve_left hfull
        have := (q2.lt _ hb).2
        omega)
  exact ⟨_, rfl, w2, l1.trans l2, by simp, by simp⟩

theorem run_append_none {P : Program} {w : World} {t ty el : TypeId} {base : Option Addr} {n cap : Nat} {xv : Value} {sz : Nat} (hu : P.underlying t = some (.slice el)) (hs : (sizeOf el).run P w = .ok sz w)
    (hn : n ≤ cap) (hx : xv = .slice none 0 0 ∨ ∃ a c, xv = .slice (some a) 0 c) : (Builtin.append_ #[t, t] ty #[.slice base n cap, xv]).run P w = .ok (.slice base n cap) w := by
  rcases hx with rfl | ⟨a, c, rfl⟩ <;> cases base <;>
    simp [Builtin.append_, run_underlying hu, hs, Builtin.lenOf, hn, Builtin.firstCells, loadCells, loadCellsFrom, storeCells]

theorem R1.resize {w : World} {S : Nat → Nat → Prop} {sz sz' : Nat} {l : List D} {v : Value} (h : R1 w S (.sl sz l) v) (hl : l = [] ∨ sz = sz') : R1 w S (.sl sz' l) v := by
  rcases hl with rfl | rfl
  · rcases h.slInv with ⟨_, _, rfl⟩ | ⟨vs, b, o, cap, rfl, _⟩
    · exact .slnil _ _
    · exact RD.sl _ [] [] b o cap .anil (by simp) (by simp) (by simp)
  · exact h

/-- An append that stays where it was. -/
theorem WInv.inPlace {Γ : Ctx} {h : Hp} {e : Env} (hw : WInv Γ h e) {k : Nat} {el : TypeId} {g n cap : Nat} {cur : Array Value} {xs news : List Value} {sz m : Nat}
    (hk : h.T k = some el) (hτ : e.τ k = some (.slice (some ⟨g, 0, none⟩) n cap)) (hnf : n < cap) (hsz : 0 < sz ∧ sz = tSize Γ.P el)
    (hg : e.w.heap[g]? = some (.cells cur el (0, 0))) (hB : Γ.B ≤ g) (hcs : cur.size = cap * sz) (hmax : cap ≤ maxLen) (hm : news.length = m * sz) (hroom : n + m ≤ cap) (hxs : cur.toList.take (n * sz) = xs) :
    ∃ e', e'.w = e.w.setRow g (cur.toList.take (n * sz) ++ news ++ cur.toList.drop (n * sz + news.length)).toArray ∧ WInv Γ (h.tok k el) e' ∧ e.le e' ∧
      e'.τ h.nx = some (.slice (some ⟨g, 0, none⟩) (n + m) cap) ∧ (∀ i x, (xs ++ news)[i]? = some x → (∀ j, j < n * sz → ¬ e.S g j) → e'.w.cell? ⟨g, i, none⟩ = some x ∧ ¬ e'.S g i) := by
  obtain ⟨hk0, v, q1, qor⟩ := hw.tok k el hk
  rw [hτ] at q1
  simp at q1
  subst q1
  have hnfull : ¬ FullS (.slice (some ⟨g, 0, none⟩) n cap) := by
    rintro ⟨a, m', hh⟩
    simp at hh; omega
  obtain ⟨sz', n', xs', q2, q3, q4, q5⟩ := qor.resolve_left hnfull
  have hsz' : sz' = sz := by rw [q2.2, hsz.2]
  subst hsz'
  have hn' : n' = n := by
    rcases ownsRow_cases q3 with hh | ⟨g', cap', cur', hh, _⟩
    · cases hh
    · simp at hh; omega
  subst hn'
  generalize hcur' : (cur.toList.take (n' * sz') ++ news ++ cur.toList.drop (n' * sz' + news.length)).toArray = cur'
  have hlen : n' * sz' + news.length ≤ cur.size := by rw [hm, hcs, ← Nat.add_mul]; exact Nat.mul_le_mul_right _ hroom
  have hsize : cur'.size = cur.size := by rw [← hcur']; simp; omega
  have hspare : ∀ o x, e.w.cell? ⟨g, o, none⟩ = some x → ¬ e.S g o → o < n' * sz' := fun o x hx hs => by
    rcases Nat.lt_or_ge o (n' * sz') with h' | h'
    · exact h'
    · exact absurd (q4 g o rfl h' (by rw [hx]; rfl)) hs
  have hw1 := hw.dropTok k
  have hle : e.le { e with w := e.w.setRow g cur', S := fun c o => e.S c o ∧ ¬ (c = g ∧ n' * sz' ≤ o ∧ o < (n' + m) * sz') } := ⟨fun c o x hc hs => by
    refine ⟨?_, fun h' => hs h'.1⟩
    by_cases hcg : c = g
    · subst hcg
      have ho := hspare o x hc hs
      show (e.w.setRow c cur').cell? _ = _
      rw [cell_setRow_same _ _ _ _ _ _ _ hg, ← hcur']
      have hx : cur[o]? = some x := by simpa [World.cell?, hg] using hc
      have : (cur.toList.take (n' * sz'))[o]? = some x := by rw [List.getElem?_take, if_pos ho]; simpa using hx
      have hl : o < (cur.toList.take (n' * sz')).length := (List.getElem?_eq_some_iff.1 this).1
      simp only [List.getElem?_toArray]
      rw [List.append_assoc, List.getElem?_append_left hl, this]
    · exact (World.cell?_of_block (setRow_other _ _ _ _ hcg)).trans hc, fun _ _ h => h, fun _ _ h => h⟩
  have hbox : ∀ m', h.H m' ≠ none → e.ρ m' ≠ some g := q5 g rfl
  have w2 : WInv Γ { h with T := upd h.T k none } { e with w := e.w.setRow g cur', S := fun c o => e.S c o ∧ ¬ (c = g ∧ n' * sz' ≤ o ∧ o < (n' + m) * sz') } := by
    constructor
    · exact hw.os
    · exact hw.tape
    · exact hw.output
    · simpa using hw.grown
    · simpa using hw.hB
    · intro b hb hmm
      exact (setRow_other _ _ _ _ (by omega)).trans (hw.old b hb hmm)
    · intro b o hb; simpa using hw.sdom b o hb.1
    · intro b o h0 hmm
      have := hw.s0B b o h0
      exact ⟨hw.s0 b o h0 hmm, fun h' => by omega⟩
    · exact hw.s0B
    · intro i row hi
      rcases hw.box i row hi with hz | ⟨b, cs, ty, h1, h2, h3, h4, h5⟩
      · exact .inl hz
      have hne : b ≠ g := fun he => by subst he; exact hbox i (by simp at hi; simp [hi]) h1
      exact .inr ⟨b, cs, ty, h1, (setRow_other _ _ _ _ hne).trans h2, RB.mono hle h3, fun o ho => ⟨h4 o ho, fun h' => hne h'.1⟩, h5⟩
    · exact hw.inj
    · intro i ty hi
      obtain ⟨h0, u, r1, ror⟩ := hw1.tok i ty hi
      refine ⟨h0, u, r1, ?_⟩
      by_cases hfu : FullS u
      · exact .inl hfu
      obtain ⟨s2, n2, x2, r2, r3, r4, r5⟩ := ror.resolve_left hfu
      have hne : ∀ c, u.ownBlock = some c → c ≠ g := fun c hc he => by
        subst he
        have hik : i ≠ k := fun he => by subst he; simp at hi
        have hTi : h.T i ≠ none := by simp only [upd, hik, if_false] at hi; rw [hi]; simp
        exact hik (hw.tokinj i k u _ c hTi (by rw [hk]; simp) r1 hτ hc rfl hfu hnfull)
      refine .inr ⟨s2, n2, x2, r2, ownsRow_same r3 (fun c hc => setRow_other _ _ _ _ (hne c hc)), fun c o hc ho hs => ?_, r5⟩
      have hce : (e.w.setRow g cur').cell? ⟨c, o, none⟩ = e.w.cell? ⟨c, o, none⟩ := World.cell?_of_block (setRow_other _ _ _ _ (hne c hc))
      exact ⟨r4 c o hc ho (by rw [← hce]; exact hs), fun h' => hne c hc h'.1⟩
    · exact hw1.tokinj
    · exact hw1.fresh
    · exact hw1.nx0
    · exact hw1.rt
  have hrow := setRow_heap e.w g cur cur' el (0, 0) hg
  have howns : (e.w.setRow g cur').ownsRow Γ.B el sz' (.slice (some ⟨g, 0, none⟩) (n' + m) cap) (n' + m) (cur'.toList.take ((n' + m) * sz')) := by
    refine ⟨?_, .inr ⟨g, cap, cur', rfl, hB, hrow, hroom, hmax, by rw [hsize]; exact hcs, rfl⟩⟩
    simp [hsize, hcs, Nat.min_eq_left hroom]
    try exact Nat.mul_le_mul_right _ hroom
  obtain ⟨w3, l3⟩ := w2.addTok (v := .slice (some ⟨g, 0, none⟩) (n' + m) cap) (ty := el) (.inr ⟨_, _, _, hsz, howns,
    (fun b o hb ho hc => by
      simp [Value.ownBlock] at hb
      subst hb
      refine ⟨q4 g o rfl (Nat.le_trans (Nat.mul_le_mul_right _ (by omega)) ho) ?_, fun h' => by omega⟩
      have hc' : ((e.w.setRow g cur').cell? ⟨g, o, none⟩).isSome := hc
      rw [cell_setRow_same _ _ _ _ _ _ _ hg] at hc'
      rw [Option.isSome_iff_exists] at hc' ⊢
      obtain ⟨y, hy⟩ := hc'
      have : o < cur'.size := (Array.getElem?_eq_some_iff.1 hy).1
      exact ⟨cur[o], by simp [World.cell?, hg]⟩),
    (fun b hb i hi => by simp [Value.ownBlock] at hb; subst hb; exact hbox i hi)⟩)
    (fun _ i u b hi hu hb hfu hb' => by
      simp [Value.ownBlock] at hb'
      subst hb'
      have hik : i ≠ k := fun he => by subst he; simp at hi
      have hTi : h.T i ≠ none := by simpa [upd, hik] using hi
      exact hik (hw.tokinj i k u _ g hTi (by rw [hk]; simp) hu hτ hb rfl hfu hnfull))
  refine ⟨_, ?_, w3, hle.trans l3, by simp, fun i x hx hS => ?_⟩
  · rfl
  · have hxl : xs.length = n' * sz' := by rw [← hxs]; simp; omega
    have hi : i < (n' + m) * sz' := by
      have := (List.getElem?_eq_some_iff.1 hx).1
      simp [hxl, hm] at this
      rw [Nat.add_mul]; exact this
    refine ⟨?_, fun h' => ?_⟩
    · show (e.w.setRow g cur').cell? _ = _
      rw [cell_setRow_same _ _ _ _ _ _ _ hg, ← hcur', hxs]
      simp only [List.getElem?_toArray]
      have hl : i < (xs ++ news).length := (List.getElem?_eq_some_iff.1 hx).1
      rw [List.getElem?_append_left hl, hx]
    · rcases Nat.lt_or_ge i (n' * sz') with h2 | h2
      · exact hS i h2 h'.1
      · exact h'.2 ⟨rfl, h2, hi⟩

theorem run_append_room_ty {P : Program} {w : World} (t ty e e' : TypeId) (i : TypeInfo) (ht : P.underlying t = some (.slice e)) (hi : P.info? e = some i)
    (g sLen sCap : Nat) (cur : Array Value) (hg : w.heap[g]? = some (.cells cur e' (0, 0)))
    (a : Addr) (m c : Nat) (news : List Value) (hl : news.length = m * i.size) (hnews : ∀ j u, news[j]? = some u → w.cell? (a.add j) = some u) (h1 : ∀ u ∈ news, u.oneCell' = true)
    (hroom : sLen + m ≤ sCap) (hfit : sLen * i.size + news.length ≤ cur.size) :
    (Builtin.append_ #[t, t] ty #[.slice (some ⟨g, 0, none⟩) sLen sCap, .slice (some a) m c]).run P w =
      .ok (.slice (some ⟨g, 0, none⟩) (sLen + m) sCap) (w.setRow g (cur.toList.take (sLen * i.size) ++ news ++ cur.toList.drop (sLen * i.size + news.length)).toArray) := by
  have hf := run_firstCells_some (P := P) w i.size m a m c news hl hnews
  have hst := run_storeCells_at P g (sLen * i.size) e' news 0 cur w hg (by simpa using hfit) h1
  simp only [Nat.add_zero] at hst
  simp [Builtin.append_, run_underlying ht, sizeOf, typeInfo, hi, Builtin.lenOf, hroom, hf, Addr.add_lit, hst]

/-- An append to an array of one's own. -/
theorem app_arr {Γ : Ctx} {h : Hp} {e : Env} (hw : WInv Γ h e) {t ty el : TypeId} {i : TypeInfo} {z sv : Value} {n sz len m bx ox cx : Nat} {l ys : List D} {cs op : List C} {v1 v2 : List Value}
    (hu : Γ.P.underlying t = some (.slice el)) (hi : Γ.P.info? el = some i) (hz : i.zero = some z) (hzl : z.cells.size = i.size) (hrow : h.H n = some (.arr sz l :: cs)) (hsz : i.size = sz) (h0 : 0 < sz)
    (hlen : len = l.length + cs.length) (hD : cs.all C.isD = true) (h1D : (cs.map C.toD).all D.one = true) (h1 : RC e (.os n sz len) sv)
    (hr1 : Rn e.w e.S (ys.flatMap D.cells) v1) (hd1 : ∀ d ∈ ys, d.cells.length = sz) (hr2 : RCs e op v2) (hop : op = [] ∨ sz = 1) (hm : (v1 ++ v2).length = m * i.size)
    (hnews : ∀ j v, (v1 ++ v2)[j]? = some v → e.w.cell? ((⟨bx, ox, none⟩ : Addr).add j) = some v) (hpos : 0 < m) (hfit : (len + m) * i.bytes ≤ 140737488355328) (hmx : len + m ≤ 9223372036854775807)
    (hone : ∀ v ∈ v1 ++ v2, v.oneCell' = true) :
    ∃ r e', (Builtin.append_ #[t, t] ty #[sv, .slice (some ⟨bx, ox, none⟩) m cx]).run Γ.P e.w = .ok r e'.w ∧
      WInv Γ { h with H := upd (upd h.H n none) h.nx (some (.arr sz (l ++ cs.map C.toD ++ ys) :: op)), nx := h.nx + 1 } e' ∧ e.le e' ∧ RC e' (.os h.nx sz (len + m)) r := by
  have hflat : ∀ {q : List D}, q.all D.one = true → q.flatMap D.cells = q := fun {q} hq => by
    induction q with
    | nil => rfl
    | cons d q ih =>
      simp only [List.all_cons, Bool.and_eq_true] at hq
      rw [List.flatMap_cons, ih hq.2]
      cases d <;> first | rfl | (cases hq.1)
  have grown : ∀ (olds : List Value) (old : Nat), Rn e.w e.S ((l ++ cs.map C.toD).flatMap D.cells) olds → (∀ d ∈ l ++ cs.map C.toD, d.cells.length = sz) →
      (Builtin.append_ #[t, t] ty #[sv, .slice (some ⟨bx, ox, none⟩) m cx]).run Γ.P e.w = .ok (.slice (some ⟨e.w.heap.size, 0, none⟩) (len + m) (grownCap e.w (len + m) old el))
        (e.w.drew.alloc (.cells (olds.toArray ++ (v1 ++ v2).toArray ++ Builtin.zeroCells z.cells (grownCap e.w (len + m) old el - (len + m))) el)) →
      ∃ r e', (Builtin.append_ #[t, t] ty #[sv, .slice (some ⟨bx, ox, none⟩) m cx]).run Γ.P e.w = .ok r e'.w ∧
        WInv Γ { h with H := upd (upd h.H n none) h.nx (some (.arr sz (l ++ cs.map C.toD ++ ys) :: op)), nx := h.nx + 1 } e' ∧ e.le e' ∧ RC e' (.os h.nx sz (len + m)) r := by
    intro olds old hR hd hrun
    have hge := grownCap_ge e.w (len + m) old el
    have hmxl := grownCap_le_maxLen e.w (len + m) old el (by unfold maxLen; omega)
    have hol : olds.length = len * sz := by rw [hR.length, flat_length hd, List.length_append, List.length_map, hlen]
    obtain ⟨e', g1, g2, g3, g4, g5⟩ := (hw.dropBox n).newArrBox (el := el) (sz := sz) (cap := grownCap e.w (len + m) old el) (l := l ++ cs.map C.toD ++ ys) (op := op) (us := olds ++ v1) (ts := v2)
      (zs := (Builtin.zeroCells z.cells (grownCap e.w (len + m) old el - (len + m))).toList)
      (cur := olds.toArray ++ (v1 ++ v2).toArray ++ Builtin.zeroCells z.cells (grownCap e.w (len + m) old el - (len + m)))
      (by simp) (by rw [List.flatMap_append]; exact hR.append hr1) (fun d hd' => by
        rcases List.mem_append.1 hd' with hd' | hd'
        · exact hd d hd'
        · exact hd1 d hd') hr2 hop h0 (by
        simp only [Array.size_append, List.size_toArray, size_zeroCells, hzl, hol, hm, hsz, ← Nat.add_mul]
        congr 1; omega) hmxl
    refine ⟨_, e', ?_, g2, g3, .inr ⟨_, _, g4, g5, rfl, by simpa using hge⟩⟩
    rw [g1]; exact hrun
  have hfit' : (len + m) * i.bytes ≤ 140737488355328 := hfit
  rcases h1 with ⟨hl0, o, hv⟩ | ⟨b, cap, k1, k2, hv, k4⟩
  · have e1 : l = [] := List.length_eq_zero_iff.1 (by omega)
    have e2 : cs = [] := List.length_eq_zero_iff.1 (by omega)
    subst e1; subst e2; subst hl0
    refine grown [] 0 .anil (fun d hd => by simp at hd) ?_
    rw [hv]
    simp only [Nat.zero_add] at hfit ⊢
    cases o with
    | none =>
      have := run_append_nil (P := Γ.P) (w := e.w) t ty el i z hu hi hz ⟨bx, ox, none⟩ m cx (v1 ++ v2) hm hnews hpos (by omega) (by omega)
      simpa using this
    | some a' =>
      have := run_append_grow (P := Γ.P) (w := e.w) t ty el i z hu hi hz a' 0 0 [] (by simp) (by simp) ⟨bx, ox, none⟩ m cx (v1 ++ v2) hm hnews (by omega) (by omega) (growslice_fits (by omega) (by simpa using hfit))
      simpa using this
  · obtain ⟨b', cur, ty', h4, h5, h6, h7, h8⟩ := hw.boxAt k1 _ hrow
    rw [k1] at h4; simp at h4; subst h4
    obtain ⟨us, ts, zs, cap', j1, j2, j3, j4, j5, j6, j7, j8, j9⟩ := h6
    rw [k2] at j9; simp at j9; subst j9
    have hul : us.length = l.length * sz := by rw [j2.length, flat_length j3]
    have htl : ts.length = cs.length := j4.length
    have hRt : Rn e.w e.S ((cs.map C.toD).flatMap D.cells) ts := by rw [hflat h1D]; exact RCs.toD hD j4
    have hdt : ∀ d ∈ cs.map C.toD, d.cells.length = sz := fun d hd => by
      rcases j5 with j5 | j5
      · subst j5; simp at hd
      · have := List.all_eq_true.1 h1D d hd
        rw [j5]
        cases d <;> first | rfl | (cases this)
    have hct : cs.length = cs.length * sz := by
      rcases j5 with j5 | j5
      · subst j5; simp
      · rw [j5, Nat.mul_one]
    have hol : (us ++ ts).length = len * i.size := by rw [List.length_append, hul, htl, hsz, hlen, Nat.add_mul]; omega
    have hR : Rn e.w e.S ((l ++ cs.map C.toD).flatMap D.cells) (us ++ ts) := by rw [List.flatMap_append]; exact j2.append hRt
    have hd : ∀ d ∈ l ++ cs.map C.toD, d.cells.length = sz := fun d hd' => by
      rcases List.mem_append.1 hd' with hd' | hd'
      · exact j3 d hd'
      · exact hdt d hd'
    have hcells : ∀ j v, (us ++ ts)[j]? = some v → e.w.cell? ((⟨b, 0, none⟩ : Addr).add j) = some v := fun j v hj => by
      have hlt : j < (us ++ ts).length := (List.getElem?_eq_some_iff.1 hj).1
      have h9 : cur.toList[j]? = some v := by rw [j1, List.getElem?_append_left hlt]; exact hj
      have h9 : e.w.cell? ⟨b, 0 + j, none⟩ = some v := by simp only [World.cell?, h5, Nat.zero_add]; simpa using h9
      simp only [Addr.add]
      split
      · rename_i h0; simpa [h0] using h9
      · exact h9
    by_cases hroom : len + m ≤ cap
    · have hnl : len * i.size + (v1 ++ v2).length ≤ cur.size := by
        rw [hm, ← Array.length_toList, j7, hsz, ← Nat.add_mul]; exact Nat.mul_le_mul_right _ hroom
      have hrun := run_append_room_ty (P := Γ.P) (w := e.w) t ty el ty' i hu hi b len cap cur h5 ⟨bx, ox, none⟩ m cx (v1 ++ v2) hm hnews hone hroom hnl
      have ht : cur.toList.take (len * i.size) = us ++ ts := by rw [j1, ← hol, List.take_append, List.take_of_length_le (Nat.le_refl _), Nat.sub_self, List.take_zero, List.append_nil]
      have hdr : cur.toList.drop (len * i.size + (v1 ++ v2).length) = zs.drop (v1 ++ v2).length := by rw [j1, ← hol, List.drop_append, List.drop_of_length_le (by omega), List.nil_append]; congr 1; omega
      rw [ht, hdr] at hrun
      have hzl' : (us ++ ts).length + zs.length = cur.size := by rw [← Array.length_toList, j1]; simp only [List.length_append]
      have hXl : ((us ++ ts) ++ (v1 ++ v2) ++ zs.drop (v1 ++ v2).length).length = cur.size := by
        rw [List.length_append, List.length_append, List.length_drop]; omega
      obtain ⟨w2, l2⟩ := hw.setBox (vs := (us ++ ts) ++ (v1 ++ v2) ++ zs.drop (v1 ++ v2).length) (row' := .arr sz (l ++ cs.map C.toD ++ ys) :: op) hrow k1 h5
        ⟨us ++ ts ++ v1, v2, zs.drop (v1 ++ v2).length, cap, by simp only [List.append_assoc], by rw [List.flatMap_append]; exact hR.append hr1, fun d hd' => by
          rcases List.mem_append.1 hd' with hd' | hd'
          · exact hd d hd'
          · exact hd1 d hd', hr2, hop, j6, by rw [hXl, ← Array.length_toList]; exact j7, j8, k2⟩ hXl
      have hnew := setRow_heap e.w b cur ((us ++ ts) ++ (v1 ++ v2) ++ zs.drop (v1 ++ v2).length).toArray ty' (0, 0) h5
      have hbn := w2.boxAt (n := n) (b := b) k1 (.arr sz (l ++ cs.map C.toD ++ ys) :: op) (by simp)
      obtain ⟨b2, c2, t2, m1, m2, m3, m4, m5⟩ := hbn
      simp only at m1
      rw [k1] at m1; simp at m1; subst m1
      have w3 := w2.dropBox n
      obtain ⟨f1, f2, f3, f4⟩ := hw.fresh h.nx (Nat.le_refl _)
      have hle := (Env.le_name (b := b) (e := { e with w := e.w.setRow b ((us ++ ts) ++ (v1 ++ v2) ++ zs.drop (v1 ++ v2).length).toArray }) (n := h.nx) f3).trans (Env.le_tok (v := .slice none cap cap) (e := { ({ e with w := e.w.setRow b ((us ++ ts) ++ (v1 ++ v2) ++ zs.drop (v1 ++ v2).length).toArray } : Env) with ρ := upd e.ρ h.nx (some b) }) (n := h.nx) f4)
      obtain ⟨us', ts', zs', cap2, n1, n2, n3, n4, n5, n6, n7, n8, n9⟩ := m3
      simp only at n9
      rw [k2] at n9; simp at n9; subst n9
      obtain ⟨w4, l4⟩ := w3.addArr (b := b) (cs := c2) (ty := t2) (row := .arr sz (l ++ cs.map C.toD ++ ys) :: op) (u := .slice none cap cap) m2
        ⟨us', ts', zs', cap, n1, RD.mono hle.keep n2, n3, RCs.mono hle n4, n5, n6, n7, n8, by simp⟩ m4 m5
        (fun q hq hb => by
          have hqn : q ≠ n := fun he => by subst he; simp at hq
          simp only [upd, hqn, if_false] at hq
          exact hqn (hw.inj q n b hq (by rw [hrow]; simp) hb k1))
        (fun k v hk hv hfull hb => by
          cases hT : h.T k with
          | none => exact hk hT
          | some ty2 =>
            obtain ⟨_, v', q1, q2⟩ := hw.tok k ty2 hT
            simp only at hv
            rw [hv] at q1; simp at q1; subst q1
            obtain ⟨s9, n9, xs, _, _, _, q5⟩ := q2.resolve_left hfull
            exact q5 b hb n (by rw [hrow]; simp) k1)
      refine ⟨_, _, ?_, ?_, l2.trans l4, .inr ⟨b, cap, by simp, by simp, rfl, hroom⟩⟩
      · rw [hv]; exact hrun
      · have e1 : upd (upd (upd h.H n (some (.arr sz (l ++ cs.map C.toD ++ ys) :: op))) n none) h.nx (some (.arr sz (l ++ cs.map C.toD ++ ys) :: op)) = upd (upd h.H n none) h.nx (some (.arr sz (l ++ cs.map C.toD ++ ys) :: op)) := by
          funext q
          simp only [upd]
          split
          · rfl
          · split <;> rfl
        have := w4
        simp only [e1] at this
        exact this
    · refine grown (us ++ ts) cap hR hd ?_
      rw [hv]
      exact run_append_grow (P := Γ.P) (w := e.w) t ty el i z hu hi hz ⟨b, 0, none⟩ len cap (us ++ ts) hol hcells ⟨bx, ox, none⟩ m cx (v1 ++ v2) hm hnews (by omega) (by omega) (growslice_fits (by omega) hfit)

theorem vr_appArr {Γ : Ctx} {σ : Nat → AV} {h : Hp} (o : Oper) (t : TypeId) (s x : Operand) (ho : o.op = .call { callee := .builtin .append, args := #[s, x], argTypes := #[t, t] }) {n sz len szy : Nat} {ys : List D} {op : List C}
    (hs : evA σ s = .c (.os n sz len)) (hp : (aAppArr Γ.P h t n sz len szy ys op (h.H n)).pre)
    (hy : ∀ (a : Act) (e : Env), OpndOk o σ a e → WInv Γ h e → 0 < ys.length + op.length → szy = sz → (∀ y ∈ ys, y.cells.all D.one = true) → op.all C.one = true → ∃ bx ox cx v1 v2, a.eval x = .slice (some ⟨bx, ox, none⟩) (ys.length + op.length) cx ∧ Rn e.w e.S (ys.flatMap D.cells) v1 ∧ (∀ d ∈ ys, d.cells.length = sz) ∧ RCs e op v2 ∧
      (v1 ++ v2).length = (ys.length + op.length) * sz ∧ ∀ j v, (v1 ++ v2)[j]? = some v → e.w.cell? ⟨bx, ox + j, none⟩ = some v) :
    VR Γ o σ h (aAppArr Γ.P h t n sz len szy ys op (h.H n)).val (aAppArr Γ.P h t n sz len szy ys op (h.H n)).h := by
  have hex : ∀ (a : Act) (w w' : World) (r : Value), (Builtin.append_ #[t, t] o.type #[a.eval s, a.eval x]).run Γ.P w = .ok r w' → (execOp a.eval o).run Γ.P w = .ok (.value r) w' := by
    intro a w w' r hr
    simp only [execOp, ho, resolve, invoke, builtin, Sem.run_bind, Sem.run_pure, Result.andThen_ok, List.map_toArray, List.map_cons, List.map_nil, hr]
  unfold aAppArr at *
  split at hp
  case h_2 => exact hp.elim
  rename_i sz' l cs hrow
  obtain ⟨p1, p2, p3, p4, p5, rfl, p6, p7, p8, p9, p10, p11, p12, p13, p14, p15⟩ := hp
  intro a e hop hw K Q hk
  have h1 := hop s (by simp [ho, Op.operands, Call.operands])
  rw [hs] at h1
  obtain ⟨bx, ox, cx, v1, v2, hxv, hr1, hd1, hr2, hm, hc⟩ := hy a e hop hw p11 p6 p14 p15
  unfold tSlice at p1
  split at p1
  case h_2 => simp at p1
  rename_i el hu
  have he : tElem Γ.P t = el := by simp [tElem, hu]
  rw [he] at p2 p3 p5 p12
  simp only [Bool.and_eq_true] at p1
  obtain ⟨i, hi⟩ := Option.isSome_iff_exists.1 p1.1
  have hisz : i.size = sz := by rw [p5]; simp [tSize, hi]
  have hib : tBytes Γ.P el = i.bytes := by simp [tBytes, hi]
  obtain ⟨z, _, hz2, hz⟩ := run_zeroValue p2 e.w
  have hz : i.zero = some z := by simpa [hi] using hz
  have hzl : z.cells.size = i.size := by rw [hisz, p5, ← p3, ← hz2]; simp
  have hone : ∀ v ∈ v1 ++ v2, v.oneCell' = true := fun v hv => by
    rcases List.mem_append.1 hv with hv | hv
    · exact hr1.one (all_flat p14) v hv
    · exact hr2.one p15 v hv
  obtain ⟨r, e', g1, g2, g3, g4⟩ := app_arr (ty := o.type) (cx := cx) hw hu hi hz hzl hrow hisz p4 p7 p8 p9 h1 hr1 hd1 hr2 p10 (by rw [hm, hisz]) (fun j v hj => by
    have := hc j v hj
    simp only [Addr.add]
    split
    · rename_i h0; simpa [h0] using this
    · exact this) p11 (by rw [← hib]; exact p12) p13 hone
  rw [← hxv] at g1
  exact wp_of_run (hex _ _ _ _ g1) (hk _ e' g2 g3 g4)

theorem vr_append {Γ : Ctx} {σ : Nat → AV} {h : Hp} (o : Oper) (t : TypeId) (s x : Operand) (ho : o.op = .call { callee := .builtin .append, args := #[s, x], argTypes := #[t, t] }) (hp : (aAppend Γ.P σ h t s x).pre) :
    VR Γ o σ h (aAppend Γ.P σ h t s x).val (aAppend Γ.P σ h t s x).h := by
  have hex : ∀ (a : Act) (w w' : World) (r : Value), (Builtin.append_ #[t, t] o.type #[a.eval s, a.eval x]).run Γ.P w = .ok r w' → (execOp a.eval o).run Γ.P w = .ok (.value r) w' := by
    intro a w w' r hr
    simp only [execOp, ho, resolve, invoke, builtin, Sem.run_bind, Sem.run_pure, Result.andThen_ok, List.map_toArray, List.map_cons, List.map_nil, hr]
  unfold aAppend at *
  split at hp
  case h_4 => exact hp.elim
  case h_2 n sz len szy ys hs hx =>
    split at hp
    · rename_i hty
      simp only [hty, if_true]
      refine vr_appArr o t s x ho hs hp fun a e hop hw h0 hz _ _ => ?_
      have h3 := (hop x (by simp [ho, Op.operands, Call.operands])).slD hx
      rcases h3.slInv with ⟨h, _⟩ | ⟨vs, b, of, cap, hv, r4, r5, r6, r7⟩
      · subst h; simp at h0
      · refine ⟨b, of, cap, vs, [], by simpa using hv, r4, hz ▸ r6, trivial, ?_, fun j v hj => (r5 j v (by simpa using hj)).1⟩
        simp [r4.length, flat_length r6, hz]
    · exact hp.elim
  case h_3 n sz len hs hx =>
    split at hp
    · rename_i hxe
      split at hp
      · rename_i hty
        simp only [hty, if_true]
        refine vr_appArr o t s x ho hs hp fun a e hop hw h0 hz _ _ => ?_
        have h3 := hop x (by simp [ho, Op.operands, Call.operands])
        rw [hxe] at h3
        obtain ⟨b, hv, hc, hS⟩ := h3
        subst hz
        refine ⟨b, 0, 1, [], [.slice none 0 0], by simpa using hv, .anil, by simp, ⟨⟨.slnil 0 _, .inl ⟨_, _, rfl⟩⟩, trivial⟩, by simp, fun j v hj => ?_⟩
        cases j with
        | zero => simp at hj; subst hj; exact hc
        | succ j => simp at hj
      · exact hp.elim
    · exact hp.elim
  rename_i sz l k szy ys hs hx
  obtain ⟨p1, p2, p3, p4, p5, p6, p7, p8, p9, p10⟩ := hp
  intro a e hop hw K Q hk
  have h1 := hop s (by simp [ho, Op.operands, Call.operands])
  rw [hs] at h1
  obtain ⟨h1, h2⟩ := h1
  have h3 := (hop x (by simp [ho, Op.operands, Call.operands])).slD hx
  unfold tSlice at p1
  split at p1
  case h_2 => simp at p1
  rename_i el hu
  have he : tElem Γ.P t = el := by simp [tElem, hu]
  rw [he] at p2 p3 p4 p5 p6 p7 p8 hk
  simp only [Bool.and_eq_true] at p1
  have hsz := run_sizeOf Γ.P el e.w (by simp [tKnown, p1])
  have h1 := R1.resize h1 p5
  have h3 := R1.resize h3 p6
  generalize hS : tSize Γ.P el = size at *
  obtain ⟨i, hi⟩ := Option.isSome_iff_exists.1 p1.1
  have hisz : i.size = size := by rw [← hS]; simp [tSize, hi]
  have hib : tBytes Γ.P el = i.bytes := by simp [tBytes, hi]
  obtain ⟨z, _, hz2, hz⟩ := run_zeroValue p2 e.w
  have hz : i.zero = some z := by simpa [hi] using hz
  have hzl : z.cells.size = size := by rw [← p3, ← hz2]; simp
  have hnx : h.nx ≠ 0 := by have := hw.nx0; omega
  rcases List.eq_nil_or_concat ys with hys | hys
  · -- nothing is appended
    subst hys
    have hxs : a.eval x = .slice none 0 0 ∨ ∃ a' c, a.eval x = .slice (some a') 0 c := by
      rcases h3.slInv with ⟨_, _ | a', h⟩ | ⟨vs, b, of, cap, h, _⟩
      · exact .inl h
      · exact .inr ⟨a', 0, h⟩
      · exact .inr ⟨_, cap, h⟩
    have hv : ∃ base n cap, a.eval s = .slice base n cap ∧ n ≤ cap := by
      rcases h1.slInv with ⟨_, o', h⟩ | ⟨vs, b, of, cap, h, _, _, _, hc⟩
      · exact ⟨_, _, _, h, Nat.le_refl _⟩
      · exact ⟨_, _, _, h, hc⟩
    obtain ⟨base, n, cap, hv, hn⟩ := hv
    have hrun : (Builtin.append_ #[t, t] o.type #[a.eval s, a.eval x]).run Γ.P e.w = .ok (a.eval s) e.w := by
      rw [hv]; exact run_append_none hu hsz hn hxs
    rcases h2 with hfull | ⟨hk0, hτ⟩
    · obtain ⟨e', g1, g2, g3⟩ := (hw.dropTok k).tokFull el hfull
      refine wp_of_run (hex _ _ _ _ hrun) ?_
      rw [← g1]
      refine hk _ e' g2 g3 ?_
      simp only [List.append_nil]
      exact ⟨RD.mono g3.keep h1, .inl hfull⟩
    · have p7 := p7.resolve_left hk0
      obtain ⟨_, v, q1, qor⟩ := hw.tok k el p7
      rw [hτ] at q1
      simp at q1
      subst q1
      obtain ⟨g2, g3⟩ := (hw.dropTok k).addTok (v := a.eval s) (ty := el) qor (fun hf j u b hj hu' hb hfu hb' => by
        have hjk : j ≠ k := fun he => by subst he; simp at hj
        have hTj : h.T j ≠ none := by simpa [upd, hjk] using hj
        exact hjk (hw.tokinj j k u _ b hTj (by rw [p7]; simp) hu' hτ hb hb' hfu hf))
      have hK := hk (a.eval s) _ g2 g3 (by
        simp only [List.append_nil]
        exact ⟨RD.mono g3.keep h1, .inr ⟨hnx, by simp⟩⟩)
      exact wp_of_run (hex _ _ _ _ hrun) hK
  · have hne : ys ≠ [] := by obtain ⟨_, _, rfl⟩ := hys; simp
    have hpos : 0 < ys.length := List.length_pos_iff.2 hne
    rcases h3.slInv with ⟨h, _⟩ | ⟨vx, bx, ox, cx, hxv, r4, r5, r6, r7⟩
    · exact absurd h hne
    have hvx : vx.length = ys.length * i.size := by rw [hisz, r4.length, flat_length r6]
    have hnews : ∀ j v, vx[j]? = some v → e.w.cell? ((⟨bx, ox, none⟩ : Addr).add j) = some v := fun j v hj => by
      have := (r5 j v hj).1
      simp only [Addr.add]
      split
      · rename_i h0; simpa [h0] using this
      · exact this
    -- a new array
    have hgrow : ∀ (olds : List Value) (vs : List Value) (n old : Nat), Rn e.w e.S (l.flatMap D.cells) vs → (∀ d ∈ l, d.cells.length = size) → n = l.length →
        (Builtin.append_ #[t, t] o.type #[a.eval s, a.eval x]).run Γ.P e.w = .ok (.slice (some ⟨e.w.heap.size, 0, none⟩) (n + ys.length) (grownCap e.w (n + ys.length) old el))
          (e.w.drew.alloc (.cells (vs.toArray ++ vx.toArray ++ Builtin.zeroCells z.cells (grownCap e.w (n + ys.length) old el - (n + ys.length))) el)) → o.wp Γ.P a e.w K Q := by
      intro olds vs n old hR hd hn hrun
      subst hn
      have hge := grownCap_ge e.w (l.length + ys.length) old el
      have hmx := grownCap_le_maxLen e.w (l.length + ys.length) old el (by unfold maxLen; omega)
      have hvl : vs.length = l.length * size := by rw [hR.length, flat_length hd]
      obtain ⟨e', g1, g2, g3, g4⟩ := (hw.dropTok k).newArr (el := el) (sz := size) (cap := grownCap e.w (l.length + ys.length) old el) (l := l ++ ys) (vs := vs ++ vx)
        (zs := (Builtin.zeroCells z.cells (grownCap e.w (l.length + ys.length) old el - (l.length + ys.length))).toList)
        (cur := vs.toArray ++ vx.toArray ++ Builtin.zeroCells z.cells (grownCap e.w (l.length + ys.length) old el - (l.length + ys.length)))
        ⟨by omega, hS.symm⟩ (by rw [List.flatMap_append]; exact hR.append r4) (fun d hd' => by
          rw [List.mem_append] at hd'
          rcases hd' with hd' | hd'
          · exact hd d hd'
          · exact r6 d hd') (by simp) (by
          simp only [Array.size_append, List.size_toArray, size_zeroCells, hzl, hvl, hvx, hisz, ← Nat.add_mul]
          congr 1; omega) (by simpa using hge) hmx
      refine wp_of_run (hex _ _ _ _ hrun) ?_
      rw [← g1]
      rw [List.length_append] at g4
      exact hk _ e' g2 g3 g4
    have hfit : (l.length + ys.length) * i.bytes ≤ 140737488355328 := by rw [← hib]; exact p8
    rcases h1.slInv with ⟨hl, _ | a', hv⟩ | ⟨vs, b, of, cap, hv, r8, r9, r10, r11⟩
    · subst hl
      refine hgrow [] [] 0 0 .anil (by simp) rfl ?_
      simp only [List.length_nil, Nat.zero_add] at hfit ⊢
      rw [hv, hxv]
      have := run_append_nil (P := Γ.P) (w := e.w) t o.type el i z hu hi hz ⟨bx, ox, none⟩ ys.length cx vx hvx hnews hpos (by simp at p9; omega) (by omega)
      simpa using this
    · subst hl
      refine hgrow [] [] 0 0 .anil (by simp) rfl ?_
      simp only [List.length_nil, Nat.zero_add] at hfit ⊢
      rw [hv, hxv]
      have := run_append_grow (P := Γ.P) (w := e.w) t o.type el i z hu hi hz a' 0 0 [] (by simp) (by simp) ⟨bx, ox, none⟩ ys.length cx vx hvx hnews (by omega) (by omega) (growslice_fits (by omega) (by simpa using hfit))
      simpa using this
    · have hvs : vs.length = l.length * i.size := by rw [hisz, r8.length, flat_length r10]
      have holds : ∀ j v, vs[j]? = some v → e.w.cell? ((⟨b, of, none⟩ : Addr).add j) = some v := fun j v hj => by
        have := (r9 j v hj).1
        simp only [Addr.add]
        split
        · rename_i h0; simpa [h0] using this
        · exact this
      by_cases hroom : l.length + ys.length ≤ cap
      · -- it stays
        have hnfull : ¬ FullS (a.eval s) := by
          rintro ⟨a', n', h2⟩
          rw [hv] at h2
          simp at h2
          omega
        obtain ⟨hk0, h2⟩ := h2.resolve_left hnfull
        have p7 := p7.resolve_left hk0
        obtain ⟨_, v, q1, qor⟩ := hw.tok k el p7
        rw [h2] at q1
        simp at q1
        subst q1
        obtain ⟨s2, n2, xs, q2, q3, q4, q5⟩ := qor.resolve_left hnfull
        have hs2 : s2 = size := by rw [q2.2, hS]
        subst hs2
        rcases ownsRow_cases q3 with hh | ⟨g, cap', cur, hh, t1, t2, t3, t4, t5, t6⟩
        · rw [hv] at hh; cases hh
        rw [hv] at hh
        simp at hh
        obtain ⟨⟨rfl, rfl⟩, rfl, rfl⟩ := hh
        have hxs : vs = xs := by
          apply List.ext_getElem?
          intro j
          rw [← t6]
          rcases Nat.lt_or_ge j vs.length with hj | hj
          · have hj' : vs[j]? = some vs[j] := List.getElem?_eq_getElem hj
            have := (r9 j _ hj').1
            simp [World.cell?, t2] at this
            rw [hj', List.getElem?_take, if_pos (by rw [hvs, hisz] at hj; exact hj)]
            simpa using this.symm
          · rw [List.getElem?_eq_none hj, List.getElem?_eq_none (by simp; rw [hvs, hisz] at hj; omega)]
        subst hxs
        have hnewslen : l.length * i.size + vx.length ≤ cur.size := by rw [hvx, t5, ← Nat.add_mul, hisz]; exact Nat.mul_le_mul_right _ hroom
        have hrun := run_append_room (P := Γ.P) (w := e.w) t o.type el i hu hi b l.length cap cur t2 ⟨bx, ox, none⟩ ys.length cx vx hvx hnews (r4.one (all_flat p10)) hroom hnewslen
        obtain ⟨e', g1, g2, g3, g4, g5⟩ := hw.inPlace (k := k) (el := el) (g := b) (n := l.length) (cap := cap) (cur := cur) (xs := vs) (news := vx) (m := ys.length) p7 (by rw [← hv]; exact h2) (by omega) ⟨by omega, hS.symm⟩ t2 t1 t5 t4 (by rw [hvx, hisz]) hroom t6
        rw [hisz] at hrun
        rw [← hv, ← hxv] at hrun
        refine wp_of_run (hex _ _ _ _ hrun) ?_
        rw [← g1]
        refine hk _ e' g2 g3 ⟨?_, .inr ⟨hnx, g4⟩⟩
        have := RD.sl (w := e'.w) (S := e'.S) _ (l ++ ys) (vs ++ vx) b 0 cap (by rw [List.flatMap_append]; exact RD.mono g3.keep (r8.append r4)) (fun i' x' hx' => by
          rw [Nat.zero_add]
          refine g5 i' x' hx' fun j hj hSj => ?_
          have hj' : j < vs.length := by rw [hvs, hisz]; exact hj
          have := (r9 j _ (List.getElem?_eq_getElem hj')).2
          simp at this
          exact this hSj) (fun d hd' => by
          rw [List.mem_append] at hd'
          rcases hd' with hd' | hd'
          · exact r10 d hd'
          · exact r6 d hd') (by simpa using hroom)
        simpa using this
      · refine hgrow vs vs l.length cap r8 r10 rfl ?_
        rw [hv, hxv]
        exact run_append_grow (P := Γ.P) (w := e.w) t o.type el i z hu hi hz ⟨b, of, none⟩ l.length cap vs hvs holds ⟨bx, ox, none⟩ ys.length cx vx hvx hnews (by omega) (by omega) (growslice_fits (by omega) hfit)

end Go.Proofs.Ytgkacglpjmndbaa
