/- How heaps change: new blocks, own boxes, tokens. -/
import Derived.Test.YtgkacglpjmndbaaMe
namespace Go.Proofs.Ytgkacglpjmndbaa
open Go.RowKit

structure Grows (w w' : World) : Prop where
  os : w'.os = w.os
  tape : w'.tape = w.tape
  output : w'.output = w.output
  size : w.heap.size ≤ w'.heap.size
  block : ∀ k, k < w.heap.size → w'.heap[k]? = w.heap[k]?

theorem Grows.refl (w : World) : Grows w w := ⟨rfl, rfl, rfl, Nat.le_refl _, fun _ _ => rfl⟩
theorem Grows.trans {a b c : World} (h : Grows a b) (k : Grows b c) : Grows a c :=
  ⟨k.os.trans h.os, k.tape.trans h.tape, k.output.trans h.output, Nat.le_trans h.size k.size, fun i hi => (k.block i (Nat.lt_of_lt_of_le hi h.size)).trans (h.block i hi)⟩
theorem Grows.alloc (w : World) (o : Obj) : Grows w (w.alloc o) := ⟨rfl, rfl, rfl, by simp, fun k hk => Below.heap_alloc w o k hk⟩
theorem Grows.drew (w : World) : Grows w w.drew := ⟨rfl, rfl, rfl, Nat.le_refl _, fun _ _ => rfl⟩
theorem Grows.of_below {w w' : World} (h : Below w.heap.size w w') : Grows w w' := ⟨h.os, h.tape, h.output, h.size, h.block⟩

theorem cell_block {w : World} {b o : Nat} {x : Value} (h : w.cell? ⟨b, o, none⟩ = some x) : b < w.heap.size := World.block_lt_of_cell? w _ h

theorem ownsRow_same {w w' : World} {B ty sz n : Nat} {v : Value} {xs : List Value} (h : w.ownsRow B ty sz v n xs) (hb : ∀ b, v.ownBlock = some b → w'.heap[b]? = w.heap[b]?) : w'.ownsRow B ty sz v n xs := by
  refine ⟨h.1, ?_⟩
  rcases h.2 with hn | ⟨g, cap, cur, rfl, r1, r2, r3⟩
  · exact .inl hn
  · exact .inr ⟨g, cap, cur, rfl, r1, by rw [hb g rfl]; exact r2, r3⟩

/-- Old blocks as they were: all stands. -/
theorem WInv.grows {Γ : Ctx} {h : Hp} {e : Env} (hw : WInv Γ h e) {w' : World} {S' : Nat → Nat → Prop} (hg : Grows e.w w')
    (hS : ∀ b o, b < e.w.heap.size → (S' b o ↔ e.S b o)) (hd : ∀ b o, S' b o → b < w'.heap.size) :
    WInv Γ h { e with w := w', S := S' } ∧ e.le { e with w := w', S := S' } := by
  have hle : e.le { e with w := w', S := S' } := ⟨fun b o x hc hs => by
    have hb := cell_block hc
    exact ⟨(World.cell?_of_block (hg.block b hb)).trans hc, fun h' => hs ((hS b o hb).1 h')⟩, fun _ _ h => h, fun _ _ h => h⟩
  refine ⟨?_, hle⟩
  constructor
  · exact hg.os.trans hw.os
  · exact hg.tape.trans hw.tape
  · exact hg.output.trans hw.output
  · exact Nat.le_trans hw.grown hg.size
  · exact Nat.le_trans hw.hB hg.size
  · intro b hb hm
    exact (hg.block b (Nat.lt_of_lt_of_le hb hw.hB)).trans (hw.old b hb hm)
  · exact hd
  · intro b o h0 hm
    have := hw.s0 b o h0 hm
    exact (hS b o (hw.sdom _ _ this)).2 this
  · exact hw.s0B
  · intro n row hn
    rcases hw.box n row hn with hz | ⟨b, cs, ty, h1, h2, h3, h4, h5⟩
    · exact .inl hz
    have hb : b < e.w.heap.size := (Array.getElem?_eq_some_iff.1 h2).1
    exact .inr ⟨b, cs, ty, h1, (hg.block b hb).trans h2, RB.mono hle h3, fun o ho => (hS b o hb).2 (h4 o ho), h5⟩
  · exact hw.inj
  · intro k ty hk
    obtain ⟨h0, v, h1, hor⟩ := hw.tok k ty hk
    refine ⟨h0, v, h1, hor.imp id ?_⟩
    rintro ⟨sz, n, xs, hsz, h2, h3, h4⟩
    have hlt := h2.lt
    refine ⟨sz, n, xs, hsz, ownsRow_same h2 (fun b hb => hg.block b (hlt b hb).2), fun b o hb ho hc => ?_, h4⟩
    have hb' := (hlt b hb).2
    have hce : w'.cell? ⟨b, o, none⟩ = e.w.cell? ⟨b, o, none⟩ := World.cell?_of_block (hg.block b hb')
    exact (hS b o hb').2 (h3 b o hb ho (by rw [← hce]; exact hc))
  · exact hw.tokinj
  · exact hw.fresh
  · exact hw.nx0
  · exact hw.rt

/-- Only what nobody holds grows. -/
theorem WInv.quiet {Γ : Ctx} {h : Hp} {e : Env} (hw : WInv Γ h e) {w' : World} (hg : Grows e.w w') :
    WInv Γ h { e with w := w' } ∧ e.le { e with w := w' } :=
  hw.grows (S' := e.S) hg (fun _ _ _ => Iff.rfl) (fun b o hb => Nat.lt_of_lt_of_le (hw.sdom b o hb) hg.size)

theorem Env.le_name {e : Env} {n b : Nat} (h : e.ρ n = none) : e.le { e with ρ := upd e.ρ n (some b) } :=
  ⟨Keep.refl _ _, fun m c hm => by
    have : m ≠ n := fun he => by rw [he, h] at hm; cases hm
    simp [upd, this, hm], fun _ _ h => h⟩
theorem Env.le_tok {e : Env} {n : Nat} {v : Value} (h : e.τ n = none) : e.le { e with τ := upd e.τ n (some v) } :=
  ⟨Keep.refl _ _, fun _ _ h => h, fun m c hm => by
    have : m ≠ n := fun he => by rw [he, h] at hm; cases hm
    simp [upd, this, hm]⟩

theorem WInv.addBox {Γ : Ctx} {h : Hp} {e : Env} (hw : WInv Γ h e) {b : Nat} {cs : Array Value} {ty : TypeId} {row : List C}
    (hb : e.w.heap[b]? = some (.cells cs ty (0, 0))) (hr : RCs e row cs.toList) (hs : ∀ o, o < cs.size → e.S b o) (hB : Γ.B ≤ b)
    (hn : ∀ n, h.H n ≠ none → e.ρ n ≠ some b) (ht : ∀ k v, h.T k ≠ none → e.τ k = some v → ¬ FullS v → v.ownBlock ≠ some b) :
    WInv Γ { h with H := upd h.H h.nx (some row), nx := h.nx + 1 } { e with ρ := upd e.ρ h.nx (some b) } ∧ e.le { e with ρ := upd e.ρ h.nx (some b) } := by
  obtain ⟨f1, f2, f3, f4⟩ := hw.fresh h.nx (Nat.le_refl _)
  have hle : e.le { e with ρ := upd e.ρ h.nx (some b) } := Env.le_name f3
  refine ⟨?_, hle⟩
  constructor
  · exact hw.os
  · exact hw.tape
  · exact hw.output
  · exact hw.grown
  · exact hw.hB
  · exact hw.old
  · exact hw.sdom
  · exact hw.s0
  · exact hw.s0B
  · intro n r hnr
    by_cases hnn : n = h.nx
    · subst hnn
      simp only [upd_same, Option.some.injEq] at hnr
      subst hnr
      exact .inr ⟨b, cs, ty, by simp, hb, .of (RCs.mono hle hr), hs, .inl hB⟩
    · simp only [upd, hnn, if_false] at hnr
      rcases hw.box n r hnr with hz | ⟨b', cs', ty', h1, h2, h3, h4, h5⟩
      · exact .inl ⟨by simp [upd, hnn, hz.1], hz.2⟩
      exact .inr ⟨b', cs', ty', by simp [upd, hnn, h1], h2, RB.mono hle h3, h4, h5⟩
  · intro n m c hn1 hm1 hn2 hm2
    simp only [upd] at hn1 hm1 hn2 hm2
    by_cases hnn : n = h.nx <;> by_cases hmm : m = h.nx
    · rw [hnn, hmm]
    · simp only [hnn, hmm, if_true, if_false] at hn2 hm2 hm1
      simp at hn2; subst hn2
      exact absurd hm2 (hn m hm1)
    · simp only [hnn, hmm, if_true, if_false] at hn2 hm2 hn1
      simp at hm2; subst hm2
      exact absurd hn2 (hn n hn1)
    · simp only [hnn, hmm, if_false] at hn1 hm1 hn2 hm2
      exact hw.inj n m c hn1 hm1 hn2 hm2
  · intro k ty' hk
    obtain ⟨h0, v, h1, hor⟩ := hw.tok k ty' hk
    refine ⟨h0, v, h1, ?_⟩
    by_cases hfull : FullS v
    · exact .inl hfull
    obtain ⟨sz, n, xs, hsz, h2, h3, h4⟩ := hor.resolve_left hfull
    refine .inr ⟨sz, n, xs, hsz, h2, h3, fun c hc m hm => ?_⟩
    simp only [upd] at hm ⊢
    by_cases hmm : m = h.nx
    · simp only [hmm, if_true]
      intro he
      simp at he
      subst he
      exact ht k v (fun h' => by simp only at hk; rw [h'] at hk; cases hk) h1 hfull hc
    · simp only [hmm, if_false] at hm ⊢
      exact h4 c hc m hm
  · exact hw.tokinj
  · intro n hn'
    have hne : n ≠ h.nx := by simp at hn'; omega
    obtain ⟨g1, g2, g3, g4⟩ := hw.fresh n (by simp at hn'; omega)
    exact ⟨by simp [upd, hne, g1], g2, by simp [upd, hne, g3], g4⟩
  · exact Nat.succ_pos _
  · intro b' hb'
    have h1 := hw.rt b' hb'
    have hne : 1 ≠ h.nx := fun he => by rw [he, f3] at h1; cases h1
    simp [upd, hne, h1]

theorem WInv.addArr {Γ : Ctx} {h : Hp} {e : Env} (hw : WInv Γ h e) {b : Nat} {cs : Array Value} {ty : TypeId} {row : List C} {u : Value}
    (hb : e.w.heap[b]? = some (.cells cs ty (0, 0))) (hr : RB { e with ρ := upd e.ρ h.nx (some b), τ := upd e.τ h.nx (some u) } h.nx row cs.toList) (hs : ∀ o, o < cs.size → e.S b o) (hB : Γ.B ≤ b ∨ Γ.M b)
    (hn : ∀ n, h.H n ≠ none → e.ρ n ≠ some b) (ht : ∀ k v, h.T k ≠ none → e.τ k = some v → ¬ FullS v → v.ownBlock ≠ some b) :
    WInv Γ { h with H := upd h.H h.nx (some row), nx := h.nx + 1 } { e with ρ := upd e.ρ h.nx (some b), τ := upd e.τ h.nx (some u) } ∧ e.le { e with ρ := upd e.ρ h.nx (some b), τ := upd e.τ h.nx (some u) } := by
  obtain ⟨f1, f2, f3, f4⟩ := hw.fresh h.nx (Nat.le_refl _)
  have hle : e.le { e with ρ := upd e.ρ h.nx (some b), τ := upd e.τ h.nx (some u) } := (Env.le_name (b := b) f3).trans (Env.le_tok (e := { e with ρ := upd e.ρ h.nx (some b) }) f4)
  refine ⟨?_, hle⟩
  constructor
  · exact hw.os
  · exact hw.tape
  · exact hw.output
  · exact hw.grown
  · exact hw.hB
  · exact hw.old
  · exact hw.sdom
  · exact hw.s0
  · exact hw.s0B
  · intro n r hnr
    by_cases hnn : n = h.nx
    · subst hnn
      simp only [upd_same, Option.some.injEq] at hnr
      subst hnr
      exact .inr ⟨b, cs, ty, by simp, hb, hr, hs, hB⟩
    · simp only [upd, hnn, if_false] at hnr
      rcases hw.box n r hnr with hz | ⟨b', cs', ty', h1, h2, h3, h4, h5⟩
      · exact .inl ⟨by simp [upd, hnn, hz.1], hz.2⟩
      exact .inr ⟨b', cs', ty', by simp [upd, hnn, h1], h2, RB.mono hle h3, h4, h5⟩
  · intro n m c hn1 hm1 hn2 hm2
    simp only [upd] at hn1 hm1 hn2 hm2
    by_cases hnn : n = h.nx <;> by_cases hmm : m = h.nx
    · rw [hnn, hmm]
    · simp only [hnn, hmm, if_true, if_false] at hn2 hm2 hm1
      simp at hn2; subst hn2
      exact absurd hm2 (hn m hm1)
    · simp only [hnn, hmm, if_true, if_false] at hn2 hm2 hn1
      simp at hm2; subst hm2
      exact absurd hn2 (hn n hn1)
    · simp only [hnn, hmm, if_false] at hn1 hm1 hn2 hm2
      exact hw.inj n m c hn1 hm1 hn2 hm2
  · intro k ty' hk
    obtain ⟨h0, v, h1, hor⟩ := hw.tok k ty' hk
    have hknx : k ≠ h.nx := fun he => by simp only at hk; rw [he, f2] at hk; cases hk
    refine ⟨h0, v, by simp [upd, hknx, h1], ?_⟩
    by_cases hfull : FullS v
    · exact .inl hfull
    obtain ⟨sz, n, xs, hsz, h2, h3, h4⟩ := hor.resolve_left hfull
    refine .inr ⟨sz, n, xs, hsz, h2, h3, fun c hc m hm => ?_⟩
    simp only [upd] at hm ⊢
    by_cases hmm : m = h.nx
    · simp only [hmm, if_true]
      intro he
      simp at he
      subst he
      exact ht k v (fun h' => by simp only at hk; rw [h'] at hk; cases hk) h1 hfull hc
    · simp only [hmm, if_false] at hm ⊢
      exact h4 c hc m hm
  · intro k m v w c hk hm hv hwm hvb hwb hfv hfw
    have hknx : k ≠ h.nx := fun he => by simp only at hk; rw [he, f2] at hk; exact hk rfl
    have hmnx : m ≠ h.nx := fun he => by simp only at hm; rw [he, f2] at hm; exact hm rfl
    simp only [upd, hknx, hmnx, if_false] at hv hwm
    exact hw.tokinj k m v w c hk hm hv hwm hvb hwb hfv hfw
  · intro n hn'
    have hne : n ≠ h.nx := by simp at hn'; omega
    obtain ⟨g1, g2, g3, g4⟩ := hw.fresh n (by simp at hn'; omega)
    exact ⟨by simp [upd, hne, g1], g2, by simp [upd, hne, g3], by simp [upd, hne, g4]⟩
  · exact Nat.succ_pos _
  · intro b' hb'
    have h1 := hw.rt b' hb'
    have hne : 1 ≠ h.nx := fun he => by rw [he, f3] at h1; cases h1
    simp [upd, hne, h1]

theorem WInv.dropBox {Γ : Ctx} {h : Hp} {e : Env} (hw : WInv Γ h e) (n : Nat) : WInv Γ { h with H := upd h.H n none } e := by
  have g : ∀ i, upd h.H n none i ≠ none → h.H i ≠ none := fun i hi h0 => hi (by simp [upd, h0])
  constructor
  · exact hw.os
  · exact hw.tape
  · exact hw.output
  · exact hw.grown
  · exact hw.hB
  · exact hw.old
  · exact hw.sdom
  · exact hw.s0
  · exact hw.s0B
  · intro m r hm
    by_cases hmn : m = n
    · subst hmn; simp at hm
    · simp only [upd, hmn, if_false] at hm; exact hw.box m r hm
  · intro m m' b hm hm'
    exact hw.inj m m' b (g m hm) (g m' hm')
  · intro k ty hk
    obtain ⟨h0, v, h1, hor⟩ := hw.tok k ty hk
    refine ⟨h0, v, h1, hor.imp id ?_⟩
    rintro ⟨sz, m, xs, z1, z2, z3, z4⟩
    exact ⟨sz, m, xs, z1, z2, z3, fun b hb i hi => z4 b hb i (g i hi)⟩
  · exact hw.tokinj
  · intro m hm
    obtain ⟨g1, g2, g3, g4⟩ := hw.fresh m hm
    exact ⟨by simp [upd, g1], g2, g3, g4⟩
  · exact hw.nx0
  · exact hw.rt

theorem WInv.addTok {Γ : Ctx} {h : Hp} {e : Env} (hw : WInv Γ h e) {v : Value} {ty : TypeId}
    (ho : FullS v ∨ ∃ sz n xs, (0 < sz ∧ sz = tSize Γ.P ty) ∧ e.w.ownsRow Γ.B ty sz v n xs ∧ (∀ b o, v.ownBlock = some b → n * sz ≤ o → (e.w.cell? ⟨b, o, none⟩).isSome → e.S b o) ∧
      (∀ b, v.ownBlock = some b → ∀ m, h.H m ≠ none → e.ρ m ≠ some b))
    (ht : ¬ FullS v → ∀ k u b, h.T k ≠ none → e.τ k = some u → u.ownBlock = some b → ¬ FullS u → v.ownBlock ≠ some b) :
    WInv Γ { h with T := upd h.T h.nx (some ty), nx := h.nx + 1 } { e with τ := upd e.τ h.nx (some v) } ∧ e.le { e with τ := upd e.τ h.nx (some v) } := by
  obtain ⟨f1, f2, f3, f4⟩ := hw.fresh h.nx (Nat.le_refl _)
  have hle : e.le { e with τ := upd e.τ h.nx (some v) } := Env.le_tok f4
  refine ⟨?_, hle⟩
  constructor
  · exact hw.os
  · exact hw.tape
  · exact hw.output
  · exact hw.grown
  · exact hw.hB
  · exact hw.old
  · exact hw.sdom
  · exact hw.s0
  · exact hw.s0B
  · intro n r hnr
    rcases hw.box n r hnr with hz | ⟨b', cs', ty', h1, h2, h3, h4, h5⟩
    · exact .inl hz
    exact .inr ⟨b', cs', ty', h1, h2, RB.mono hle h3, h4, h5⟩
  · exact hw.inj
  · intro k ty' hk
    by_cases hkk : k = h.nx
    · subst hkk
      simp only [upd_same, Option.some.injEq] at hk
      subst hk
      exact ⟨by have := hw.nx0; omega, v, by simp, ho⟩
    · simp only [upd, hkk, if_false] at hk
      obtain ⟨h0, u, h1, h2⟩ := hw.tok k ty' hk
      exact ⟨h0, u, by simp [upd, hkk, h1], h2⟩
  · intro k m u u' b hk hm hu hu' hb hb' hf hf'
    simp only [upd] at hk hm hu hu'
    by_cases hkk : k = h.nx <;> by_cases hmm : m = h.nx
    · rw [hkk, hmm]
    · simp only [hkk, hmm, if_true, if_false] at hu hu' hm
      simp at hu; subst hu
      exact absurd hb (ht hf m u' b hm hu' hb' hf')
    · simp only [hkk, hmm, if_true, if_false] at hu hu' hk
      simp at hu'; subst hu'
      exact absurd hb' (ht hf' k u b hk hu hb hf)
    · simp only [hkk, hmm, if_false] at hk hm hu hu'
      exact hw.tokinj k m u u' b hk hm hu hu' hb hb' hf hf'
  · intro m hm'
    have hne : m ≠ h.nx := by simp at hm'; omega
    obtain ⟨g1, g2, g3, g4⟩ := hw.fresh m (by simp at hm'; omega)
    exact ⟨g1, by simp [upd, hne, g2], g3, by simp [upd, hne, g4]⟩
  · exact Nat.succ_pos _
  · exact hw.rt

theorem WInv.dropTok {Γ : Ctx} {h : Hp} {e : Env} (hw : WInv Γ h e) (k : Nat) : WInv Γ { h with T := upd h.T k none } e := by
  constructor
  · exact hw.os
  · exact hw.tape
  · exact hw.output
  · exact hw.grown
  · exact hw.hB
  · exact hw.old
  · exact hw.sdom
  · exact hw.s0
  · exact hw.s0B
  · exact hw.box
  · exact hw.inj
  · intro m ty hm
    by_cases hmk : m = k
    · subst hmk; simp at hm
    · simp only [upd, hmk, if_false] at hm; exact hw.tok m ty hm
  · intro m m' v u b hm hm' 
    have h1 : h.T m ≠ none := by intro h0; apply hm; simp [upd, h0]
    have h2 : h.T m' ≠ none := by intro h0; apply hm'; simp [upd, h0]
    exact hw.tokinj m m' v u b h1 h2
  · intro n hn
    obtain ⟨g1, g2, g3, g4⟩ := hw.fresh n hn
    exact ⟨g1, by simp [upd, g2], g3, g4⟩
  · exact hw.nx0
  · exact hw.rt

/-- An own box gets other cells. -/
theorem WInv.setBox {Γ : Ctx} {h : Hp} {e : Env} (hw : WInv Γ h e) {n : Nat} {row row' : List C} {b : Nat} {cs : Array Value} {ty : TypeId} {vs : List Value}
    (hn : h.H n = some row) (hρ : e.ρ n = some b) (hb : e.w.heap[b]? = some (.cells cs ty (0, 0))) (hr : RB e n row' vs) (hl : vs.length = cs.size) :
    WInv Γ { h with H := upd h.H n (some row') } { e with w := e.w.setRow b vs.toArray } ∧ e.le { e with w := e.w.setRow b vs.toArray } := by
  obtain ⟨b0, cs0, ty0, q1, q2, q3, q4, q5⟩ := hw.boxAt hρ row hn
  rw [hρ] at q1
  simp at q1
  subst q1
  rw [hb] at q2
  simp at q2
  obtain ⟨rfl, rfl⟩ := q2
  have hS : ∀ o x, e.w.cell? ⟨b, o, none⟩ = some x → e.S b o := fun o x hx => by
    have : cs[o]? = some x := by simpa [World.cell?, hb] using hx
    exact q4 o (Array.getElem?_eq_some_iff.1 this).1
  have hle : e.le { e with w := e.w.setRow b vs.toArray } := ⟨fun c o x hc hs => by
    have hne : c ≠ b := fun he => by subst he; exact hs (hS o x hc)
    exact ⟨(World.cell?_of_block (setRow_other _ _ _ _ hne)).trans hc, hs⟩, fun _ _ h => h, fun _ _ h => h⟩
  refine ⟨?_, hle⟩
  constructor
  · exact hw.os
  · exact hw.tape
  · exact hw.output
  · simpa using hw.grown
  · simpa using hw.hB
  · intro c hc hm
    have hne : c ≠ b := fun he => by
      subst he
      rcases q5 with h | h
      · omega
      · exact hm h
    exact (setRow_other _ _ _ _ hne).trans (hw.old c hc hm)
  · intro c o hc; simpa using hw.sdom c o hc
  · exact hw.s0
  · exact hw.s0B
  · intro m r hmr
    by_cases hmn : m = n
    · subst hmn
      simp only [upd_same, Option.some.injEq] at hmr
      subst hmr
      refine .inr ⟨b, vs.toArray, ty, hρ, setRow_heap _ _ _ _ _ _ hb, RB.mono hle (by simpa using hr), fun o ho => q4 o (by simp at ho; omega), q5⟩
    · simp only [upd, hmn, if_false] at hmr
      rcases hw.box m r hmr with hz | ⟨b', cs', ty', h1, h2, h3, h4, h5⟩
      · exact .inl hz
      have hne : b' ≠ b := fun he => by
        subst he
        exact hmn (hw.inj m n b' (by simp [hmr]) (by simp [hn]) h1 hρ)
      exact .inr ⟨b', cs', ty', h1, (setRow_other _ _ _ _ hne).trans h2, RB.mono hle h3, h4, h5⟩
  · intro m m' c hm hm'
    have g : ∀ i, upd h.H n (some row') i ≠ none → h.H i ≠ none := fun i hi => by
      by_cases hin : i = n
      · subst hin; simp [hn]
      · simpa [upd, hin] using hi
    exact hw.inj m m' c (g m hm) (g m' hm')
  · intro k ty' hk
    obtain ⟨h0, v, h1, hor⟩ := hw.tok k ty' hk
    refine ⟨h0, v, h1, hor.imp id ?_⟩
    rintro ⟨sz, m, xs, hsz, h2, h3, h4⟩
    have hne : ∀ c, v.ownBlock = some c → c ≠ b := fun c hc he => by
      subst he
      exact h4 c hc n (by simp [hn]) hρ
    refine ⟨sz, m, xs, hsz, ownsRow_same h2 (fun c hc => setRow_other _ _ _ _ (hne c hc)), fun c o hc ho hs => ?_, fun c hc i hi => ?_⟩
    · have hce : (e.w.setRow b vs.toArray).cell? ⟨c, o, none⟩ = e.w.cell? ⟨c, o, none⟩ := World.cell?_of_block (setRow_other _ _ _ _ (hne c hc))
      exact h3 c o hc ho (by rw [← hce]; exact hs)
    · have : h.H i ≠ none := by
        by_cases hin : i = n
        · subst hin; simp [hn]
        · simpa [upd, hin] using hi
      exact h4 c hc i this
  · exact hw.tokinj
  · intro m hm
    obtain ⟨g1, g2, g3, g4⟩ := hw.fresh m hm
    refine ⟨?_, g2, g3, g4⟩
    have : m ≠ n := fun he => by rw [he, hn] at g1; cases g1
    simp [upd, this, g1]
  · exact hw.nx0
  · exact hw.rt

end Go.Proofs.Ytgkacglpjmndbaa
