/- Slices of strings and of slices, conversions, fields, aggregates. -/
import Derived.Test.YtgkacglpjmndbaaMd
namespace Go.Proofs.Ytgkacglpjmndbaa
open Go.RowKit

def bnd (σ : Nat → AV) (d : Int) : Option Operand → Option Int
  | none => some d
  | some x => match evA σ x with
    | .c (.d (.v (.int _ i))) => some i
    | _ => none

theorem bnd_eval {σ : Nat → AV} {a : Act} {e : Env} {d i : Int} {x : Option Operand} (h : bnd σ d x = some i)
    (ho : ∀ y, x = some y → RA e (evA σ y) (a.eval y)) : (x = none ∧ i = d) ∨ ∃ y k, x = some y ∧ a.eval y = .int k i := by
  cases x with
  | none => simp [bnd] at h; exact .inl ⟨rfl, h.symm⟩
  | some y =>
    simp only [bnd] at h
    split at h
    · rename_i k j hy
      have h1 := ho y rfl
      rw [hy] at h1
      have h1 := R1.vInv h1
      simp at h; subst h
      exact .inr ⟨y, k, rfl, h1⟩
    · cases h

theorem run_bounds {P : Program} {w : World} {σ : Nat → AV} {a : Act} {e : Env} {isS : Bool} {len cap : Nat} {lo hi : Option Operand} {l h : Int}
    (hl : bnd σ 0 lo = some l) (hh : bnd σ len hi = some h) (h0 : 0 ≤ l) (h1 : l ≤ h) (h2 : h ≤ len) (hc : len ≤ cap)
    (hlo : ∀ y, lo = some y → RA e (evA σ y) (a.eval y)) (hhi : ∀ y, hi = some y → RA e (evA σ y) (a.eval y)) :
    (Instr.sliceBounds isS len cap (lo.map a.eval) (hi.map a.eval) none).run P w = .ok (l.toNat, h.toNat, cap) w := by
  have e1 : (match (hi.map a.eval) with | some v => Instr.sliceBound v cap (if isS then .sliceAcap else .sliceAlen) | none => pure len : Sem Nat).run P w = .ok h.toNat w := by
    rcases bnd_eval hh hhi with ⟨rfl, rfl⟩ | ⟨y, k, rfl, hy⟩
    · simp
    · simp only [Option.map_some, hy, Instr.sliceBound, asIntOf, Sem.run_bind, Sem.run_pure, Result.andThen_ok]
      rw [if_pos (by omega), Sem.run_pure]
  have e2 : (match (lo.map a.eval) with | some v => Instr.sliceBound v h.toNat .sliceB | none => pure 0 : Sem Nat).run P w = .ok l.toNat w := by
    rcases bnd_eval hl hlo with ⟨rfl, rfl⟩ | ⟨y, k, rfl, hy⟩
    · simp
    · simp only [Option.map_some, hy, Instr.sliceBound, asIntOf, Sem.run_bind, Sem.run_pure, Result.andThen_ok]
      rw [if_pos (by omega), Sem.run_pure]
  unfold Instr.sliceBounds
  simp only [Sem.run_bind, Sem.run_pure, Result.andThen_ok]
  cases hi with
  | none =>
    simp only [Option.map_none, Sem.run_pure, Result.andThen_ok] at e1 ⊢
    cases lo with
    | none => simp at e1 e2 ⊢; exact ⟨e2, e1⟩
    | some y => simp at e1 e2 ⊢; rw [e1, e2]; simp
  | some z =>
    simp only [Option.map_some] at e1 ⊢
    rw [Sem.run_bind, e1]
    simp only [Result.andThen_ok]
    cases lo with
    | none => simp at e2 ⊢; exact e2
    | some y => simp at e2 ⊢; rw [e2]; simp

/-- s[lo:hi]. -/
def aSlice (P : Program) (σ : Nat → AV) (h : Hp) (t : TypeId) (x : Operand) (lo hi : Option Operand) : AR :=
  match evA σ x with
  | .c (.d (.v (.string s))) => match bnd σ 0 lo, bnd σ (bl s).length hi with
    | some l, some k => ⟨P.underlying t = some .string ∧ 0 ≤ l ∧ l ≤ k ∧ k ≤ (bl s).length, .c (.d (.v (str (((bl s).drop l.toNat).take (k.toNat - l.toNat))))), h⟩
    | _, _ => .bad h
  | y => match slD y with
    | some (sz, m) => match bnd σ 0 lo, bnd σ m.length hi with
      | some l, some k => ⟨tSlice P t = true ∧ sz = tSize P (tElem P t) ∧ 0 ≤ l ∧ l ≤ k ∧ k ≤ m.length, .c (.d (.sl sz ((m.drop l.toNat).take (k.toNat - l.toNat)))), h⟩
      | _, _ => .bad h
    | none => .bad h

theorem flat_drop {sz : Nat} : ∀ {l : List D} (n : Nat), (∀ d ∈ l, d.cells.length = sz) → (l.drop n).flatMap D.cells = (l.flatMap D.cells).drop (n * sz)
  | _, 0, _ => by simp
  | [], n + 1, _ => by simp
  | d :: l, n + 1, h => by
    have h1 := h d (by simp)
    have := flat_drop (l := l) n (fun d hd => h d (by simp [hd]))
    rw [List.drop_succ_cons, this, List.flatMap_cons, show (n + 1) * sz = d.cells.length + n * sz by rw [h1, Nat.add_mul]; omega, List.drop_append]
    have e : List.drop (d.cells.length + n * sz) d.cells = [] := List.drop_of_length_le (by omega)
    rw [e]; simp

theorem flat_take {sz : Nat} : ∀ {l : List D} (n : Nat), (∀ d ∈ l, d.cells.length = sz) → (l.take n).flatMap D.cells = (l.flatMap D.cells).take (n * sz)
  | _, 0, _ => by simp
  | [], n + 1, _ => by simp
  | d :: l, n + 1, h => by
    have h1 := h d (by simp)
    have := flat_take (l := l) n (fun d hd => h d (by simp [hd]))
    rw [List.take_succ_cons, List.flatMap_cons, this, List.flatMap_cons, show (n + 1) * sz = d.cells.length + n * sz by rw [h1, Nat.add_mul]; omega, List.take_append]
    have e : List.take (d.cells.length + n * sz) d.cells = d.cells := List.take_of_length_le (by omega)
    rw [e]; simp

theorem R1.slice {w : World} {S : Nat → Nat → Prop} {sz : Nat} {m : List D} {vs : List Value} {b o cap l k : Nat}
    (h4 : Rn w S (m.flatMap D.cells) vs) (h5 : ∀ i x, vs[i]? = some x → w.cell? ⟨b, o + i, none⟩ = some x ∧ ¬ S b (o + i)) (h6 : ∀ d ∈ m, d.cells.length = sz)
    (h1 : l ≤ k) (h2 : k ≤ m.length) (h7 : k ≤ cap) :
    R1 w S (.sl sz ((m.drop l).take (k - l))) (.slice (some ⟨b, o + l * sz, none⟩) (k - l) (cap - l)) := by
  have hlen : ((m.drop l).take (k - l)).length = k - l := by simp; omega
  have hsub : ∀ d ∈ (m.drop l).take (k - l), d.cells.length = sz := fun d hd => h6 d (List.mem_of_mem_drop (List.mem_of_mem_take hd))
  have := RD.sl (w := w) (S := S) sz ((m.drop l).take (k - l)) ((vs.drop (l * sz)).take ((k - l) * sz)) b (o + l * sz) (cap - l) (by
    rw [flat_take _ (fun d hd => h6 d (List.mem_of_mem_drop hd)), flat_drop _ h6]
    exact (h4.drop _).take _) (fun i x hx => by
      rw [List.getElem?_take] at hx
      split at hx
      · rw [List.getElem?_drop] at hx
        have := h5 _ _ hx
        simpa [Nat.add_assoc] using this
      · cases hx) hsub (by omega)
  rwa [hlen] at this

theorem vr_slice {Γ : Ctx} {σ : Nat → AV} {h : Hp} (o : Oper) (t : TypeId) (x : Operand) (lo hi : Option Operand) (ho : o.op = .slice t x lo hi none) (hp : (aSlice Γ.P σ h t x lo hi).pre) :
    VR Γ o σ h (aSlice Γ.P σ h t x lo hi).val (aSlice Γ.P σ h t x lo hi).h := by
  have mx : x ∈ o.op.operands := by simp [ho, Op.operands]
  have mlo : ∀ y, lo = some y → y ∈ o.op.operands := fun y hy => by subst hy; simp [ho, Op.operands]
  have mhi : ∀ y, hi = some y → y ∈ o.op.operands := fun y hy => by subst hy; simp [ho, Op.operands]
  unfold aSlice at *
  split at hp
  · rename_i s hx
    split at hp
    · rename_i l k hl hk
      obtain ⟨hu, h0, h1, h2⟩ := hp
      refine VR.of_run fun a e hop hw => ⟨_, ?_, .v _⟩
      have e1 := hop x mx
      rw [hx] at e1
      have e1 := R1.vInv e1
      have hb := run_bounds (P := Γ.P) (w := e.w) (isS := false) (len := (bl s).length) (cap := (bl s).length) (a := a) (e := e) hl hk h0 h1 h2 (Nat.le_refl _) (fun y hy => hop y (mlo y hy)) (fun y hy => hop y (mhi y hy))
      have hs : s.size = (bl s).length := bl_size s
      have hex : s.extract l.toNat k.toNat = ⟨(((bl s).drop l.toNat).take (k.toNat - l.toNat)).toArray⟩ := by
        apply ByteArray.ext
        rw [ByteArray.data_extract]
        apply Array.ext'
        simp [bl]
      simp only [execOp, ho, e1, Instr.sliceAt, Instr.slice, Sem.run_bind, run_underlying hu, Result.andThen_ok, Option.map_none, Option.isSome_none, Bool.false_eq_true, if_false, hs, hb, Sem.run_pure, hex]
    · exact hp.elim
  · rename_i y hy
    split at hp
    · rename_i sz m hsl
      split at hp
      · rename_i l k hl hk
        obtain ⟨ht, rfl, h0, h1, h2⟩ := hp
        refine VR.of_run fun a e hop hw => ?_
        have e1 := (hop x mx).slD hsl
        unfold tSlice at ht
        split at ht
        · rename_i el hu
          simp only [Bool.and_eq_true] at ht
          have he : tElem Γ.P t = el := by simp [tElem, hu]
          rw [he] at e1 ⊢
          have hs := run_sizeOf Γ.P el e.w (by simp [tKnown, ht])
          rcases e1.slInv with ⟨rfl, o', e2⟩ | ⟨vs, b, of, cap, h3, h4, h5, h6, h7⟩
          · have hb := run_bounds (P := Γ.P) (w := e.w) (isS := true) (len := 0) (cap := 0) (a := a) (e := e) hl hk h0 h1 (by simpa using h2) (Nat.le_refl _) (fun y hy => hop y (mlo y hy)) (fun y hy => hop y (mhi y hy))
            have hk0 : k.toNat = 0 := by simp at h2; omega
            have hl0 : l.toNat = 0 := by simp at h2; omega
            refine ⟨.slice o' 0 0, ?_, ?_⟩
            · simp only [execOp, ho, e2, Instr.sliceAt, Instr.slice, Sem.run_bind, run_underlying hu, Result.andThen_ok, Option.map_none, hb, hs, Sem.run_pure, hk0, hl0]
              simp
            · simp; exact .slnil _ _
          · have hb := run_bounds (P := Γ.P) (w := e.w) (isS := true) (len := m.length) (cap := cap) (a := a) (e := e) hl hk h0 h1 h2 h7 (fun y hy => hop y (mlo y hy)) (fun y hy => hop y (mhi y hy))
            by_cases hcl : cap = l.toNat
            · subst hcl
              refine ⟨.slice (some ⟨b, of, none⟩) (k.toNat - l.toNat) (l.toNat - l.toNat), ?_, ?_⟩
              · simp only [execOp, ho, h3, Instr.sliceAt, Instr.slice, Sem.run_bind, run_underlying hu, Result.andThen_ok, Option.map_none, hb, hs, Sem.run_pure, if_true]
              · have hk0 : k.toNat - l.toNat = 0 := by omega
                rw [hk0]
                simp only [List.take_zero]
                exact RD.sl _ [] [] b of _ .anil (by simp) (by simp) (by simp)
            · refine ⟨.slice (some ⟨b, of + l.toNat * tSize Γ.P el, none⟩) (k.toNat - l.toNat) (cap - l.toNat), ?_, ?_⟩
              · simp only [execOp, ho, h3, Instr.sliceAt, Instr.slice, Sem.run_bind, run_underlying hu, Result.andThen_ok, Option.map_none, hb, hs, Sem.run_pure, hcl, if_false, Option.map_some, Addr.add]
                split <;> simp_all
              · exact R1.slice h4 h5 h6 (by omega) (by omega) (by omega)
        · simp at ht
      · exact hp.elim
    · exact hp.elim

end Go.Proofs.Ytgkacglpjmndbaa
