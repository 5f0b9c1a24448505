/- Pure data, and what it means that a value of memory represents data. -/
import Derived.WalkKit
import Derived.Orders
namespace Go.Proofs.Ytgkacglpjmndbaa
open Go.RowKit

inductive D where
  | v (x : Value)
  | ag (l : List D)
  | tu (l : List D)
  | sl (sz : Nat) (l : List D)
  deriving Inhabited

def D.cells : D → List D
  | .ag l => l
  | x => [x]

inductive It where
  | one (d : D) (v : Value)
  | all (l : List D) (vs : List Value)

inductive RD (w : World) (S : Nat → Nat → Prop) : It → Prop where
  | v (x : Value) : RD w S (.one (.v x) x)
  | ag (l : List D) (vs : List Value) : RD w S (.all l vs) → RD w S (.one (.ag l) (.agg ⟨vs⟩))
  | tu (l : List D) (vs : List Value) : RD w S (.all l vs) → RD w S (.one (.tu l) (.tuple ⟨vs⟩))
  | slnil (sz : Nat) (o : Option Addr) : RD w S (.one (.sl sz []) (.slice o 0 0))
  | sl (sz : Nat) (l : List D) (vs : List Value) (b o cap : Nat) : RD w S (.all (l.flatMap D.cells) vs) →
      (∀ i x, vs[i]? = some x → w.cell? ⟨b, o + i, none⟩ = some x ∧ ¬ S b (o + i)) → (∀ d ∈ l, d.cells.length = sz) → l.length ≤ cap →
      RD w S (.one (.sl sz l) (.slice (some ⟨b, o, none⟩) l.length cap))
  | anil : RD w S (.all [] [])
  | acons (d : D) (x : Value) (l : List D) (vs : List Value) : RD w S (.one d x) → RD w S (.all l vs) → RD w S (.all (d :: l) (x :: vs))

abbrev R1 (w : World) (S : Nat → Nat → Prop) (d : D) (x : Value) : Prop := RD w S (.one d x)
abbrev Rn (w : World) (S : Nat → Nat → Prop) (l : List D) (vs : List Value) : Prop := RD w S (.all l vs)

/-- What was there and in nobody's hands is there, and in nobody's hands. -/
def Keep (w : World) (S : Nat → Nat → Prop) (w' : World) (S' : Nat → Nat → Prop) : Prop :=
  ∀ b o x, w.cell? ⟨b, o, none⟩ = some x → ¬ S b o → w'.cell? ⟨b, o, none⟩ = some x ∧ ¬ S' b o

theorem Keep.refl (w : World) (S : Nat → Nat → Prop) : Keep w S w S := fun _ _ _ h g => ⟨h, g⟩
theorem Keep.trans {w w1 w2 : World} {S S1 S2 : Nat → Nat → Prop} (h : Keep w S w1 S1) (k : Keep w1 S1 w2 S2) : Keep w S w2 S2 :=
  fun b o x hc hs => let ⟨h1, h2⟩ := h b o x hc hs; k b o x h1 h2

theorem RD.mono {w w' : World} {S S' : Nat → Nat → Prop} (hk : Keep w S w' S') {it : It} (h : RD w S it) : RD w' S' it := by
  induction h with
  | v x => exact .v x
  | ag l vs _ ih => exact .ag l vs ih
  | tu l vs _ ih => exact .tu l vs ih
  | slnil sz o => exact .slnil sz o
  | sl sz l vs b o cap _ hc hs hl ih => exact .sl sz l vs b o cap ih (fun i x hx => let ⟨h1, h2⟩ := hc i x hx; hk _ _ _ h1 h2) hs hl
  | anil => exact .anil
  | acons d x l vs _ _ i1 i2 => exact .acons d x l vs i1 i2

theorem Rn.length {w : World} {S : Nat → Nat → Prop} : ∀ {l : List D} {vs : List Value}, Rn w S l vs → vs.length = l.length
  | [], _, h => by cases h; rfl
  | _ :: _, _, h => by cases h with | acons _ _ _ _ _ h2 => simp [Rn.length h2]

theorem Rn.append {w : World} {S : Nat → Nat → Prop} : ∀ {l m : List D} {vs us : List Value}, Rn w S l vs → Rn w S m us → Rn w S (l ++ m) (vs ++ us)
  | [], _, _, _, h, k => by cases h; exact k
  | _ :: _, _, _, _, h, k => by cases h with | acons _ _ _ _ h1 h2 => exact .acons _ _ _ _ h1 (Rn.append h2 k)

theorem Rn.get {w : World} {S : Nat → Nat → Prop} : ∀ {l : List D} {vs : List Value}, Rn w S l vs → ∀ (i : Nat) (d : D), l[i]? = some d → ∃ x, vs[i]? = some x ∧ R1 w S d x
  | [], _, _, i, d, h => by simp at h
  | _ :: _, _, h, i, d, hi => by
    cases h with
    | acons _ _ _ _ h1 h2 =>
      cases i with
      | zero => simp at hi; subst hi; exact ⟨_, rfl, h1⟩
      | succ i => simpa using Rn.get h2 i d (by simpa using hi)

theorem Rn.drop {w : World} {S : Nat → Nat → Prop} : ∀ {l : List D} {vs : List Value} (n : Nat), Rn w S l vs → Rn w S (l.drop n) (vs.drop n)
  | _, _, 0, h => h
  | [], _, n + 1, h => by cases h; exact .anil
  | _ :: _, _, n + 1, h => by cases h with | acons _ _ _ _ _ h2 => exact Rn.drop n h2

theorem Rn.take {w : World} {S : Nat → Nat → Prop} : ∀ {l : List D} {vs : List Value} (n : Nat), Rn w S l vs → Rn w S (l.take n) (vs.take n)
  | _, _, 0, h => .anil
  | [], _, n + 1, h => by cases h; exact .anil
  | _ :: _, _, n + 1, h => by cases h with | acons _ _ _ _ h1 h2 => exact .acons _ _ _ _ h1 (Rn.take n h2)

theorem Rn.split {w : World} {S : Nat → Nat → Prop} {l m : List D} {vs : List Value} (h : Rn w S (l ++ m) vs) : ∃ us ts, vs = us ++ ts ∧ Rn w S l us ∧ Rn w S m ts := by
  refine ⟨vs.take l.length, vs.drop l.length, (List.take_append_drop _ _).symm, ?_, ?_⟩
  · have := Rn.take l.length h; simpa using this
  · have := Rn.drop l.length h; simpa using this

/-- The cells of elements of one size. -/
theorem flat_length {sz : Nat} : ∀ {l : List D}, (∀ d ∈ l, d.cells.length = sz) → (l.flatMap D.cells).length = l.length * sz
  | [], _ => by simp
  | d :: l, h => by
    have h1 := h d (by simp)
    have h2 := flat_length (l := l) (fun d hd => h d (by simp [hd]))
    simp [List.flatMap_cons, h1, h2, Nat.add_mul]; omega

theorem flat_at {sz : Nat} : ∀ {l : List D}, (∀ d ∈ l, d.cells.length = sz) → ∀ (i : Nat) (d : D), l[i]? = some d → ((l.flatMap D.cells).drop (i * sz)).take sz = d.cells
  | [], _, i, d, h => by simp at h
  | e :: l, hs, i, d, h => by
    have h1 := hs e (by simp)
    cases i with
    | zero => simp at h; subst h; simp [List.flatMap_cons, h1]
    | succ i =>
      have := flat_at (l := l) (fun d hd => hs d (by simp [hd])) i d (by simpa using h)
      rw [List.flatMap_cons, show (i + 1) * sz = e.cells.length + i * sz by rw [h1, Nat.add_mul]; omega, List.drop_append]
      rw [List.drop_of_length_le (by omega)]; simpa using this

end Go.Proofs.Ytgkacglpjmndbaa
