/- Arguments opened: what is read of a value of memory is of some data, and its bulk bounds it. -/
import Derived.Test.YtgkacglpjmndbaaSg
import Derived.Deep.Slices
namespace Go.Proofs.Ytgkacglpjmndbaa
open Go.ChangeShapes Go.WideShapes Go.ChangeAt Go.RowKit
set_option linter.unusedVariables false

structure Opn (t : TypeId) {α : Type} (e : α → D) (b : α → Nat) (ok : α → Prop) : Prop where
  go : ∀ (H : Type) (enc : TypeId × Value → H) (W : World) (hd : Bool) (n : Nat) (cs : List Value) (x : DataW H × List MemPlace),
    DataW.trod enc Try.prog W 0 (fun _ => true) hd n t cs = some x → ∃ a, Rn W (fun _ _ => False) (e a).cells cs ∧ b a ≤ Rows.uptoBulk x.1 ∧ ok a

def bkS (l : List UInt8) : Nat := l.length + 1
def bk1 {α : Type} (_ : α) : Nat := 1
def bkL {α : Type} (b : α → Nat) (l : List α) : Nat := (l.map b).sum + 1
def okI (n : Int) : Prop := -9223372036854775808 ≤ n ∧ n ≤ 9223372036854775807
def okT {α : Type} (_ : α) : Prop := True
def okL {α : Type} (ok : α → Prop) (l : List α) : Prop := ∀ a ∈ l, ok a

theorem Opn.str {t : TypeId} (ht : Try.prog.underlying t = some .string) : Opn t dS bkS okT := ⟨fun H enc W hd n cs x h => by
  obtain ⟨s, rfl, rfl, _⟩ := DataW.trod_string ht h
  refine ⟨bl s, ?_, ?_, trivial⟩
  · show Rn _ _ [.v (Proofs.Ytgkacglpjmndbaa.str (bl s))] _
    rw [str_bl]
    exact .acons _ _ _ _ (.v _) .anil
  · exact Nat.le_refl _⟩

theorem Opn.int {t : TypeId} (ht : Try.prog.underlying t = some (.int .i64)) : Opn t dI bk1 okI := ⟨fun H enc W hd n cs x h => by
  obtain ⟨m, rfl, rfl, hw⟩ := DataW.trod_int ht h
  refine ⟨m, ?_, Nat.le_refl _, ?_⟩
  · exact .acons _ _ _ _ (.v _) .anil
  · simpa [okI, Lit.wf, IntKind.min, IntKind.max, IntKind.signed, IntKind.bits] using hw⟩

theorem Opn.bool {t : TypeId} (ht : Try.prog.underlying t = some .bool) : Opn t dB bk1 okT := ⟨fun H enc W hd n cs x h => by
  obtain ⟨m, rfl, rfl⟩ := DataW.trod_bool ht h
  exact ⟨m, .acons _ _ _ _ (.v _) .anil, Nat.le_refl _, trivial⟩⟩

theorem addr_plain {w : World} {a : Addr} {x : Value} (j : Nat) (h : w.cell? (a.add j) = some x) : (j = 0 → a.spot = none) ∧ w.cell? ⟨a.block, a.off + j, none⟩ = some x := by
  have hspot : (a.add j).spot = none := by
    cases hsp : (a.add j).spot with
    | none => rfl
    | some s =>
      simp only [World.cell?] at h
      split at h
      · simp [hsp] at h
      · cases h
  unfold Addr.add at hspot h
  by_cases h0 : j = 0
  · subst h0
    rw [if_pos rfl] at h hspot
    refine ⟨fun _ => hspot, ?_⟩
    cases a
    simp_all
  · rw [if_neg h0] at h
    exact ⟨fun h => absurd h h0, h⟩

theorem bulkAll_append {H : Type} : ∀ (l m : List (DataW H)), Rows.uptoBulkAll (l ++ m) = Rows.uptoBulkAll l + Rows.uptoBulkAll m
  | [], m => by simp [Rows.uptoBulkAll]
  | d :: l, m => by simp only [List.cons_append, Rows.uptoBulkAll, bulkAll_append l m]; omega

theorem Opn.slice {t el : TypeId} {α : Type} {e : α → D} {b : α → Nat} {ok : α → Prop} {sz : Nat} (ht : Try.prog.underlying t = some (.slice el)) (hz : Try.prog.cellsOf el = sz) (h0 : 0 < sz)
    (he : Opn el e b ok) (hc : ∀ a, (e a).cells.length = sz) : Opn t (dL sz e) (bkL b) (okL ok) := ⟨fun H enc W hd n cs x h => by
  rcases DataW.trod_slice ht h with ⟨rfl, rfl⟩ | ⟨a, len, cap, elems, rest, m, _, rfl, rfl, _, hlc, _, hlen, hel, hsp, _⟩
  · exact ⟨[], .acons _ _ _ _ (.slnil sz none) .anil, Nat.le_refl _, fun _ h => by cases h⟩
  · rw [hz] at hel hsp
    obtain ⟨hrl, hr⟩ := hsp rfl
    by_cases hc0 : cap = 0
    · have hl0 : len = 0 := by omega
      subst hl0; subst hc0
      refine ⟨[], .acons _ _ _ _ (.slnil sz (some a)) .anil, ?_, fun _ h => by cases h⟩
      simp [bkL, Rows.uptoBulk]
    · have hspot : a.spot = none := by
        have : ∃ (q : List Value → Option (DataW H × List MemPlace)) (y : DataW H × List MemPlace), (W.cells? 0 (a.add (0 * sz)) sz).bind q = some y := by
          by_cases hl : 0 < len
          · have := hel 0 hl
            rw [List.getElem?_eq_getElem (by omega)] at this
            exact ⟨_, _, this⟩
          · have := hr 0 (by omega)
            rw [List.getElem?_eq_getElem (by omega), show len + 0 = 0 by omega] at this
            exact ⟨_, _, this⟩
        obtain ⟨q, y, hy⟩ := this
        obtain ⟨cs', h1, _⟩ := Option.bind_eq_some_iff.1 hy
        obtain ⟨_, h2, h3⟩ := World.cells?_some h1
        have h4 := h3 0 h0
        rw [List.getElem?_eq_getElem (by omega), Nat.zero_mul, Deep.add_add] at h4
        exact (addr_plain _ h4).1 rfl
      have key : ∀ k, k ≤ len → ∃ (l : List α) (vs : List Value), l.length = k ∧ vs.length = k * sz ∧ Rn W (fun _ _ => False) ((l.map e).flatMap D.cells) vs ∧
          (∀ j y, vs[j]? = some y → W.cell? ⟨a.block, a.off + j, none⟩ = some y) ∧ (l.map b).sum ≤ Rows.uptoBulkAll ((elems.take k).map (·.1)) ∧ ∀ z ∈ l, ok z := by
        intro k
        induction k with
        | zero => exact fun _ => ⟨[], [], rfl, by simp, .anil, fun j y hj => by simp at hj, by simp [Rows.uptoBulkAll], fun _ h => by cases h⟩
        | succ k ih =>
          intro hk
          obtain ⟨l, vs, l1, l2, l3, l4, l5, l6⟩ := ih (by omega)
          have hk' : k < elems.length := by omega
          have h1 := hel k (by omega)
          rw [List.getElem?_eq_getElem hk'] at h1
          obtain ⟨cs', h1, h2⟩ := Option.bind_eq_some_iff.1 h1
          obtain ⟨_, h3, h4⟩ := World.cells?_some h1
          obtain ⟨z, r1, r2, r3⟩ := he.go H enc W hd m cs' _ h2
          refine ⟨l ++ [z], vs ++ cs', by simp [l1], by rw [List.length_append, l2, h3, Nat.add_mul]; omega, ?_, fun j y hj => ?_, ?_, ?_⟩
          · rw [List.map_append, List.flatMap_append]
            refine l3.append ?_
            simpa using r1
          · by_cases hjv : j < vs.length
            · rw [List.getElem?_append_left hjv] at hj
              exact l4 j y hj
            · rw [List.getElem?_append_right (by omega)] at hj
              have hj' : j - vs.length < sz := by
                rcases Nat.lt_or_ge (j - vs.length) sz with h | h
                · exact h
                · rw [List.getElem?_eq_none (by omega)] at hj; cases hj
              have := h4 _ hj'
              rw [hj, Deep.add_add] at this
              have := (addr_plain _ this).2
              rwa [show k * sz + (j - vs.length) = j by omega] at this
          · rw [List.take_add_one, List.getElem?_eq_getElem hk', List.map_append, List.map_append, bulkAll_append, List.sum_append]
            have : Rows.uptoBulkAll ((some elems[k]).toList.map (·.1)) = Rows.uptoBulk elems[k].1 := by simp [Rows.uptoBulkAll]
            rw [this]
            simp only [List.map_cons, List.map_nil, List.sum_cons, List.sum_nil]
            omega
          · intro w hw
            rcases List.mem_append.1 hw with hw | hw
            · exact l6 w hw
            · rw [List.mem_singleton] at hw
              exact hw ▸ r3
      obtain ⟨l, vs, l1, l2, l3, l4, l5, l6⟩ := key len (Nat.le_refl _)
      refine ⟨l, ?_, ?_, l6⟩
      · have := RD.sl (w := W) (S := fun _ _ => False) sz (l.map e) vs a.block a.off cap l3 (fun i y hi => ⟨l4 i y hi, fun h => h⟩) (fun d hd' => by
          obtain ⟨z, _, rfl⟩ := List.mem_map.1 hd'
          exact hc z) (by rw [List.length_map]; omega)
        rw [List.length_map, l1] at this
        have ha : a = ⟨a.block, a.off, none⟩ := by cases a; simp at hspot; subst hspot; rfl
        rw [← ha] at this
        exact .acons _ _ _ _ this .anil
      · rw [List.take_of_length_le (by omega)] at l5
        simp only [bkL, Rows.uptoBulk]
        omega⟩

theorem Opn.top {t : TypeId} {α : Type} {e : α → D} {b : α → Nat} {ok : α → Prop} (he : Opn t e b ok) {H : Type} {enc : TypeId × Value → H} {W : World} {v : Value} {d : DataW H} {p : List MemPlace}
    (hv : v.cells = #[v]) (h1 : (fun a => (e a).cells) = fun a => [e a]) (h : DataW.Trod enc Try.prog W 0 (fun _ => true) true t v d p) : ∃ a, R1 W (fun _ _ => False) (e a) v ∧ b a ≤ Rows.uptoBulk d ∧ ok a := by
  obtain ⟨n, hn⟩ := h
  rw [hv] at hn
  obtain ⟨a, r1, r2, r3⟩ := he.go H enc W true n _ _ hn
  rw [show (e a).cells = [e a] from congrFun h1 a] at r1
  refine ⟨a, ?_, r2, r3⟩
  cases r1 with | acons _ _ _ _ h1 h2 => exact h1

set_option maxRecDepth 100000 in
theorem slice_cells {W : World} {base : Nat} {t el : TypeId} {v : Value} (ht : Try.prog.underlying t = some (.slice el)) (hv : Value.okWide Try.prog W .any base t v) : v.cells = #[v] := by
  obtain ⟨a, len, cap, rfl⟩ := okWide_slice ht hv
  rfl

/-- What was read reads as it did where only new blocks have come. -/
theorem stays {H : Type} {enc : TypeId × Value → H} {W W' : World} {t : TypeId} {v : Value} {d : DataW H} {ps : List MemPlace} {sp : Nat → Bool} (hl : laidOutB Try.prog = true) (hr : Try.prog.readableRec t = true) (hrow : t < Try.prog.types.size)
    (h : DataW.Trod enc Try.prog W 0 (fun _ => true) true t v d ps) (hg : Grows W W') (hlt : ∀ x ∈ ps, x.block < W.heap.size) (hs : ∀ x ∈ ps, sp x.block = true) :
    DataW.Trod enc Try.prog W' 0 sp true t v d ps :=
  WideElems.Trod_stays hl hr hrow h (fun x hx => hg.below.same (hlt x hx)) hs
end Go.Proofs.Ytgkacglpjmndbaa
