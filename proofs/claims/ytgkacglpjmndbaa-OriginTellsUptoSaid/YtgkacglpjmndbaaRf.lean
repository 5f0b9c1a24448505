/- OriginTells, second part: names that begin a text; the statement's function. Plain. -/
import Derived.Test.YtgkacglpjmndbaaRe
namespace Go.Proofs.Ytgkacglpjmndbaa
open Go.RowKit

def restS (l : List Source) (c : Call) : List UInt8 := (txt l c.File).drop c.At.toNat
def inS (l : List Source) (c : Call) : Prop := 0 ≤ c.File ∧ c.File < (l.length : Int) ∧ 0 ≤ c.At ∧ c.At ≤ ((txt l c.File).length : Int)
instance (l : List Source) (c : Call) : Decidable (inS l c) := by unfold inS; infer_instance
def fitS (l : List Source) (c : Call) : Prop := inS l c ∧ c.Name ≠ [] ∧ c.Name.length ≤ (spText (restS l c)).length
instance (l : List Source) (c : Call) : Decidable (fitS l c) := by unfold fitS; infer_instance
def named (l : List Source) (c : Call) : Prop := fitS l c ∧ (spText (restS l c)).take c.Name.length = c.Name
instance (l : List Source) (c : Call) : Decidable (named l c) := by unfold named; infer_instance
def endV (l : List Source) (c : Call) : Int := if fitS l c then c.At + (((spPos (restS l c)).getD (c.Name.length - 1) 0 : Nat) : Int) + 1 else -1

theorem end_eq (l : List Source) (c : Call) (hl : ∀ f, (txt l f).length ≤ 1099511627776) (hn : c.Name.length ≤ 1099511627776) : origin_end l c = some (endV l c) := by
  have fin : ¬ inS l c → origin_end_j1 l c true = some (endV l c) := fun h => by
    have : ¬ fitS l c := fun h' => h h'.1
    simp [origin_end_j1, endV, this]
  have hf := hl c.File
  unfold origin_end
  simp only [ltI, leI, decide_eq_true_eq]
  split
  · exact fin (fun h => by have := h.1; omega)
  split
  · exact fin (fun h => by have := h.2.1; omega)
  split
  · exact fin (fun h => by have := h.2.2.1; omega)
  rw [if_pos (by omega)]
  by_cases h6 : ((l.getD c.File.toNat default).Text.length : Int) < c.At
  · rw [decide_eq_true h6]
    exact fin (fun h => by have := h.2.2.2; unfold txt at this; omega)
  · rw [decide_eq_false h6]
    have ok : inS l c := ⟨by omega, by omega, by omega, by unfold txt; omega⟩
    simp only [origin_end_j1, Bool.false_eq_true, if_false]
    unfold txt at hf
    rw [if_pos (by omega), if_pos (by omega), text_eq _ (by rw [List.length_drop]; omega)]
    simp only [Option.bind_some, spS, eqI, decide_eq_true_eq, ltI]
    have hrest : List.drop c.At.toNat (l.getD c.File.toNat default).Text = restS l c := rfl
    have hrl : (restS l c).length ≤ 1099511627776 := by unfold restS txt; rw [List.length_drop]; omega
    rw [hrest]
    by_cases h7 : c.Name = []
    · have : ¬ fitS l c := fun h => h.2.1 h7
      simp [h7, origin_end_j2, endV, this]
    · have h7' : c.Name.length ≠ 0 := fun h => h7 (List.length_eq_zero_iff.1 h)
      rw [if_neg (by omega)]
      by_cases h8 : ((spText (restS l c)).length : Int) < (c.Name.length : Int)
      · have : ¬ fitS l c := fun h => by have := h.2.2; omega
        simp [h8, origin_end_j2, endV, this]
      · have hfit : fitS l c := ⟨ok, h7, by omega⟩
        rw [decide_eq_false h8]
        have hp := spPos_length (restS l c)
        have hle := spPos_le (restS l c) ((spPos (restS l c)).getD (c.Name.length - 1) 0) (by
          rw [List.getD_eq_getElem?_getD, List.getElem?_eq_getElem (by omega)]; simp)
        simp only [origin_end_j2, Bool.false_eq_true, if_false]
        rw [wr ((c.Name.length : Int) - 1) (by omega), where_eq]
        have hw : whereN (spPos (restS l c)) ((c.Name.length : Int) - 1) = (((spPos (restS l c)).getD (c.Name.length - 1) 0 : Nat) : Int) := by
          unfold whereN
          rw [if_neg (by omega)]
          congr 2
          omega
        rw [hw]
        simp only [Option.bind_some, endV, hfit, if_true]
        rw [wr (c.At + _) (by omega), wr _ (by omega)]

theorem begins_eq (l : List Source) (c : Call) (hl : ∀ f, (txt l f).length ≤ 1099511627776) : preref7_Begins l c = some (decide (named l c)) := by
  have fin : ¬ (inS l c ∧ c.Name ≠ []) → preref7_Begins_j1 l c true = some (decide (named l c)) := fun h => by
    have : ¬ named l c := fun h' => h ⟨h'.1.1, h'.1.2.1⟩
    simp [preref7_Begins_j1, this]
  have hf := hl c.File
  unfold preref7_Begins
  simp only [eqS, ltI, leI, decide_eq_true_eq]
  split
  · exact fin (fun h => by have := h.1.1; omega)
  split
  · exact fin (fun h => by have := h.1.2.1; omega)
  split
  · exact fin (fun h => by have := h.1.2.2.1; omega)
  rw [if_pos (by omega)]
  split
  · rename_i h6; exact fin (fun h => by have := h.1.2.2.2; unfold txt at this; omega)
  rename_i h6
  have ok : inS l c := ⟨by omega, by omega, by omega, by unfold txt; omega⟩
  by_cases h7 : c.Name = []
  · rw [decide_eq_true h7]; exact fin (fun h => h.2 h7)
  · rw [decide_eq_false h7]
    simp only [preref7_Begins_j1, Bool.false_eq_true, if_false]
    unfold txt at hf
    rw [if_pos (by omega), if_pos (by omega), rsplice_eq _ (by rw [List.length_drop]; omega)]
    simp only [Option.bind_some, spS, eqS, decide_eq_true_eq, leI]
    have hrest : List.drop c.At.toNat (l.getD c.File.toNat default).Text = restS l c := rfl
    rw [hrest]
    by_cases h8 : (c.Name.length : Int) ≤ ((spText (restS l c)).length : Int)
    · rw [if_pos h8, if_pos (by omega)]
      have hfit : fitS l c := ⟨ok, h7, by omega⟩
      simp [preref7_Begins_j2, named, hfit]
    · rw [if_neg h8]
      have : ¬ named l c := fun h => by have := h.1.2.2; omega
      simp [preref7_Begins_j2, this]

def callT (l : List Source) (c : Call) : Token := ⟨0, [], false, false, c.File, c.At, endV l c, 0, [], [], 0⟩
theorem span_call (l : List Source) (c : Call) : ((spanV l (callT l c)).2 = true ∧ (spanV l (callT l c)).1 = c.Name) ↔ named l c := by
  by_cases hf : fitS l c
  · have hp := spPos_length (restS l c)
    have h0 : 0 < c.Name.length := List.length_pos_iff.2 hf.2.1
    have hat := spPos_at (restS l c) (c.Name.length - 1) (by have := hf.2.2; omega)
    have hcut := spText_cut (restS l c) c.Name.length h0 hf.2.2
    have hrl : (restS l c).length = (txt l c.File).length - c.At.toNat := by unfold restS; simp
    obtain ⟨⟨i1, i2, i3, i4⟩, _, _⟩ := id hf
    generalize hpp : (spPos (restS l c)).getD (c.Name.length - 1) 0 = p at hat hcut
    have he : endV l c = c.At + (p : Int) + 1 := by unfold endV; rw [if_pos hf, hpp]
    have ok : okS l (callT l c) := ⟨rfl, i1, i2, i3, by show c.At ≤ endV l c; omega, by show endV l c ≤ _; rw [he]; show _ ≤ ((txt l c.File).length : Int); omega⟩
    have hc : cutS l (callT l c) = (restS l c).take (p + 1) := by
      show ((txt l c.File).drop c.At.toNat).take ((endV l c).toNat - c.At.toNat) = _
      rw [he]
      unfold restS
      congr 1
      omega
    unfold spanV
    rw [if_pos ok, hc, hcut]
    simp [named, hf]
  · have he : endV l c = -1 := by unfold endV; rw [if_neg hf]
    have ok : ¬ okS l (callT l c) := fun h => by
      have h1 : 0 ≤ c.At := h.2.2.2.1
      have h2 : c.At ≤ endV l c := h.2.2.2.2.1
      omega
    unfold spanV
    rw [if_neg ok]
    simp [named, hf]

def callOk (l : List Source) (c : Call) : Bool := decide (c.File = -1 ∨ named l c)
def lastV (l : List Source) (t : Token) : Bool := decide (t.Made ≠ 0) || ((spanV l t).2 && decide ((spanV l t).1 = t.Text))
def rightV (l : List Source) (t : Token) : Bool := t.Calls.all (callOk l) && lastV l t

theorem all_getD {α : Type} [Inhabited α] {L : List α} {p : α → Bool} (h : ∀ k, k < L.length → p (L.getD k default) = true) : L.all p = true := by
  rw [List.all_eq_true]
  intro x hx
  obtain ⟨k, hk, rfl⟩ := List.mem_iff_getElem.1 hx
  have := h k hk
  rwa [List.getD_eq_getElem?_getD, List.getElem?_eq_getElem hk, Option.getD_some] at this
theorem not_all {α : Type} [Inhabited α] {L : List α} {p : α → Bool} (k : Nat) (hk : k < L.length) (h : p (L.getD k default) = false) : L.all p = false := by
  rw [List.all_eq_false]
  refine ⟨L.getD k default, ?_, by rw [h]; simp⟩
  rw [List.getD_eq_getElem?_getD, List.getElem?_eq_getElem hk]; simp

def invR (l : List Source) (t : Token) (s : Int × Int) : Prop := ∃ i : Nat, s = ((t.Calls.length : Int), (i : Int)) ∧ i ≤ t.Calls.length ∧ ∀ k, k < i → callOk l (t.Calls.getD k default) = true

theorem oright_eq (l : List Source) (t : Token) (hl : ∀ f, (txt l f).length ≤ 1099511627776) (hc : t.Calls.length ≤ 1099511627776) (hn : ∀ c ∈ t.Calls, c.Name.length ≤ 1099511627776) : origin_Right l t = some (rightV l t) := by
  unfold origin_Right
  obtain ⟨r, h1, h2⟩ := loopO_go (b := origin_Right_b1 l t) (invR l t) (fun s => t.Calls.length - s.2.toNat) (fun r => r = rightV l t) (by
    rintro _ ⟨i, rfl, hi, hb⟩
    simp only [origin_Right_b1, origin_Right_j2, origin_Right_j3, origin_Right_j4, ltI, eqI, decide_eq_true_eq, Int.toNat_natCast]
    by_cases hil : i < t.Calls.length
    · rw [if_pos (by omega), if_pos (by omega), wr ((i : Int) + 1) (by omega)]
      have hm : t.Calls.getD i default ∈ t.Calls := by rw [List.getD_eq_getElem?_getD, List.getElem?_eq_getElem hil]; simp
      have hnm := hn _ hm
      have next : callOk l (t.Calls.getD i default) = true → ∃ o, (some (.inl ((t.Calls.length : Int), (i : Int) + 1)) : Option ((Int × Int) ⊕ Bool)) = some o ∧ Nxt (invR l t) (fun s => t.Calls.length - s.2.toNat) (fun r => r = rightV l t) (t.Calls.length - i) o := fun h =>
        ⟨_, rfl, ⟨i + 1, by simp, by omega, fun k hk => by
          by_cases hki : k = i
          · subst hki; exact h
          · exact hb k (by omega)⟩, by simp; omega⟩
      have stop : callOk l (t.Calls.getD i default) = false → ∃ o, (inrO (some false) : Option ((Int × Int) ⊕ Bool)) = some o ∧ Nxt (invR l t) (fun s => t.Calls.length - s.2.toNat) (fun r => r = rightV l t) (t.Calls.length - i) o := fun h =>
        ⟨_, rfl, by show false = rightV l t; unfold rightV; rw [not_all i hil h]; rfl⟩
      obtain ⟨c, hcd⟩ : ∃ c, t.Calls.getD i default = c := ⟨_, rfl⟩
      simp only [hcd] at hm hnm next stop ⊢
      by_cases hm1 : c.File = -1
      · rw [if_pos hm1]
        exact next (by simp [callOk, hm1])
      · rw [if_neg hm1, end_eq l c hl hnm, Option.bind_some]
        rw [show (⟨0, [], false, false, c.File, c.At, endV l c, 0, [], [], 0⟩ : Token) = callT l c from rfl, ospan_eq l _ hl, Option.bind_some]
        have hs := span_call l c
        by_cases hk : named l c
        · obtain ⟨e1, e2⟩ := hs.2 hk
          rw [e1, e2]
          simp only [Bool.not_true, Bool.false_eq_true, if_false, eqS, decide_true]
          exact next (by simp [callOk, hk])
        · have hno := stop (by simp [callOk, hk, hm1])
          by_cases e1 : (spanV l (callT l c)).2 = true
          · have e2 : ¬ (spanV l (callT l c)).1 = c.Name := fun h => hk (hs.1 ⟨e1, h⟩)
            rw [e1]
            simp only [Bool.not_true, Bool.false_eq_true, if_false, eqS, e2, decide_false, Bool.not_false, if_true]
            exact hno
          · have e1 : (spanV l (callT l c)).2 = false := by simpa using e1
            rw [e1]
            simp only [Bool.not_false, if_true]
            exact hno
    · have : i = t.Calls.length := by omega
      subst this
      rw [if_neg (by omega), ospan_eq l t hl, Option.bind_some]
      have hall := all_getD hb
      refine ⟨.inr (rightV l t), ?_, rfl⟩
      unfold rightV lastV
      rw [hall]
      by_cases hm : t.Made = 0
      · cases hsv : (spanV l t).2 <;> simp [hm, inrO, eqS]
      · simp [hm, inrO]) ((t.Calls.length : Int), 0) ⟨0, by simp, by omega, fun k hk => by omega⟩
  rw [h1, h2]

theorem rright_eq (l : List Source) (t : Token) (hl : ∀ f, (txt l f).length ≤ 1099511627776) (hc : t.Calls.length ≤ 1099511627776) : preref7_Right l t = some (rightV l t) := by
  unfold preref7_Right
  obtain ⟨r, h1, h2⟩ := loopO_go (b := preref7_Right_b1 l t) (invR l t) (fun s => t.Calls.length - s.2.toNat) (fun r => r = rightV l t) (by
    rintro _ ⟨i, rfl, hi, hb⟩
    simp only [preref7_Right_b1, preref7_Right_j2, preref7_Right_j3, ltI, eqI, decide_eq_true_eq, Int.toNat_natCast]
    by_cases hil : i < t.Calls.length
    · rw [if_pos (by omega), if_pos (by omega), wr ((i : Int) + 1) (by omega)]
      have next : callOk l (t.Calls.getD i default) = true → ∃ o, (some (.inl ((t.Calls.length : Int), (i : Int) + 1)) : Option ((Int × Int) ⊕ Bool)) = some o ∧ Nxt (invR l t) (fun s => t.Calls.length - s.2.toNat) (fun r => r = rightV l t) (t.Calls.length - i) o := fun h =>
        ⟨_, rfl, ⟨i + 1, by simp, by omega, fun k hk => by
          by_cases hki : k = i
          · subst hki; exact h
          · exact hb k (by omega)⟩, by simp; omega⟩
      have stop : callOk l (t.Calls.getD i default) = false → ∃ o, (inrO (some false) : Option ((Int × Int) ⊕ Bool)) = some o ∧ Nxt (invR l t) (fun s => t.Calls.length - s.2.toNat) (fun r => r = rightV l t) (t.Calls.length - i) o := fun h =>
        ⟨_, rfl, by show false = rightV l t; unfold rightV; rw [not_all i hil h]; rfl⟩
      obtain ⟨c, hcd⟩ : ∃ c, t.Calls.getD i default = c := ⟨_, rfl⟩
      simp only [hcd] at next stop ⊢
      by_cases hm1 : c.File = -1
      · simp only [hm1, decide_true, Bool.not_true, Bool.false_eq_true, if_false]
        exact next (by simp [callOk, hm1])
      · simp only [hm1, decide_false, Bool.not_false, if_true]
        rw [begins_eq l c hl, Option.bind_some]
        by_cases hk : named l c
        · simp only [hk, decide_true, Bool.not_true, Bool.false_eq_true, if_false]
          exact next (by simp [callOk, hk])
        · simp only [hk, decide_false, Bool.not_false, if_true]
          exact stop (by simp [callOk, hk, hm1])
    · have : i = t.Calls.length := by omega
      subst this
      rw [if_neg (by omega), rspan_eq l t hl, Option.bind_some]
      have hall := all_getD hb
      refine ⟨.inr (rightV l t), ?_, rfl⟩
      unfold rightV lastV
      rw [hall]
      by_cases hm : t.Made = 0
      · cases hsv : (spanV l t).2 <;> simp [hm, inrO, eqS]
      · simp [hm, inrO]) ((t.Calls.length : Int), 0) ⟨0, by simp, by omega, fun k hk => by omega⟩
  rw [h1, h2]

end Go.Proofs.Ytgkacglpjmndbaa
