/- OriginTells, where what it reads is of a bulk. Plain. -/
import Derived.Test.YtgkacglpjmndbaaRg
import Derived.Test.YtgkacglpjmndbaaSt
namespace Go.Proofs.Ytgkacglpjmndbaa
open Go.RowKit

theorem bkL_mem {α : Type} {b : α → Nat} : ∀ {l : List α} {a : α}, a ∈ l → b a + 1 ≤ bkL b l
  | x :: l, a, h => by
    rcases List.mem_cons.1 h with rfl | h
    · simp only [bkL, List.map_cons, List.sum_cons]; omega
    · have := bkL_mem (b := b) h
      simp only [bkL, List.map_cons, List.sum_cons] at this ⊢; omega
theorem bkL_len {α : Type} {b : α → Nat} (hb : ∀ a, 1 ≤ b a) : ∀ l : List α, l.length + 1 ≤ bkL b l
  | [] => by simp [bkL]
  | x :: l => by
    have h1 := bkL_len hb l
    have h2 := hb x
    simp only [bkL, List.map_cons, List.sum_cons, List.length_cons] at h1 ⊢; omega

theorem txt_le (l : List Source) (f : Int) (h : bkL bk_Source l ≤ 1048576) : (txt l f).length ≤ 1048576 := by
  unfold txt
  rw [List.getD_eq_getElem?_getD]
  rcases Nat.lt_or_ge f.toNat l.length with hf | hf
  · rw [List.getElem?_eq_getElem hf, Option.getD_some]
    have := bkL_mem (b := bk_Source) (List.getElem_mem hf)
    have e : (l[f.toNat]).Text.length + 1 ≤ bk_Source l[f.toNat] := by unfold bk_Source bkS; omega
    omega
  · rw [List.getElem?_eq_none hf]; exact Nat.zero_le _

theorem origin_row (l : List Source) (ts : List Token) (f a : Int) (h1 : bkL bk_Source l ≤ 1048576) (h2 : bkL bk_Token ts ≤ 1048576) : prelaw8_OriginTells l ts f a = some true := by
  refine origin_tells l ts f a (fun f => ?_) ?_ fun t ht => ?_
  · have := txt_le l f h1; omega
  · have := bkL_len (b := bk_Token) (fun t => by unfold bk_Token; omega) ts
    omega
  · have h3 := bkL_mem (b := bk_Token) ht
    have h4 : bkL bk_Call t.Calls ≤ bk_Token t := by unfold bk_Token; omega
    have h5 := bkL_len (b := bk_Call) (fun t => by unfold bk_Call; omega) t.Calls
    refine ⟨by omega, fun c hc => ?_⟩
    have h6 := bkL_mem (b := bk_Call) hc
    have e : c.Name.length + 1 ≤ bk_Call c := by unfold bk_Call bkS; omega
    omega
end Go.Proofs.Ytgkacglpjmndbaa
