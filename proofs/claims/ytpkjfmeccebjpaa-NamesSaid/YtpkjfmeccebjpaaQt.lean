/- Facts on types, and which functions can be called. -/
import Derived.Test.YtpkjfmeccebjpaaMx
import Derived.Test.YtpkjfmeccebjpaaRows
namespace Go.Proofs.Ytpkjfmeccebjpaa
open Go.RowKit
theorem tKnown_3 : tKnown Try.prog 3 = true := by kernel_rfl
theorem tSize_3 : tSize Try.prog 3 = 1 := by kernel_rfl
theorem tAgg_3 : tAgg Try.prog 3 = false := by kernel_rfl
theorem tZok_3 : tZok Try.prog 3 = true := by kernel_rfl
theorem tZ_3 : tZ Try.prog 3 = [.int .i64 0] := by kernel_rfl
theorem tCS_3 : tCS Try.prog 3 = [0] := by kernel_rfl
theorem tBytes_3 : tBytes Try.prog 3 = 8 := by kernel_rfl
theorem tKnown_22 : tKnown Try.prog 22 = true := by kernel_rfl
theorem tSize_22 : tSize Try.prog 22 = 1 := by kernel_rfl
theorem tAgg_22 : tAgg Try.prog 22 = false := by kernel_rfl
theorem tZok_22 : tZok Try.prog 22 = true := by kernel_rfl
theorem tZ_22 : tZ Try.prog 22 = [.int .i64 0] := by kernel_rfl
theorem tCS_22 : tCS Try.prog 22 = [0] := by kernel_rfl
theorem tBytes_22 : tBytes Try.prog 22 = 8 := by kernel_rfl
theorem tSlice_23 : tSlice Try.prog 23 = true := by kernel_rfl
theorem tElem_23 : tElem Try.prog 23 = 22 := by kernel_rfl
theorem tSlice_24 : tSlice Try.prog 24 = true := by kernel_rfl
theorem tElem_24 : tElem Try.prog 24 = 3 := by kernel_rfl
theorem call_3 : Callable Try.prog 3 := callable_of Try.func3 (by kernel_rfl) (by kernel_rfl)
theorem mixed : Try.prog.follows .mixedOrders = true := Try.checked.mixed
theorem upd_at {α : Type} (σ : Nat → α) (d : Nat) (x : α) (i : Nat) : upd σ d x i = if i = d then x else σ i := rfl
theorem take_drop_all {α : Type} (l : List α) (i : Nat) : (l.drop i).take (l.length - i) = l.drop i := List.take_of_length_le (by simp)
theorem inrO_fin {S R : Type} {b : S → Option (S ⊕ R)} {n : Nat} {x : Option R} {o : S ⊕ R} {out : R} (h : inrO x = some o) (hF : Fin' b n o out) : x = some out := by
  obtain ⟨r, h1, rfl⟩ := inrO_some h
  cases hF
  exact h1
theorem inl_fin {S R : Type} {b : S → Option (S ⊕ R)} {n : Nat} {s : S} {o : S ⊕ R} {out : R} (h : (some (.inl s) : Option (S ⊕ R)) = some o) (hF : Fin' b n o out) : Fin' b n (.inl s) out := by
  obtain rfl := Option.some.inj h
  exact hF
end Go.Proofs.Ytpkjfmeccebjpaa
