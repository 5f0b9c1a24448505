/- The macros of texts. Plain. -/
import Derived.Test.YtjgimofnepechaaGreatDoorZav
set_option linter.unusedVariables false
set_option linter.unusedSimpArgs false
namespace Go.Proofs.YtjgimofnepechaaGreatDoor
open Go.RowKit
theorem rtokens_all (file : Int) (text : List UInt8) : Vk file text = some (toksV file text) := by
 by_cases h : text.length ≤ 1099511627776
 ·exact rtokens_eq file text h
 ·unfold Vk toksV
  simp only [ltI, decide_eq_true_eq]
  rw [if_pos (by omega), if_pos (by omega)]
theorem toks6 (s : List UInt8) : Xf s = some (toksV 0 s).1 := by
 unfold Xf
 rw [rtokens_all]; rfl
def defStep (M : List Macro) (d : List UInt8) : List Macro :=
 if (parseV (toksV 0 d).1).2.Err = 0 then if (defineV M (parseV (toksV 0 d).1).1).2 = 0 then (defineV M (parseV (toksV 0 d).1).1).1 else M else M
def goodL (M : List Macro) : Prop := M.length ≤ 30 ∧ ∀ m ∈ M, goodM m
theorem defStep_good {M : List Macro} (h : goodL M) (d : List UInt8) : goodL (defStep M d) := by
 unfold defStep
 split
 ·split
  ·rename_i h2
   have := defineV_len M (parseV (toksV 0 d).1).1 h.1 h2
   refine ⟨this.1, fun m hm => ?_⟩
   rcases this.2 m hm with h3 | rfl
   ·exact h.2 m h3
   ·exact parseV_good _
  ·exact h
 ·exact h
theorem JfA (defs : List (List UInt8)) (hn : defs.length ≤ 9223372036854775807) : ∃ M, V9 defs = some M ∧ goodL M := by
 unfold V9
 have e := each_loop0 (b := VF defs) defs (fun i (M : List Macro) => (M, (defs.length : Int), (i : Int)))
  (fun M d => (.inl (defStep M d) : List Macro ⊕ List Macro)) (fun M => M) (fun _ M => goodL M) ?_ ?_ ?_ [] ⟨by simp, by simp⟩
 ·refine ⟨_, e, ?_⟩
  have : ∀ (l : List (List UInt8)) (M : List Macro), goodL M → goodL (eachR (R := List Macro) (fun M d => .inl (defStep M d)) (fun M => M) M l) := by
   intro l
   induction l with
   | nil => intro M h; exact h
   | cons d l ih => intro M h; rw [eachR]; exact ih _ (defStep_good h d)
  exact this _ _ ⟨by simp, by simp⟩
 ·rintro i M h hi
  obtain ⟨h1, h2, _⟩ := toksV_small 0 (defs.getD i default)
  have hp' := rparse_eq (toksV 0 (defs.getD i default)).1 (by omega) (toks_nameOk _ _)
  have hdef' := rdefine_eq M h.1 (fun x hx => (h.2 x hx).small) (parseV (toksV 0 (defs.getD i default)).1).1
  simp only [VF, ltI, decide_eq_true_eq, Int.toNat_natCast, toks6, hp', Option.bind_some, nextS]
  rw [if_pos (by omega), if_pos (by omega)]
  have hw : IntKind.i64.wrap ((i : Int) + 1) = ((i + 1 : Nat) : Int) := by rw [wr _ (by omega)]; omega
  simp only [eqI, decide_eq_true_eq, defStep, VH, hw]
  by_cases hz : (parseV (toksV 0 (defs.getD i default)).1).2.Err = 0
  ·rw [if_pos hz, if_pos hz, hdef']
   simp only [Option.bind_some]
   split <;> rfl
  ·rw [if_neg hz, if_neg hz]
 ·intro i s s' h hi hs
  simp only [Sum.inl.injEq] at hs
  subst hs
  exact defStep_good h _
 ·intro s h
  simp only [VF, ltI, decide_eq_true_eq]
  rw [if_neg (by omega)]; rfl
end Go.Proofs.YtjgimofnepechaaGreatDoor
