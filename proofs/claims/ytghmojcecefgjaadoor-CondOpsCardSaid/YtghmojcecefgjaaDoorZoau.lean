/- Maps that a function makes for itself: what is laid in, what is found. -/
import Derived.Test.YtghmojcecefgjaaDoorZoao
import Derived.Test.YtghmojcecefgjaaDoorZoar
import Derived.Maps.OwnOps
import Derived.OpenShut
set_option linter.unusedVariables false
set_option linter.unusedSimpArgs false
namespace Go.Proofs.YtghmojcecefgjaaDoor
open Go.RowKit Go.Maps
theorem oneV_wf (p : Bool) : (Lit.int .i64 (oneV p)).wf = true := by cases p <;> decide
theorem key9 : Keyed Tryd.prog 9 := string_keyed Tryd.underlying9
theorem keyOf_str {s : ByteArray} (h : s.size ≤ maxLen) : keyOf Tryd.prog 9 (.string s) = some (.string s.data.toList) := by
  simp [keyOf, Tryd.underlying9, mapKey, h]
theorem upon_insert {P : Program} {o : Oper} {a : Act} {x : Act → World → Prop} {Q : Exit → Act → World → Prop} {f : Unit → World → Result Next} {W : World} (t k e : TypeId) (K : Keyed P k) (ht : P.underlying t = some (.map k e))
    {b n : Nat} {D : DataW Unit} (hown : W.ownsMap P k (plainElem P e) b n D) (hn : n < maxLen) {key val : Value} {kl : Lit} (hkey : keyOf P k key = some kl) {d : DataW Unit} {ps : List MemPlace} (hval : plainElem P e val = some (d, ps))
    (h : ∀ w', w'.ownsMap P k (plainElem P e) b (n + 1) (D.put kl d) → W.grownBy w' (some b) → Oper.upon P o a x Q ((Result.ok () w').andThen f)) :
    Oper.upon P o a x Q (((Instr.mapUpdate t (.map (some b)) key val).run P W).andThen f) := by
  obtain ⟨w', hrun, h1, h2⟩ := hown.update K ht hn hkey hval
  rw [hrun]
  exact h w' h1 h2
def putAll : List (List UInt8 × Int) → DataW Unit
  | [] => .map []
  | (k, v) :: r => (putAll r).put (.string k) (.lit (.int .i64 v))
theorem putAll_map : ∀ L, IsMap (putAll L)
  | [] => Maps.isMap_empty
  | (k, v) :: r => (putAll_map r).put _ _
theorem putAll_has (s : List UInt8) (c : Int) (zd : DataW Unit) : ∀ L, Maps.has (putAll L) (.string s) = true → (putAll L).atKey (.string s) zd = .lit (.int .i64 c) → (s, c) ∈ L
  | [], h, _ => by cases h
  | (k, v) :: r, h, g => by
    by_cases e : s = k
    · subst e
      have : ((putAll r).put (.string s) (.lit (.int .i64 v))).atKey (.string s) zd = .lit (.int .i64 v) := Maps.atKey_put_same (k := .string s) (putAll_map r) True.intro _ _
      have g : ((putAll r).put (.string s) (.lit (.int .i64 v))).atKey (.string s) zd = .lit (.int .i64 c) := g
      rw [this] at g
      cases g
      exact List.mem_cons_self ..
    · have hne : Lit.string s ≠ Lit.string k := fun q => e (by cases q; rfl)
      have h : Maps.has ((putAll r).put (.string k) (.lit (.int .i64 v))) (.string s) = true := h
      have g : ((putAll r).put (.string k) (.lit (.int .i64 v))).atKey (.string s) zd = .lit (.int .i64 c) := g
      rw [Maps.has_put_other hne] at h
      rw [Maps.atKey_put_other hne] at g
      exact List.mem_cons_of_mem _ (putAll_has s c zd r h g)
theorem beq_dec (a b : Int) : (a == b) = decide (a = b) := by by_cases h : a = b <;> simp [h]
theorem keyOf_str_inv {key : Value} {kl : Lit} (h : keyOf Tryd.prog 9 key = some kl) : ∃ s : ByteArray, key = .string s ∧ kl = .string s.data.toList := by
  cases key <;> simp [keyOf, Tryd.underlying9, mapKey] at h
  exact ⟨_, rfl, h.2.symm⟩
end Go.Proofs.YtghmojcecefgjaaDoor
