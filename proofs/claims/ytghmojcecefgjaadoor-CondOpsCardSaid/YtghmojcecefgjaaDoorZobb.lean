/- CondParens. Plain. -/
import Derived.Test.YtghmojcecefgjaaDoorZoba
set_option linter.unusedVariables false
set_option linter.unusedSimpArgs false
namespace Go.Proofs.YtghmojcecefgjaaDoor
open Go.RowKit
theorem Is_det {d z : Nat} {o : OG} : ∀ {r r' : Res}, Is d z o r → Is d z o r' → r = r' := by
  intro r r' h g
  cases r with
  | ok v j =>
    obtain rfl := h
    cases r' with
    | ok v' j' =>
      have g : some (GR.ok (v, (j : Int), (d : Int), (z : Int))) = some (GR.ok (v', (j' : Int), (d : Int), (z : Int))) := g
      simp only [Option.some.injEq, GR.ok.injEq, Prod.mk.injEq] at g
      obtain ⟨rfl, g, _⟩ := g
      have : j = j' := by omega
      rw [this]
    | er e f p => obtain ⟨x, g⟩ := g; cases g
  | er e f p =>
    obtain ⟨x, rfl⟩ := h
    cases r' with
    | ok v' j' =>
      have g : some (GR.er (e, f, p, x)) = some (GR.ok (v', (j' : Int), (d : Int), (z : Int))) := g
      cases g
    | er e' f' p' => obtain ⟨x', g⟩ := g; cases g; rfl
theorem pV_fuel {l : List Token} (hl : l.length < 1099511627776) (hc : clean l) (m m' : Nat) (h : 3 * l.length + 2 < m) (h' : 3 * l.length + 2 < m') : (pV l m).1 0 0 0 = (pV l m').1 0 0 0 := by
  have hF := bigF_le
  exact Is_det ((rec_is hl hc bigF m 0 0 0 (Nat.zero_le _) (by omega) (Nat.le_refl _)).1 (by omega) (by omega)).1 ((rec_is hl hc bigF m' 0 0 0 (Nat.zero_le _) (by omega) (Nat.le_refl _)).1 (by omega) (by omega)).1
theorem kw_get (l : List Token) (i : Nat) (k : Int) (t : List UInt8) (h : (l.map kwT)[i]? = some (k, t)) : i < l.length ∧ (l.getD i default).Kind = k ∧ (l.getD i default).Text = t := by
  rw [List.getElem?_map] at h
  cases hq : l[i]? with
  | none => rw [hq] at h; cases h
  | some x =>
    rw [hq] at h
    have h : kwT x = (k, t) := by simpa using h
    have hlt : i < l.length := by
      rcases Nat.lt_or_ge i l.length with g | g
      · exact g
      · rw [List.getElem?_eq_none g] at hq; cases hq
    refine ⟨hlt, ?_⟩
    rw [List.getD_eq_getElem?_getD, hq]
    exact ⟨congrArg Prod.fst h, congrArg Prod.snd h⟩
theorem sign_of (l : List Token) (i : Nat) (s : List UInt8) (h : (l.map kwT)[i]? = some (5, s)) : signAt l i = s ∧ i < l.length ∧ (l.getD i default).Kind = 5 := by
  obtain ⟨h1, h2, h3⟩ := kw_get l i 5 s h
  refine ⟨?_, h1, h2⟩
  unfold signAt
  rw [if_pos ⟨h1, h2⟩, h3]
theorem ato_at {cho ato : Nat → Nat → Nat → Res} {l : List Token} {i d z : Nat} (s : List UInt8) (h : (l.map kwT)[i]? = some (5, s)) (hd : d < 30) :
    atoV cho ato l i d z = (if s = [40] then (cho (i + 1) (d + 1) z).then fun v j => if signAt l j = [41] then .ok v (j + 1) else erAt l j 2
      else if s = [45] then (ato (i + 1) (d + 1) z).then fun v j => .ok (IntKind.i64.wrap (0 - v)) j
      else if s = [43] then (ato (i + 1) (d + 1) z).then fun v j => .ok v j
      else if s = [126] then (ato (i + 1) (d + 1) z).then fun v j => .ok (IntKind.i64.wrap ((BitVec.ofInt IntKind.i64.bits (-1)) ^^^ (BitVec.ofInt IntKind.i64.bits v)).toNat) j
      else if s = [33] then (ato (i + 1) (d + 1) z).then fun v j => .ok (oneV (decide (v = 0))) j
      else erAt l i 2) := by
  obtain ⟨h1, h2, h3⟩ := sign_of l i s h
  unfold atoV
  rw [if_neg (show ¬ d = 30 by omega), if_neg (show ¬ i = l.length by omega), h3, if_neg (by decide), if_neg (by decide), if_neg (by decide), h1]
theorem evalV_of {l : List Token} (hl : l.length < 1099511627776) (hc : clean l) (m : Nat) (hm : 3 * l.length + 2 < m) : evalV l = finE l ((pV l m).1 0 0 0) := by
  unfold evalV
  rw [pV_fuel hl hc (3 * l.length + 4) m (by omega) hm]
def Ne : Res → Prop
  | .ok _ _ => True
  | .er e _ _ => e ≠ 0
end Go.Proofs.YtghmojcecefgjaaDoor
