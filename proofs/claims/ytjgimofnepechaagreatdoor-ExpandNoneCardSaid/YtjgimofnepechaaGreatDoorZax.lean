/- ExpandNone: what is no macro comes out as it is. Plain. -/
import Derived.Test.YtjgimofnepechaaGreatDoorZau
import Derived.Test.YtjgimofnepechaaGreatDoorZaw
set_option linter.unusedVariables false
set_option linter.unusedSimpArgs false
namespace Go.Proofs.YtjgimofnepechaaGreatDoor
open Go.RowKit
def lineT : List UInt8 := [95, 95, 76, 73, 78, 69, 95, 95]
def fileT : List UInt8 := [95, 95, 70, 73, 76, 69, 95, 95]
def popT (t : Token) (n : Nat) : Int × (List UInt8) × Bool × Bool × Int × Int × Int × Int × (List (List UInt8)) × (List Call) × Int × Nat :=
 (t.Kind, t.Text, t.Space, t.First, t.File, t.At, t.End, t.Line, t.Hide, t.Calls, t.Made, n)
theorem pop_eq (l : List Token) (n : Nat) (h : n < l.length) (hn : n ≤ 4611686018427387904) : JB (n + 1) l = some (popT (l.getD n default) n) := by
 unfold JB
 have e : IntKind.i64.wrap (((n + 1 : Nat) : Int) - 1) = (n : Int) := by rw [wr _ (by omega)]; omega
 simp only [e, Int.toNat_natCast]
 rw [if_pos (by omega), if_pos h, if_pos (by omega)]; rfl
theorem push_loop (l : List Token) : ∀ (k : Nat) (s : List Token), k ≤ l.length → (s.length + k) * 120 ≤ 140737488355328 →
  loopO (KG l) ((k : Int) - 1, s) = some (s ++ (l.take k).reverse)
 | 0, s, _, _ => by
  rw [loopO_eq]
  simp only [KG, leI, decide_eq_true_eq]
  rw [if_neg (by omega)]
  simp [inrO]
 | k + 1, s, h, hs => by
  have hk : (((k + 1 : Nat) : Int) - 1) = (k : Int) := by omega
  rw [loopO_eq, hk]
  simp only [KG, leI, decide_eq_true_eq, Int.toNat_natCast, List.length_singleton]
  rw [if_pos (by omega), if_pos (by omega), if_pos (by omega), wr _ (by omega)]
  simp only
  rw [push_loop l k (s ++ [l.getD k default]) (by omega) (by simp; omega), List.take_succ_eq_append_getElem (by omega), List.reverse_append]
  simp [List.getD_eq_getElem?_getD, List.getElem?_eq_getElem (show k < l.length by omega)]
theorem push_eq (l s : List Token) (h : (s.length + l.length) * 120 ≤ 140737488355328) : KQ l s = some (s ++ l.reverse) := by
 unfold KQ
 rw [wr _ (by omega), push_loop l l.length s (Nat.le_refl _) h, List.take_length]
theorem given_none (t : Token) (M : List Macro) (fs : List Source) (f m : Int) (h1 : t.Text ≠ lineT) (h2 : t.Text ≠ fileT) : Ko t M fs f m = some (t.Kind, t.Text, t.Made, false) := by
 unfold Ko
 rw [if_neg (by simp only [eqS, decide_eq_true_eq]; exact h1), if_neg (by simp only [eqS, decide_eq_true_eq]; exact h2)]
theorem out_none (q2 : Macro → Token → (List Macro) → (List Source) → Int → Int → Nat → (List Token) → Option (GR (Int × Int × Int × Int × Nat) (Int × Nat × (List Token)))) (M : List Macro) (fs : List Source) (most : Int) (out st : List Token) (f : Int) (t : Token) (n : Nat) (h : out.length + 1 ≤ 1099511627776) (hm : (out.length : Int) + 1 ≤ most) :
  Ju q2 M fs most out st f (-1, n, t.Kind, t.Text, t.Space, t.First, t.File, t.At, t.End, t.Line, t.Hide, t.Calls, t.Made) = some (.inl (f, n, out ++ [t], st)) := by
 simp only [Ju, Jw, ltI, decide_eq_true_eq, List.length_singleton, if_true]
 rw [if_pos (by decide), if_pos (by omega), if_neg (by omega)]
theorem all_loop (q2 : Macro → Token → (List Macro) → (List Source) → Int → Int → Nat → (List Token) → Option (GR (Int × Int × Int × Int × Nat) (Int × Nat × (List Token)))) (M : List Macro) (hM : M.length ≤ 30) (l : List Token) (hl : l.length ≤ 1500) (fs : List Source)
  (hn : ∀ t ∈ l, findV M t.Text = -1 ∧ t.Text ≠ lineT ∧ t.Text ≠ fileT ∧ t.Hide = []) : ∀ n : Nat, n ≤ l.length →
  loopO (Ke q2 M fs 1500) (4000 - ((l.length - n : Nat) : Int), n, l.take (l.length - n), l.reverse) = some (.ok (4000 - (l.length : Int), l))
 | 0, _ => by
  rw [loopO_eq]
  simp only [Ke, ltI, decide_eq_true_eq]
  rw [if_neg (by omega)]
  simp [inrO]
 | n + 1, h => by
  have hg : l.reverse.getD n default = l.getD (l.length - (n + 1)) default := by
   rw [List.getD_eq_getElem?_getD, List.getD_eq_getElem?_getD, List.getElem?_reverse (by omega)]
   congr 2; omega
  obtain ⟨t, ht⟩ : ∃ t, t = l.getD (l.length - (n + 1)) default := ⟨_, rfl⟩
  have hmem : t ∈ l := ht ▸ getD_mem l _ _ (by omega)
  obtain ⟨h1, h2, h3, h4⟩ := hn t hmem
  have hfind : Jal M t.Text = some (-1) := by rw [mfind_eq M (by omega), h1]
  have hcont : Jd t.Hide t.Text = some (decide (t.Text ∈ t.Hide)) := contains_eq _ (by rw [h4]; simp) _
  have hlen : (l.take (l.length - (n + 1))).length = l.length - (n + 1) := by simp
  have hout : Ju q2 M fs 1500 (l.take (l.length - (n + 1))) l.reverse (4000 - ((l.length - n : Nat) : Int)) (-1, n, t.Kind, t.Text, t.Space, t.First, t.File, t.At, t.End, t.Line, t.Hide, t.Calls, t.Made) = some (.inl (4000 - ((l.length - n : Nat) : Int), n, l.take (l.length - n), l.reverse)) := by
   rw [out_none _ _ _ _ _ _ _ t n (by omega) (by omega), show l.length - n = l.length - (n + 1) + 1 by omega, List.take_succ_eq_append_getElem (by omega), ht]
   simp [List.getD_eq_getElem?_getD, List.getElem?_eq_getElem (show l.length - (n + 1) < l.length by omega)]
  have hstep : IntKind.i64.wrap (4000 - ((l.length - (n + 1) : Nat) : Int) - 1) = 4000 - ((l.length - n : Nat) : Int) := by rw [wr _ (by omega)]; omega
  rw [loopO_eq]
  simp only [Ke, ltI, decide_eq_true_eq]
  rw [if_pos (by omega), pop_eq _ n (by simp; omega) (by omega), hg, ← ht]
  simp only [Option.bind_some, popT, Vr, eqI, decide_eq_true_eq]
  rw [if_neg (by omega), hstep]
  simp only [grB, given_none t M fs _ _ h2 h3, Option.bind_some, Bool.false_eq_true, if_false]
  have h5 : ∀ b : Bool, JS q2 M fs 1500 (l.take (l.length - (n + 1))) l.reverse (popT t n) (4000 - ((l.length - n : Nat) : Int)) (b, n) = some (.inl (4000 - ((l.length - n : Nat) : Int), n, l.take (l.length - n), l.reverse)) := by
   intro b
   cases b
   ·simp only [JS, popT, Bool.false_eq_true, if_false]; exact hout
   ·simp only [JS, popT, if_true, hfind, Option.bind_some]; exact hout
  have h6 : Kd q2 M fs 1500 (l.take (l.length - (n + 1))) l.reverse (popT t n) (4000 - ((l.length - n : Nat) : Int)) (t.Kind, t.Text, t.Made, false) (false, n, t.Space, t.First, t.File, t.At, t.End, t.Line, t.Hide, t.Calls) = some (.inl (4000 - ((l.length - n : Nat) : Int), n, l.take (l.length - n), l.reverse)) := by
   simp only [Kd, Bool.false_eq_true, if_false]
   split
   ·simp only [popT, hcont, Option.bind_some]; exact h5 _
   ·exact h5 _
  have := all_loop q2 M hM l hl fs hn n (by omega)
  simp only [popT] at h6
  rw [h6]
  simp only
  exact this
theorem all_none (M : List Macro) (hM : M.length ≤ 30) (l : List Token) (hl : l.length ≤ 1500) (fs : List Source)
  (hn : ∀ t ∈ l, findV M t.Text = -1 ∧ t.Text ≠ lineT ∧ t.Text ≠ fileT ∧ t.Hide = []) : K3 l M fs 4000 1500 = some (.ok (4000 - (l.length : Int), l)) := by
 obtain ⟨n, hb⟩ : ∃ n, bigF = n + 1 := ⟨bigF - 1, by have := bigF_le; omega⟩
 have := all_loop ((Ja n).2.1) M hM l hl fs hn l.length (Nat.le_refl _)
 unfold K3
 rw [hb]
 show (KQ l []).bind _ = _
 rw [push_eq l [] (by simp; omega)]
 simp only [Option.bind_some, List.nil_append, List.length_reverse]
 simpa using this
theorem All_none (M : List Macro) (hM : M.length ≤ 30) (l : List Token) (hl : l.length ≤ 1500)
  (hn : ∀ t ∈ l, findV M t.Text = -1 ∧ t.Text ≠ lineT ∧ t.Text ≠ fileT ∧ t.Hide = []) : Jae [] M l 4000 1500 = some (l, 4000 - (l.length : Int), 0, -1, 0) := by
 unfold Jae
 simp only [ltI, show decide ((4000 : Int) < 0) = false from rfl, show decide ((4000 : Int) < 4000) = false from rfl, show decide ((1500 : Int) < 0) = false from rfl, show decide ((1500 : Int) < 1500) = false from rfl, Bool.false_eq_true, if_false, Xx, all_none M hM l hl [] hn, grB, Ja2, JaU, Option.bind_some, eqI, decide_true, Bool.not_true]
theorem Jfk (defs : List (List UInt8)) (s : List UInt8) (hn : defs.length ≤ 9223372036854775807) (ha : Zf = some true) : Xl defs s = some true := by
 obtain ⟨M, hM, hg⟩ := JfA defs hn
 obtain ⟨h1, h2, _⟩ := toksV_small 0 s
 unfold Xl
 rw [ha]
 simp only [Option.bind_some, Bool.not_true, Bool.false_eq_true, if_false, hM, toks6]
 generalize (toksV 0 s).1 = l at h1 h2
 by_cases hl : l.length ≤ 1500
 ·rw [if_neg (by simp only [ltI, decide_eq_true_eq]; omega)]
  have e := each_loop0 (b := Kn M l) l (fun i (_ : Unit) => ((l.length : Int), (i : Int)))
   (fun _ t => (if findV M t.Text ≠ -1 ∨ t.Text = lineT ∨ t.Text = fileT then .inr true else .inl () : Unit ⊕ Bool)) (fun _ => true) (fun i _ => ∀ j, j < i → ¬ (findV M (l.getD j default).Text ≠ -1 ∨ (l.getD j default).Text = lineT ∨ (l.getD j default).Text = fileT)) ?_ ?_ ?_ () (fun j hj => absurd hj (by omega))
  ·rw [show ((0 : Nat) : Int) = 0 from rfl] at e
   rw [e]
   congr 1
   clear e h1 h2 hl
   induction l with
   | nil => rfl
   | cons t l ih =>
    rw [eachR]
    by_cases hp : findV M t.Text ≠ -1 ∨ t.Text = lineT ∨ t.Text = fileT
    ·rw [if_pos hp]
    ·rw [if_neg hp]; exact ih
  ·intro i _ _ hi
   simp only [Kn, ltI, decide_eq_true_eq, Int.toNat_natCast, rfind_eq M (by have := hg.1; omega), Option.bind_some, Kq, wN1 i (by omega), leI, inrO, Option.map_some, if_true]
   rw [if_pos (by omega), if_pos (by omega)]
   have hc := findV_cases M (l.getD i default).Text
   have hpos : (0 ≤ findV M (l.getD i default).Text) ↔ findV M (l.getD i default).Text ≠ -1 := by
    rcases hc with ⟨h, _⟩ | ⟨k, h, _⟩ <;> rw [h] <;> omega
   by_cases ha : findV M (l.getD i default).Text ≠ -1
   ·rw [if_pos (hpos.2 ha), if_pos (.inl ha)]; rfl
   ·rw [if_neg (fun h => ha (hpos.1 h))]
    by_cases hb : (l.getD i default).Text = lineT
    ·rw [if_pos (by simp only [eqS, decide_eq_true_eq]; exact hb), if_pos (.inr (.inl hb))]; rfl
    ·rw [if_neg (by simp only [eqS, decide_eq_true_eq]; exact hb)]
     by_cases hc : (l.getD i default).Text = fileT
     ·rw [if_pos (by simp only [eqS, decide_eq_true_eq]; exact hc), if_pos (.inr (.inr hc))]; rfl
     ·rw [if_neg (by simp only [eqS, decide_eq_true_eq]; exact hc), if_neg (by rintro (h | h | h) <;> contradiction)]; rfl
  ·intro i s s' hI hi hs j hj
   by_cases hp : findV M (l.getD i default).Text ≠ -1 ∨ (l.getD i default).Text = lineT ∨ (l.getD i default).Text = fileT
   ·rw [if_pos hp] at hs; cases hs
   ·by_cases hji : j = i
    ·subst hji; exact hp
    ·exact hI j (by omega)
  ·intro _ hI
   have hn : ∀ t ∈ l, findV M t.Text = -1 ∧ t.Text ≠ lineT ∧ t.Text ≠ fileT ∧ t.Hide = [] := by
    intro t ht
    obtain ⟨j, hj, rfl⟩ := List.getElem_of_mem ht
    have := hI j hj
    rw [List.getD_eq_getElem?_getD, List.getElem?_eq_getElem hj] at this
    simp only [Option.getD_some, not_or, Decidable.not_not] at this
    exact ⟨this.1, this.2.1, this.2.2, (h2 _ ht).2.1⟩
   simp only [Kn, ltI, decide_eq_true_eq]
   rw [if_neg (by omega), All_none M hg.1 l hl hn]
   simp only [Option.bind_some, eqI, decide_true, if_true]
   rw [sameTokens_refl l (by omega) (fun t ht => ⟨by rw [(h2 t ht).2.1]; simp, by rw [(h2 t ht).2.2]; simp⟩)]
   simp only [Option.bind_some, if_true, Kr, wr (4000 - (l.length : Int)) (by omega), decide_true, inrO, Option.map_some]
 ·rw [if_pos (by simp only [ltI, decide_eq_true_eq]; omega)]
theorem alive6 : Zf = some true := by decide +kernel
theorem Jff (defs : List (List UInt8)) (s : List UInt8) (hn : defs.length ≤ 9223372036854775807) : Xl defs s = some true := Jfk defs s hn alive6
end Go.Proofs.YtjgimofnepechaaGreatDoor
