/- From a function of data to a row of the statements. -/
import Derived.Test.YtkhcecpbbmfcaaaZae
import Derived.Test.YtkhcecpbbmfcaaaZal
import Derived.Test.YtkhcecpbbmfcaaaZam
import Derived.Test.YtkhcecpbbmfcaaaZan
import Derived.Test.YtkhcecpbbmfcaaaZao
import Derived.Test.YtkhcecpbbmfcaaaZap
import Derived.Test.YtkhcecpbbmfcaaaZaq
import Derived.Test.YtkhcecpbbmfcaaaZar
import Derived.Test.YtkhcecpbbmfcaaaZas
import Derived.Test.YtkhcecpbbmfcaaaZau
import Derived.Test.YtkhcecpbbmfcaaaZav
import Derived.Test.YtkhcecpbbmfcaaaRows
import Derived.WalkKit
import Derived.ProofKit
import Derived.OpenShut
import Derived.JoinedCond
import Derived.ShutString
set_option linter.unusedVariables false
set_option linter.unusedSimpArgs false
namespace Go.Proofs.Ytkhcecpbbmfcaaa
open Go.ChangeShapes Go.WideShapes Go.ChangeAt Go.RowKit
theorem own : ownKnob Try.prog.godebug = none := by kernel_rfl
theorem Grows.below {w w' : World} (h : Grows w w') : Below w.heap.size w w' := ⟨h.os, h.tape, h.output, h.size, h.block⟩
theorem post_of_grows {H : Type} {enc : TypeId × Value → H} {P : Program} {f : Func} {s : ChangeSpec} {fresh handsOn again : Bool} {W W' : World} {args : Array Value} {v : Value} {ds gs : List (DataW H)} {before pa pv : List MemPlace}
    (hW : DataW.Whole enc P f.params.toList s.vars false W args.toList ds gs before)
    (hres : ∀ (b : Nat) (sp : Nat → Bool) (hd : Bool), DataW.TrodAll enc P W' b sp hd f.resultTypes.toList (v.resultList f.resultTypes.size) (s.fn H (ds ++ gs)).results [])
    (hargs : ∀ sp : Nat → Bool, (∀ p ∈ before, sp p.block = true) → DataW.TrodAll enc P W' 0 sp true f.params.toList args.toList (s.fn H (ds ++ gs)).args pa)
    (hvars : ∀ sp : Nat → Bool, (∀ p ∈ before, sp p.block = true) → DataW.TrodVars enc P W' sp s.vars (s.fn H (ds ++ gs)).vars pv)
    (hps : before = pa ++ pv) (hg : Grows W W')
    (hok : ∀ (j : Nat) (t : TypeId) (r : Value), f.resultTypes[j]? = some t → (v.resultList f.resultTypes.size)[j]? = some r → Value.okWide P W' .any 0 t r) :
    s.post enc P f false fresh handsOn again W args v W' := by
  have hlt := hW.lt
  refine ⟨ds, gs, before, [], pa, pv, hW, hres _ _ _, hargs _ (fun p hp => by simpa using hlt p hp), hvars _ (fun p hp => by simpa using hlt p hp), World.keptBut_mono (fun p hp => ⟨hp, ?_⟩) (hg.below.frame (· ∈ before)), fun _ => ?_⟩
  · rw [hps, List.mem_append] at hp
    exact Or.inr hp
  · obtain ⟨_, _, _, _, _, hz, hn⟩ := hW
    refine ⟨hok, _, _, ([] ++ pa) ++ pv, ⟨[] ++ pa, pv, trodAll_append (hargs _ (fun _ _ => rfl)) (hres _ _ _), hvars _ (fun _ _ => rfl), rfl, ?_, ?_⟩, ?_⟩
    · intro b off hp
      have hm : MemPlace.cell b off ∈ before := by rw [hps]; simpa using hp
      have h1 := hz b off hm
      rw [hg.below.frozen (hlt _ hm)]
      exact h1
    · intro ha; cases ha
    · intro p hp _
      rw [hps]
      simpa using hp
end Go.Proofs.Ytkhcecpbbmfcaaa
namespace Go.Proofs.Ytkhcecpbbmfcaaa
open Go.RowKit
def vaT : List UInt8 := [95, 95, 86, 65, 95, 65, 82, 71, 83, 95, 95]
def dotsT : List UInt8 := [46, 46, 46]
def atV (l : List Token) (i : Nat) (e : Int) : Fault :=
  if i < l.length then ⟨e, (l.getD i default).File, (l.getD i default).At⟩
  else if 0 < l.length then ⟨e, (l.getD (l.length - 1) default).File, (l.getD (l.length - 1) default).End⟩ else ⟨e, -1, 0⟩
theorem mat_eq (l : List Token) (hl : l.length ≤ 1099511627776) (i : Nat) (e : Int) : macro_at l (i : Int) e = some (atV l i e) := by
  unfold macro_at atV
  simp only [ltI, decide_eq_true_eq, Int.toNat_natCast]
  by_cases h : i < l.length
  · rw [if_pos (by omega), if_pos ⟨by omega, h⟩, if_pos ⟨by omega, h⟩, if_pos h]
  · rw [if_neg (by omega), if_neg h]
    by_cases h0 : 0 < l.length
    · rw [if_pos (by omega), if_pos h0, wNm _ (by omega)]
      simp only [Int.toNat_natCast]
      rw [if_pos (by omega), if_pos (by omega)]
    · rw [if_neg (by omega), if_neg h0]
theorem rat_eq (l : List Token) (hl : l.length ≤ 1099511627776) (i : Nat) (e : Int) : preref4_At l (i : Int) e = some (atV l i e) := by
  unfold preref4_At atV
  simp only [ltI, decide_eq_true_eq, Int.toNat_natCast]
  by_cases h : i < l.length
  · rw [if_pos (by omega), if_pos ⟨by omega, h⟩, if_pos ⟨by omega, h⟩, if_pos h]
  · rw [if_neg (by omega), if_neg h]
    by_cases h0 : 0 < l.length
    · rw [if_pos (by omega), if_pos h0, wNm _ (by omega)]
      simp only [Int.toNat_natCast]
      rw [if_pos (by omega)]
    · rw [if_neg (by omega), if_neg h0]
theorem has_eq (l : List (List UInt8)) (hl : l.length ≤ 1099511627776) (s : List UInt8) : preref4_Has l s = some (decide (s ∈ l)) := by
  unfold preref4_Has
  rw [findi_loop l (fun x => decide (x = s)) (fun _ => true) false (fun j hj => ?_)]
  · congr 1
    rw [Bool.eq_iff_iff]
    simp
  · simp only [preref4_Has_b1, ltI, eqS, decide_eq_true_eq, Int.toNat_natCast, inrO, Option.map_some]
    by_cases h : j < l.length
    · rw [if_pos (by omega), if_pos (by omega), if_pos h, wN1 j (by omega)]
    · rw [if_neg (by omega), if_neg h]
theorem contains_eq (l : List (List UInt8)) (hl : l.length ≤ 1099511627776) (s : List UInt8) : slices_Contains_s_string_string l s = some (decide (s ∈ l)) := by
  unfold slices_Contains_s_string_string slices_Index_s_string_string
  rw [findi_loop l (fun x => decide (s = x)) (fun j => (j : Int)) (-1) (fun j hj => ?_)]
  · simp only [Option.bind_some, leI]
    congr 1
    rw [Bool.eq_iff_iff]
    by_cases h : s ∈ l
    · have : (l.any fun x => decide (s = x)) = true := by simpa using h
      rw [if_pos this]
      simp [h]
    · have : ¬ (l.any fun x => decide (s = x)) = true := by simpa using h
      rw [if_neg this]
      simp [h]
  · simp only [slices_Index_s_string_string_b1, ltI, eqS, decide_eq_true_eq, Int.toNat_natCast, inrO, Option.map_some]
    by_cases h : j < l.length
    · rw [if_pos (by omega), if_pos (by omega), if_pos h, wN1 j (by omega)]
    · rw [if_neg (by omega), if_neg h]
abbrev PR := Int × Int × Int × Int × List (List UInt8) × Bool
def badP (f : Fault) (ps : List (List UInt8)) (more : Bool) : PR := (0, f.Err, f.File, f.At, ps, more)
def prmNext (l : List Token) (i : Nat) (ps : List (List UInt8)) (more : Bool) (k : Nat → PR) : PR :=
  if 6 < ps.length then badP (atV l i 5) ps more
  else if i + 1 < l.length ∧ (l.getD (i + 1) default).Text = [44] then
    (if i + 2 < l.length ∧ (l.getD (i + 2) default).Text = [41] then badP (atV l (i + 2) 2) ps more else k (i + 2))
  else if i + 1 < l.length ∧ (l.getD (i + 1) default).Text ≠ [41] then badP (atV l (i + 1) 2) ps more else k (i + 1)
def prmV (l : List Token) : Nat → Nat → List (List UInt8) → Bool → PR
  | 0, _, ps, more => (0, 0, 0, 0, ps, more)
  | n + 1, i, ps, more =>
    if i < l.length ∧ (l.getD i default).Text ≠ [41] then
      if more = true then badP (atV l i 2) ps more
      else if (l.getD i default).Text = dotsT then prmNext l i (ps ++ [vaT]) true fun j => prmV l n j (ps ++ [vaT]) true
      else if (l.getD i default).Kind ≠ 1 ∨ (l.getD i default).Text = vaT then badP (atV l i 2) ps more
      else if (l.getD i default).Text ∈ ps then badP (atV l i 7) ps more
      else prmNext l i (ps ++ [(l.getD i default).Text]) more fun j => prmV l n j (ps ++ [(l.getD i default).Text]) more
    else if i = l.length then badP (atV l i 2) ps more else ((i + 1 : Nat), 0, -1, 0, ps, more)
theorem params_loop (l : List Token) (hl : l.length ≤ 1099511627776) : ∀ (n i : Nat) (ps : List (List UInt8)) (more : Bool), i ≤ l.length → l.length - i < n → ps.length ≤ 6 →
    loopO (macro_params_v2_b1 l) ((i : Int), ps, more) = some (prmV l n i ps more)
  | 0, i, ps, more, _, h, _ => by omega
  | n + 1, i, ps, more, hi, hn, hp => by
    have next : ∀ (qs : List (List UInt8)) (mr : Bool), i < l.length → qs.length = ps.length + 1 →
        stepO (macro_params_v2_b1 l) (macro_params_v2_j3 l (i : Int) (qs, mr)) = some (prmNext l i qs mr fun j => prmV l n j qs mr) := fun qs mr hlt hq => by
      simp only [macro_params_v2_j3, macro_params_v2_j4, macro_params_v2_j5, macro_params_v2_j6, ltI, eqS, decide_eq_true_eq, wN1 i (by omega), Int.toNat_natCast, prmNext]
      by_cases h6 : 6 < qs.length
      · rw [if_pos (by omega), if_pos h6, mat_eq _ hl]; rfl
      · rw [if_neg (by omega), if_neg h6]
        by_cases h1 : i + 1 < l.length
        · rw [if_pos (by omega), if_pos (by omega)]
          have e1 := mat_eq l hl (i + 1) 2
          have r1 := params_loop l hl n (i + 1) qs mr (by omega) (by omega) (by omega)
          by_cases hc : (l.getD (i + 1) default).Text = [44]
          · rw [if_pos (show i + 1 < l.length ∧ (l.getD (i + 1) default).Text = [44] from ⟨h1, hc⟩), if_pos hc, wN1 (i + 1) (by omega)]
            simp only [Int.toNat_natCast]
            have e2 := mat_eq l hl (i + 2) 2
            have r2 := params_loop l hl n (i + 2) qs mr (by omega) (by omega) (by omega)
            by_cases h2 : i + 1 + 1 < l.length
            · rw [if_pos (show ((i + 1 + 1 : Nat) : Int) < (l.length : Int) by omega), if_pos (show (0 : Int) ≤ ((i + 1 + 1 : Nat) : Int) ∧ i + 1 + 1 < l.length by omega)]
              by_cases hd : (l.getD (i + 2) default).Text = [41]
              · rw [if_pos (show i + 2 < l.length ∧ (l.getD (i + 2) default).Text = [41] from ⟨h2, hd⟩), if_pos (show (l.getD (i + 1 + 1) default).Text = [41] from hd), show i + 1 + 1 = i + 2 from rfl, e2]; rfl
              · rw [if_neg (show ¬ (i + 2 < l.length ∧ (l.getD (i + 2) default).Text = [41]) from fun h => hd h.2), if_neg (show ¬ (l.getD (i + 1 + 1) default).Text = [41] from hd)]
                exact r2
            · rw [if_neg (show ¬ ((i + 1 + 1 : Nat) : Int) < (l.length : Int) by omega), if_neg (by decide), if_neg (show ¬ (i + 2 < l.length ∧ (l.getD (i + 2) default).Text = [41]) from fun h => h2 h.1)]
              exact r2
          · rw [if_neg hc, if_neg (show ¬ (i + 1 < l.length ∧ (l.getD (i + 1) default).Text = [44]) from fun h => hc h.2), if_pos (show ((i + 1 : Nat) : Int) < (l.length : Int) by omega), if_pos (show (0 : Int) ≤ ((i + 1 : Nat) : Int) ∧ i + 1 < l.length by omega)]
            by_cases hd : (l.getD (i + 1) default).Text = [41]
            · rw [if_neg (bn_neg hd), if_neg (show ¬ (i + 1 < l.length ∧ (l.getD (i + 1) default).Text ≠ [41]) from fun h => h.2 hd)]
              exact r1
            · rw [if_pos (bn_pos hd), if_pos (show i + 1 < l.length ∧ (l.getD (i + 1) default).Text ≠ [41] from ⟨h1, hd⟩), e1]; rfl
        · rw [if_neg (by omega), if_neg Bool.false_ne_true, if_neg (by omega), if_neg Bool.false_ne_true, if_neg (fun h => h1 h.1), if_neg (fun h => h1 h.1)]
          exact params_loop l hl n (i + 1) qs mr (by omega) (by omega) (by omega)
    rw [loopO_step]
    simp only [macro_params_v2_b1, macro_params_v2_j2, macro_params_v2_j7, ltI, eqS, eqI, decide_eq_true_eq, wN1 i (by omega), Int.toNat_natCast, prmV]
    by_cases hlt : i < l.length
    · have c : (0 : Int) ≤ (i : Int) ∧ i < l.length := ⟨by omega, hlt⟩
      rw [if_pos (show (i : Int) < (l.length : Int) by omega), if_pos c]
      by_cases hc : (l.getD i default).Text = [41]
      · rw [if_neg (bn_neg hc), if_neg (show ¬ (i < l.length ∧ (l.getD i default).Text ≠ [41]) from fun h => h.2 hc), if_neg (show ¬ (i : Int) = (l.length : Int) by omega), if_neg (show ¬ i = l.length by omega)]
        rfl
      · rw [if_pos (bn_pos hc), if_pos (show (i < l.length ∧ (l.getD i default).Text ≠ [41]) from ⟨hlt, hc⟩)]
        cases more with
        | true => rw [if_pos rfl, if_pos rfl, mat_eq _ hl]; rfl
        | false =>
          rw [if_neg Bool.false_ne_true, if_neg Bool.false_ne_true, if_pos c]
          by_cases hd : (l.getD i default).Text = dotsT
          · rw [if_pos (show (l.getD i default).Text = [46, 46, 46] from hd), if_pos hd]
            rw [if_pos (by simp only [List.length_cons, List.length_nil]; omega)]
            exact next (ps ++ [vaT]) true hlt (by simp)
          · rw [if_neg (show ¬ (l.getD i default).Text = [46, 46, 46] from hd), if_neg hd, if_pos c, if_pos c, if_pos c, if_pos c]
            by_cases hk : (l.getD i default).Kind ≠ 1 ∨ (l.getD i default).Text = vaT
            · rw [if_pos hk]
              by_cases hk1 : (l.getD i default).Kind = 1
              · have hv : (l.getD i default).Text = vaT := hk.resolve_left (fun h => h hk1)
                rw [if_neg (bn_neg hk1), if_pos (show (l.getD i default).Text = [95, 95, 86, 65, 95, 65, 82, 71, 83, 95, 95] from hv), mat_eq _ hl]; rfl
              · rw [if_pos (bn_pos hk1), if_pos trivial, mat_eq _ hl]; rfl
            · have hk1 : (l.getD i default).Kind = 1 := Decidable.byContradiction fun h => hk (.inl h)
              rw [if_neg hk, if_neg (bn_neg hk1), if_neg (show ¬ (l.getD i default).Text = [95, 95, 86, 65, 95, 65, 82, 71, 83, 95, 95] from fun h => hk (.inr h)), contains_eq _ (by omega)]
              simp only [Option.bind_some, decide_eq_true_eq]
              by_cases hm : (l.getD i default).Text ∈ ps
              · rw [if_pos hm, if_pos hm, mat_eq _ hl]; rfl
              · rw [if_neg hm, if_neg hm]
                have hlen : (ps.length + [(l.getD i default).Text].length) * 16 ≤ 140737488355328 := by simp only [List.length_cons, List.length_nil]; omega
                rw [if_pos hlen]
                exact next (ps ++ [(l.getD i default).Text]) false hlt (by simp)
    · have e : i = l.length := by omega
      rw [if_neg (show ¬ (i : Int) < (l.length : Int) by omega), if_neg Bool.false_ne_true, if_neg (show ¬ (i < l.length ∧ (l.getD i default).Text ≠ [41]) from fun h => hlt h.1), if_pos (show (i : Int) = (l.length : Int) by omega), if_pos e, mat_eq _ hl]
      rfl
end Go.Proofs.Ytkhcecpbbmfcaaa
namespace Go.Proofs.Ytkhcecpbbmfcaaa
open Go.RowKit
theorem lxF_small : ∀ (n : Nat) (l : List UInt8) (i st : Nat) (f : Bool), (lxF n l i st f).1.length ≤ l.length ∧ ∀ t ∈ (lxF n l i st f).1, t.txt.length ≤ l.length
  | 0, l, i, st, f => by simp [lxF]
  | n + 1, l, i, st, f => by
    unfold lxF
    split
    · simp
    split
    · simp
    split
    · simp
    · rename_i kind m hp
      have hm := piece_le hp
      have hd : (l.drop (skip l).1).length ≤ l.length := by simp
      obtain ⟨h1, h2⟩ := lxF_small n ((l.drop (skip l).1).drop m) (i + (skip l).1 + m) (nextP st ((l.drop (skip l).1).take m) (f || (skip l).2.1)) false
      rw [List.length_drop] at h1 h2
      refine ⟨?_, fun t ht => ?_⟩
      · simp only [List.length_cons]; omega
      · rcases List.mem_cons.1 ht with rfl | ht
        · simp only [List.length_take]; omega
        · have := h2 t ht; omega
theorem lxF_first (n : Nat) (l : List UInt8) (i st : Nat) (t : Raw) (r : List Raw) (h : (lxF n l i st true).1 = t :: r) : t.fst = true := by
  cases n with
  | zero => simp [lxF] at h
  | succ n =>
    unfold lxF at h
    split at h
    · simp at h
    split at h
    · simp at h
    split at h
    · simp at h
    · simp only [List.cons.injEq] at h
      rw [← h.1]; rfl
theorem toksV_small (file : Int) (text : List UInt8) : (toksV file text).1.length ≤ 3000 ∧ (∀ t ∈ (toksV file text).1, t.Text.length ≤ 3000 ∧ t.Hide = [] ∧ t.Calls = []) ∧ ∀ t r, (toksV file text).1 = t :: r → t.First = true := by
  unfold toksV
  split
  · simp
  · rename_i h
    have hl := spText_length text
    obtain ⟨h1, h2⟩ := lxF_small ((spText text).length + 1) (spText text) 0 0 true
    have h3 := lxF_first ((spText text).length + 1) (spText text) 0 0
    unfold raws
    generalize lxF ((spText text).length + 1) (spText text) 0 0 true = z at *
    obtain ⟨ts, o⟩ := z
    cases o with
    | none =>
      refine ⟨by simp only [List.length_map]; simp only at h1; omega, fun t ht => ?_, fun t r e => ?_⟩
      · obtain ⟨a, ha, rfl⟩ := List.mem_map.1 ht
        exact ⟨by have := h2 a ha; show a.txt.length ≤ 3000; omega, rfl, rfl⟩
      · cases ts with
        | nil => simp at e
        | cons a s =>
          simp only [List.map_cons, List.cons.injEq] at e
          rw [← e.1]
          exact h3 a s rfl
    | some p => simp
theorem lxF_piece : ∀ (n : Nat) (l : List UInt8) (i st : Nat) (f : Bool), ∀ t ∈ (lxF n l i st f).1, ∃ u path, piece u path = (t.kind, some t.len) ∧ t.txt = u.take t.len
  | 0, l, i, st, f => by simp [lxF]
  | n + 1, l, i, st, f => by
    unfold lxF
    split
    · simp
    split
    · simp
    split
    · simp
    · rename_i kind m hp
      intro t ht
      rcases List.mem_cons.1 ht with rfl | ht
      · exact ⟨_, _, hp, rfl⟩
      · exact lxF_piece n _ _ _ _ t ht
theorem toksV_piece (file : Int) (text : List UInt8) : ∀ t ∈ (toksV file text).1, ∃ u path n, piece u path = (t.Kind, some n) ∧ t.Text = u.take n := by
  unfold toksV
  split
  · simp
  · have h := lxF_piece ((spText text).length + 1) (spText text) 0 0 true
    unfold raws
    generalize lxF ((spText text).length + 1) (spText text) 0 0 true = z at *
    obtain ⟨ts, o⟩ := z
    cases o with
    | none =>
      intro t ht
      obtain ⟨a, ha, rfl⟩ := List.mem_map.1 ht
      obtain ⟨u, p, h1, h2⟩ := h a ha
      exact ⟨u, p, _, h1, h2⟩
    | some p => simp
theorem piece_name {u : List UInt8} {p : Bool} {n : Nat} (h : piece u p = (1, some n)) : ∃ c r, u = c :: r ∧ isLet c = true ∧ n = runN isWd u := by
  unfold piece at h
  split at h
  · cases h
  · rename_i c r
    split at h
    · rename_i hc
      exact ⟨c, r, rfl, hc, by cases h; rfl⟩
    all_goals (repeat' (split at h)) <;> (simp only [Prod.mk.injEq] at h; exact absurd h.1 (by decide))
def nameOk (l : List Token) : Prop := ∀ t ∈ l, t.Kind = 1 → t.Text ≠ [44] ∧ t.Text ≠ [41]
theorem toks_nameOk (file : Int) (text : List UInt8) : nameOk (toksV file text).1 := fun t ht hk => by
  obtain ⟨u, p, n, h1, h2⟩ := toksV_piece file text t ht
  rw [hk] at h1
  obtain ⟨c, r, rfl, hc, rfl⟩ := piece_name h1
  have hn : 0 < runN isWd (c :: r) := by simp [runN, List.takeWhile_cons, isWd, hc]
  obtain ⟨m, hm⟩ : ∃ m, runN isWd (c :: r) = m + 1 := ⟨runN isWd (c :: r) - 1, by omega⟩
  rw [h2, hm, List.take_succ_cons]
  constructor <;> intro h <;> (injection h with h _; rw [h] at hc; exact absurd hc (by decide))
def smallT (t : Token) : Prop := t.Hide.length ≤ 1099511627776 ∧ t.Calls.length ≤ 1099511627776
theorem sameToken_refl (t : Token) (h : smallT t) : preref1_SameToken t t = some true := by
  have e3 : loopO (preref1_SameToken_b3 t t) ((t.Calls.length : Int), 0) = some true := by
    have := idx_loop (b := preref1_SameToken_b3 t t) t.Calls.length (fun _ => true) false true (fun j hj => ?_)
    · rw [this]; simp
    · simp only [preref1_SameToken_b3, ltI, decide_eq_true_eq, Int.toNat_natCast, inrO]
      by_cases hj : j < t.Calls.length
      · have h1 : (0 : Int) ≤ j ∧ j < t.Calls.length := by omega
        have hh := h.2
        rw [if_pos (by omega), if_pos h1, if_pos h1, if_pos hj, wN1 j (by omega)]
        simp [eqI, eqS]
      · rw [if_neg (by omega), if_neg hj]; rfl
  have e2 : loopO (preref1_SameToken_b2 t t) ((t.Hide.length : Int), 0) = some true := by
    have := idx_loop (b := preref1_SameToken_b2 t t) t.Hide.length (fun _ => true) false true (fun j hj => ?_)
    · rw [this]; simp
    · simp only [preref1_SameToken_b2, ltI, decide_eq_true_eq, Int.toNat_natCast, inrO, e3]
      by_cases hj : j < t.Hide.length
      · have h1 : (0 : Int) ≤ j ∧ j < t.Hide.length := by omega
        have hh := h.1
        rw [if_pos (by omega), if_pos h1, if_pos h1, if_pos hj, wN1 j (by omega)]
        simp [eqI, eqS]
      · rw [if_neg (by omega), if_neg hj]; rfl
  unfold preref1_SameToken
  have : preref1_SameToken_j1 t t false = some true := by simp only [preref1_SameToken_j1, e2]; rfl
  simp [eqI, eqS, eqB, this]
theorem sameTokens_refl (l : List Token) (hl : l.length ≤ 1099511627776) (h : ∀ t ∈ l, smallT t) : preref1_SameTokens l l = some true := by
  unfold preref1_SameTokens
  have := idx_loop (b := preref1_SameTokens_b1 l l) l.length (fun _ => true) false true (fun j hj => ?_)
  · rw [this]; simp [eqI]
  · simp only [preref1_SameTokens_b1, ltI, decide_eq_true_eq, Int.toNat_natCast, inrO]
    by_cases hj : j < l.length
    · have h1 : (0 : Int) ≤ j ∧ j < l.length := by omega
      rw [if_pos (by omega), if_pos h1, if_pos h1, if_pos hj, wN1 j (by omega)]
      rw [sameToken_refl _ (h _ (by rw [List.getD_eq_getElem?_getD, List.getElem?_eq_getElem hj]; exact List.getElem_mem hj))]
      simp
    · rw [if_neg (by omega), if_neg hj]; rfl
end Go.Proofs.Ytkhcecpbbmfcaaa
namespace Go.Proofs.Ytkhcecpbbmfcaaa
open Go.RowKit
theorem rparams_loop (l : List Token) (hl : l.length ≤ 1099511627776) (ho : nameOk l) : ∀ (n i : Nat) (ps : List (List UInt8)) (more : Bool), 2 ≤ i → i ≤ l.length → l.length - i < n → ps.length ≤ 6 →
    (i = 2 ∨ ¬ (i < l.length ∧ (l.getD i default).Text = [41] ∧ (l.getD (i - 1) default).Text = [44])) →
    loopO (preref4_Params_b1 l) ((i : Int), ps, more) = some (prmV l n i ps more)
  | 0, i, ps, more, _, _, h, _, _ => by omega
  | n + 1, i, ps, more, h2, hi, hn, hp, hq => by
    have hm : ∀ j, j < l.length → (l.getD j default).Kind = 1 → (l.getD j default).Text ≠ [44] ∧ (l.getD j default).Text ≠ [41] := fun j hj => ho _ (getD_mem l j default hj)
    have next : ∀ (x : List UInt8) (mr : Bool), i < l.length → (l.getD i default).Text ≠ [44] →
        stepO (preref4_Params_b1 l) (preref4_Params_j3 l (i : Int) ps (x, mr)) = some (prmNext l i (ps ++ [x]) mr fun j => prmV l n j (ps ++ [x]) mr) := fun x mr hlt hne => by
      have hlen : (ps.length + [x].length) * 16 ≤ 140737488355328 := by simp only [List.length_cons, List.length_nil]; omega
      have hql : (ps ++ [x]).length = ps.length + 1 := by simp
      simp only [preref4_Params_j3, preref4_Params_j4, preref4_Params_j5, ltI, eqS, decide_eq_true_eq, wN1 i (by omega), Int.toNat_natCast, prmNext]
      rw [if_pos hlen]
      by_cases h6 : 6 < (ps ++ [x]).length
      · rw [if_pos (by omega), if_pos h6, rat_eq _ hl]; rfl
      · rw [if_neg (by omega), if_neg h6]
        by_cases h1 : i + 1 < l.length
        · rw [if_pos (by omega), if_pos (by omega)]
          by_cases hc : (l.getD (i + 1) default).Text = [44]
          · rw [if_pos hc, if_pos (show i + 1 < l.length ∧ (l.getD (i + 1) default).Text = [44] from ⟨h1, hc⟩), wN1 (i + 1) (by omega)]
            by_cases hd : i + 2 < l.length ∧ (l.getD (i + 2) default).Text = [41]
            · rw [if_pos hd]
              have c : (0 : Int) ≤ ((i + 1 + 1 : Nat) : Int) ∧ i + 1 + 1 < l.length := ⟨by omega, hd.1⟩
              have hk : (l.getD (i + 2) default).Kind ≠ 1 := fun h => (hm _ hd.1 h).2 hd.2
              simp only [stepO]
              rw [loopO_step]
              simp only [preref4_Params_b1, preref4_Params_j2, preref4_Params_j6, leI, eqS, eqI, decide_eq_true_eq, Int.toNat_natCast]
              rw [if_neg (by omega), if_pos c, if_pos (show (l.getD (i + 1 + 1) default).Text = [41] from hd.2), if_neg (by omega), wNm (i + 1 + 1) (by omega)]
              simp only [Int.toNat_natCast]
              rw [if_pos (show (0 : Int) ≤ ((i + 1 + 1 - 1 : Nat) : Int) ∧ i + 1 + 1 - 1 < l.length by omega)]
              rw [show i + 1 + 1 - 1 = i + 1 by omega, if_neg (bn_neg hc)]
              have e2 := rat_eq l hl (i + 1 + 1) 2
              cases mr with
              | true => rw [if_pos trivial, e2]; rfl
              | false =>
                rw [if_neg Bool.false_ne_true, if_neg (show ¬ (l.getD (i + 1 + 1) default).Text = [46, 46, 46] by rw [show (l.getD (i + 1 + 1) default).Text = [41] from hd.2]; decide), if_pos (bn_pos (show ¬ (l.getD (i + 1 + 1) default).Kind = 1 from hk)), if_pos trivial, e2]
                rfl
            · rw [if_neg hd]
              refine rparams_loop l hl ho n (i + 2) (ps ++ [x]) mr (by omega) (by omega) (by omega) (by omega) (.inr fun h => hd ⟨h.1, h.2.1⟩)
          · rw [if_neg hc, if_neg (show ¬ (i + 1 < l.length ∧ (l.getD (i + 1) default).Text = [44]) from fun h => hc h.2), if_pos (show ((i + 1 : Nat) : Int) < (l.length : Int) by omega), if_pos (show (0 : Int) ≤ ((i + 1 : Nat) : Int) ∧ i + 1 < l.length by omega)]
            by_cases hd : (l.getD (i + 1) default).Text = [41]
            · rw [if_neg (bn_neg hd), if_neg (show ¬ (i + 1 < l.length ∧ (l.getD (i + 1) default).Text ≠ [41]) from fun h => h.2 hd)]
              exact rparams_loop l hl ho n (i + 1) (ps ++ [x]) mr (by omega) (by omega) (by omega) (by omega) (.inr fun h => hne h.2.2)
            · rw [if_pos (bn_pos hd), if_pos (show i + 1 < l.length ∧ (l.getD (i + 1) default).Text ≠ [41] from ⟨h1, hd⟩), rat_eq _ hl]; rfl
        · rw [if_neg (by omega), if_neg Bool.false_ne_true, if_neg (by omega), if_neg Bool.false_ne_true, if_neg (fun h => h1 h.1), if_neg (fun h => h1 h.1)]
          exact rparams_loop l hl ho n (i + 1) (ps ++ [x]) mr (by omega) (by omega) (by omega) (by omega) (.inr fun h => h1 h.1)
    rw [loopO_step]
    simp only [preref4_Params_b1, preref4_Params_j2, preref4_Params_j6, leI, eqS, eqI, decide_eq_true_eq, wN1 i (by omega), wNm i (by omega), Int.toNat_natCast, prmV]
    by_cases hlt : i < l.length
    · have c : (0 : Int) ≤ (i : Int) ∧ i < l.length := ⟨by omega, hlt⟩
      rw [if_neg (show ¬ (l.length : Int) ≤ (i : Int) by omega), if_pos c]
      by_cases hc : (l.getD i default).Text = [41]
      · rw [if_pos hc, if_neg (show ¬ (i < l.length ∧ (l.getD i default).Text ≠ [41]) from fun h => h.2 hc), if_neg (show ¬ i = l.length by omega)]
        by_cases h22 : i = 2
        · rw [if_pos (show (i : Int) = 2 by omega), if_pos trivial]; rfl
        · rw [if_neg (show ¬ (i : Int) = 2 by omega), if_pos (show (0 : Int) ≤ ((i - 1 : Nat) : Int) ∧ i - 1 < l.length by omega), if_pos (bn_pos (show ¬ (l.getD (i - 1) default).Text = [44] from fun h => hq.resolve_left h22 ⟨hlt, hc, h⟩))]
          rfl
      · rw [if_neg hc, if_pos (show (i < l.length ∧ (l.getD i default).Text ≠ [41]) from ⟨hlt, hc⟩), if_neg Bool.false_ne_true]
        cases more with
        | true => rw [if_pos rfl, if_pos rfl, rat_eq _ hl]; rfl
        | false =>
          rw [if_neg Bool.false_ne_true, if_neg Bool.false_ne_true]
          by_cases hd : (l.getD i default).Text = dotsT
          · rw [if_pos (show (l.getD i default).Text = [46, 46, 46] from hd), if_pos hd]
            exact next vaT true hlt (by rw [hd]; decide)
          · rw [if_neg (show ¬ (l.getD i default).Text = [46, 46, 46] from hd), if_neg hd]
            by_cases hk : (l.getD i default).Kind ≠ 1 ∨ (l.getD i default).Text = vaT
            · rw [if_pos hk]
              by_cases hk1 : (l.getD i default).Kind = 1
              · have hv : (l.getD i default).Text = vaT := hk.resolve_left (fun h => h hk1)
                rw [if_neg (bn_neg hk1), if_pos (show (l.getD i default).Text = [95, 95, 86, 65, 95, 65, 82, 71, 83, 95, 95] from hv), rat_eq _ hl]; rfl
              · rw [if_pos (bn_pos hk1), if_pos trivial, rat_eq _ hl]; rfl
            · have hk1 : (l.getD i default).Kind = 1 := Decidable.byContradiction fun h => hk (.inl h)
              rw [if_neg hk, if_neg (bn_neg hk1), if_neg (show ¬ (l.getD i default).Text = [95, 95, 86, 65, 95, 65, 82, 71, 83, 95, 95] from fun h => hk (.inr h)), has_eq _ (by omega)]
              simp only [Option.bind_some, decide_eq_true_eq]
              by_cases hmm : (l.getD i default).Text ∈ ps
              · rw [if_pos hmm, if_pos hmm, rat_eq _ hl]; rfl
              · rw [if_neg hmm, if_neg hmm]
                exact next _ false hlt (hm i hlt hk1).1
    · have e : i = l.length := by omega
      rw [if_pos (show (l.length : Int) ≤ (i : Int) by omega), if_neg (show ¬ (i < l.length ∧ (l.getD i default).Text ≠ [41]) from fun h => hlt h.1), if_pos e, rat_eq _ hl]
      rfl
end Go.Proofs.Ytkhcecpbbmfcaaa
namespace Go.Proofs.Ytkhcecpbbmfcaaa
open Go.RowKit
theorem first_loop {R : Type} {b : Int × Int → Option ((Int × Int) ⊕ R)} (N : Nat) (p : Nat → Bool) (f : Nat → R) (d : R)
    (hb : ∀ j : Nat, j ≤ N → b ((N : Int), (j : Int)) = if j < N then (if p j = true then some (.inr (f j)) else some (.inl ((N : Int), ((j + 1 : Nat) : Int)))) else some (.inr d)) :
    loopO b ((N : Int), 0) = some (if (List.range N).any p = true then f ((List.range N).findIdx p) else d) := by
  have e := findi_loop (b := b) (List.range N) p f d (fun j hj => by
    rw [List.length_range] at hj ⊢
    rw [hb j hj]
    by_cases h : j < N
    · rw [if_pos h, if_pos h, List.getD_eq_getElem?_getD, List.getElem?_range h]; rfl
    · rw [if_neg h, if_neg h])
  rwa [List.length_range] at e
def bodyE (call : Bool) (ps : List (List UInt8)) (more : Bool) (b : List Token) (i : Nat) : Int :=
  if (b.getD i default).Kind ≠ 5 then (if (b.getD i default).Text = vaT ∧ more = false then 7 else 0)
  else if (b.getD i default).Text = [35, 35] ∧ (i = 0 ∨ i + 1 = b.length) then 2
  else if (b.getD i default).Text = [35] ∧ call = true ∧ (i + 1 = b.length ∨ (b.getD (i + 1) default).Text ∉ ps) then 2 else 0
def bodyP (call : Bool) (ps : List (List UInt8)) (more : Bool) (b : List Token) (i : Nat) : Bool := decide (bodyE call ps more b i ≠ 0)
def bodyV (call : Bool) (ps : List (List UInt8)) (more : Bool) (b : List Token) : Fault :=
  if (List.range b.length).any (bodyP call ps more b) = true then
    atV b ((List.range b.length).findIdx (bodyP call ps more b)) (bodyE call ps more b ((List.range b.length).findIdx (bodyP call ps more b)))
  else ⟨0, -1, 0⟩
theorem atV_err (l : List Token) (i : Nat) (e : Int) : (atV l i e).Err = e := by unfold atV; split; rfl; split <;> rfl
theorem bodyP_t {call : Bool} {ps : List (List UInt8)} {more : Bool} {b : List Token} {i : Nat} {e : Int} (h : bodyE call ps more b i = e) (he : e ≠ 0) : bodyP call ps more b i = true := by
  unfold bodyP; rw [h]; exact decide_eq_true he
theorem bodyP_f {call : Bool} {ps : List (List UInt8)} {more : Bool} {b : List Token} {i : Nat} (h : bodyE call ps more b i = 0) : ¬ bodyP call ps more b i = true := by
  unfold bodyP; rw [h]; decide
section
variable {call : Bool} {ps : List (List UInt8)} {more : Bool} {b : List Token} {j : Nat}
theorem bE_name (hk : ¬ (b.getD j default).Kind = 5) (hv : (b.getD j default).Text = vaT) : bodyE call ps false b j = 7 := by unfold bodyE; rw [if_pos hk, if_pos ⟨hv, rfl⟩]
theorem bE_more (hk : ¬ (b.getD j default).Kind = 5) : bodyE call ps true b j = 0 := by unfold bodyE; rw [if_pos hk, if_neg (fun h => absurd h.2 (by decide))]
theorem bE_no (hk : ¬ (b.getD j default).Kind = 5) (hv : ¬ (b.getD j default).Text = vaT) : bodyE call ps more b j = 0 := by unfold bodyE; rw [if_pos hk, if_neg (fun h => hv h.1)]
theorem bE_two (hk : (b.getD j default).Kind = 5) (hh : (b.getD j default).Text = [35, 35]) (h : j = 0 ∨ j + 1 = b.length) : bodyE call ps more b j = 2 := by unfold bodyE; rw [if_neg (fun h => h hk), if_pos ⟨hh, h⟩]
theorem bE_in (hk : (b.getD j default).Kind = 5) (hh : (b.getD j default).Text = [35, 35]) (h : ¬ (j = 0 ∨ j + 1 = b.length)) : bodyE call ps more b j = 0 := by
  unfold bodyE; rw [if_neg (fun h => h hk), if_neg (fun h' => h h'.2), if_neg (fun h => absurd (hh.symm.trans h.1) (by decide))]
theorem bE_one (hk : (b.getD j default).Kind = 5) (hh : (b.getD j default).Text = [35]) (h : j + 1 = b.length ∨ (b.getD (j + 1) default).Text ∉ ps) : bodyE true ps more b j = 2 := by
  unfold bodyE; rw [if_neg (fun h => h hk), if_neg (fun h => absurd (hh.symm.trans h.1) (by decide)), if_pos ⟨hh, rfl, h⟩]
theorem bE_par (hk : (b.getD j default).Kind = 5) (hh : (b.getD j default).Text = [35]) (h : ¬ (call = true ∧ (j + 1 = b.length ∨ (b.getD (j + 1) default).Text ∉ ps))) : bodyE call ps more b j = 0 := by
  unfold bodyE; rw [if_neg (fun h => h hk), if_neg (fun h => absurd (hh.symm.trans h.1) (by decide)), if_neg (fun h' => h h'.2)]
theorem bE_sign (hk : (b.getD j default).Kind = 5) (h2 : ¬ (b.getD j default).Text = [35, 35]) (h1 : ¬ (b.getD j default).Text = [35]) : bodyE call ps more b j = 0 := by
  unfold bodyE; rw [if_neg (fun h => h hk), if_neg (fun h => h2 h.1), if_neg (fun h => h1 h.1)]
end
theorem mbody_eq (nm : List UInt8) (call : Bool) (ps : List (List UInt8)) (hps : ps.length ≤ 1099511627776) (more : Bool) (b : List Token) (hb : b.length ≤ 1099511627776) :
    macro_body nm call ps more b = some ((bodyV call ps more b).Err, (bodyV call ps more b).File, (bodyV call ps more b).At) := by
  unfold macro_body bodyV
  rw [first_loop b.length (bodyP call ps more b) (fun i => ((atV b i (bodyE call ps more b i)).Err, (atV b i (bodyE call ps more b i)).File, (atV b i (bodyE call ps more b i)).At)) (0, -1, 0) (fun j hj => ?_)]
  · split <;> rfl
  · by_cases h : j < b.length
    · rw [if_pos h]
      simp only [macro_body_b1, macro_body_j2, macro_body_j3, macro_body_j4, macro_body_j5, ltI, eqS, eqI, decide_eq_true_eq, Int.toNat_natCast, inrO, wN1 j (by omega)]
      have c : (0 : Int) ≤ (j : Int) ∧ j < b.length := ⟨by omega, h⟩
      rw [if_pos (show (j : Int) < (b.length : Int) by omega), if_pos c, wNm b.length (by omega)]
      have m7 := mat_eq b hb j 7
      have m2 := mat_eq b hb j 2
      by_cases hk : (b.getD j default).Kind = 5
      · rw [if_neg (bn_neg hk)]
        by_cases hh : (b.getD j default).Text = [35, 35]
        · rw [if_pos hh]
          by_cases h0 : j = 0
          · have hE := bE_two (call := call) (ps := ps) (more := more) hk hh (.inl h0)
            rw [if_pos (show (j : Int) = 0 by omega), if_pos trivial, if_pos (bodyP_t hE (by decide)), hE, m2]; rfl
          · rw [if_neg (show ¬ (j : Int) = 0 by omega)]
            by_cases hl : j + 1 = b.length
            · have hE := bE_two (call := call) (ps := ps) (more := more) hk hh (.inr hl)
              rw [if_pos (show (j : Int) = ((b.length - 1 : Nat) : Int) by omega), if_pos (bodyP_t hE (by decide)), hE, m2]; rfl
            · have hE := bE_in (call := call) (ps := ps) (more := more) hk hh (fun h => h.elim h0 hl)
              rw [if_neg (show ¬ (j : Int) = ((b.length - 1 : Nat) : Int) by omega), if_neg (show ¬ (b.getD j default).Text = [35] from fun h => absurd (hh.symm.trans h) (by decide)), if_neg Bool.false_ne_true, if_neg (bodyP_f hE)]
        · rw [if_neg hh, if_neg Bool.false_ne_true]
          by_cases h1 : (b.getD j default).Text = [35]
          · rw [if_pos h1]
            cases call with
            | false => rw [if_neg Bool.false_ne_true, if_neg Bool.false_ne_true, if_neg (bodyP_f (bE_par hk h1 (fun h => absurd h.1 (by decide))))]
            | true =>
              rw [if_pos rfl]
              by_cases hl : j + 1 = b.length
              · have hE := bE_one (ps := ps) (more := more) hk h1 (.inl hl)
                rw [if_pos (show (j : Int) = ((b.length - 1 : Nat) : Int) by omega), if_pos trivial, if_pos (bodyP_t hE (by decide)), hE, m2]; rfl
              · rw [if_neg (show ¬ (j : Int) = ((b.length - 1 : Nat) : Int) by omega), if_pos (show (0 : Int) ≤ ((j + 1 : Nat) : Int) ∧ j + 1 < b.length by omega), contains_eq _ hps]
                simp only [Option.bind_some]
                by_cases hm : (b.getD (j + 1) default).Text ∈ ps
                · rw [if_neg (bn_neg hm), if_neg (bodyP_f (bE_par hk h1 (fun h => h.2.elim hl (fun h => h hm))))]
                · have hE := bE_one (ps := ps) (more := more) hk h1 (.inr hm)
                  rw [if_pos (bn_pos hm), if_pos (bodyP_t hE (by decide)), hE, m2]; rfl
          · rw [if_neg h1, if_neg Bool.false_ne_true, if_neg (bodyP_f (bE_sign hk hh h1))]
      · rw [if_pos (bn_pos hk)]
        by_cases hv : (b.getD j default).Text = vaT
        · rw [if_pos (show (b.getD j default).Text = [95, 95, 86, 65, 95, 65, 82, 71, 83, 95, 95] from hv)]
          cases more with
          | true => rw [if_neg (by decide), if_neg (bodyP_f (bE_more hk))]
          | false =>
            have hE := bE_name (call := call) (ps := ps) hk hv
            rw [if_pos (by decide), if_pos (bodyP_t hE (by decide)), hE, m7]; rfl
        · rw [if_neg (show ¬ (b.getD j default).Text = [95, 95, 86, 65, 95, 65, 82, 71, 83, 95, 95] from hv), if_neg Bool.false_ne_true, if_neg (bodyP_f (bE_no hk hv))]
    · rw [if_neg h]
      simp only [macro_body_b1, ltI, decide_eq_true_eq, inrO]
      rw [if_neg (show ¬ (j : Int) < (b.length : Int) by omega)]
      rfl
def mac0 : Macro := ⟨[], false, [], false, []⟩
theorem rbody_eq (nm : List UInt8) (call : Bool) (ps : List (List UInt8)) (hps : ps.length ≤ 1099511627776) (more : Bool) (b : List Token) (hb : b.length ≤ 1099511627776) :
    loopO (preref4_Parse_b5 nm call ps more b) ((b.length : Int), 0) = some (if (bodyV call ps more b).Err ≠ 0 then (mac0, bodyV call ps more b) else (⟨nm, call, ps, more, b⟩, ⟨0, -1, 0⟩)) := by
  rw [first_loop b.length (bodyP call ps more b) (fun i => (mac0, atV b i (bodyE call ps more b i))) (⟨nm, call, ps, more, b⟩, ⟨0, -1, 0⟩) (fun j hj => ?_)]
  · congr 1
    unfold bodyV
    by_cases h : (List.range b.length).any (bodyP call ps more b) = true
    · rw [if_pos h, if_pos h]
      have hp : bodyP call ps more b ((List.range b.length).findIdx (bodyP call ps more b)) = true := by
        have h1 : (List.range b.length).findIdx (bodyP call ps more b) < (List.range b.length).length := by rw [List.findIdx_lt_length]; simpa using h
        have := List.findIdx_getElem (w := h1)
        simpa using this
      rw [if_pos]
      rw [atV_err]
      simpa [bodyP] using hp
    · rw [if_neg h, if_neg h, if_neg (by simp)]
  · by_cases h : j < b.length
    · rw [if_pos h]
      simp only [preref4_Parse_b5, preref4_Parse_j6, preref4_Parse_j7, preref4_Parse_j8, ltI, eqS, eqI, decide_eq_true_eq, Int.toNat_natCast, inrO, wN1 j (by omega)]
      have c : (0 : Int) ≤ (j : Int) ∧ j < b.length := ⟨by omega, h⟩
      rw [if_pos (show (j : Int) < (b.length : Int) by omega), if_pos c]
      have m7 := rat_eq b hb j 7
      have m2 := rat_eq b hb j 2
      by_cases hk : (b.getD j default).Kind = 5
      · rw [if_pos hk, if_pos hk]
        by_cases hh : (b.getD j default).Text = [35, 35]
        · rw [if_pos hh]
          by_cases h0 : j = 0
          · have hE := bE_two (call := call) (ps := ps) (more := more) hk hh (.inl h0)
            rw [if_pos (show (j : Int) = 0 by omega), if_pos trivial, if_pos (bodyP_t hE (by decide)), hE, m2]; rfl
          · rw [if_neg (show ¬ (j : Int) = 0 by omega)]
            by_cases hl : j + 1 = b.length
            · have hE := bE_two (call := call) (ps := ps) (more := more) hk hh (.inr hl)
              rw [if_pos (show ((j + 1 : Nat) : Int) = (b.length : Int) by omega), if_pos (bodyP_t hE (by decide)), hE, m2]; rfl
            · have hE := bE_in (call := call) (ps := ps) (more := more) hk hh (fun h => h.elim h0 hl)
              rw [if_neg (show ¬ ((j + 1 : Nat) : Int) = (b.length : Int) by omega), if_neg (show ¬ (b.getD j default).Text = [35] from fun h => absurd (hh.symm.trans h) (by decide)), if_neg Bool.false_ne_true, if_neg (bn_neg hk), if_neg Bool.false_ne_true, if_neg (bodyP_f hE)]
        · rw [if_neg hh, if_neg Bool.false_ne_true]
          by_cases h1 : (b.getD j default).Text = [35]
          · rw [if_pos h1]
            cases call with
            | false => rw [if_neg Bool.false_ne_true, if_neg Bool.false_ne_true, if_neg (bn_neg hk), if_neg Bool.false_ne_true, if_neg (bodyP_f (bE_par hk h1 (fun h => absurd h.1 (by decide))))]
            | true =>
              rw [if_pos rfl]
              by_cases hl : j + 1 = b.length
              · have hE := bE_one (ps := ps) (more := more) hk h1 (.inl hl)
                rw [if_pos (show ((j + 1 : Nat) : Int) = (b.length : Int) by omega), if_pos trivial, if_pos (bodyP_t hE (by decide)), hE, m2]; rfl
              · rw [if_neg (show ¬ ((j + 1 : Nat) : Int) = (b.length : Int) by omega), if_pos (show (0 : Int) ≤ ((j + 1 : Nat) : Int) ∧ j + 1 < b.length by omega), has_eq _ hps]
                simp only [Option.bind_some]
                by_cases hm : (b.getD (j + 1) default).Text ∈ ps
                · rw [if_neg (bn_neg hm), if_neg (bn_neg hk), if_neg Bool.false_ne_true, if_neg (bodyP_f (bE_par hk h1 (fun h => h.2.elim hl (fun h => h hm))))]
                · have hE := bE_one (ps := ps) (more := more) hk h1 (.inr hm)
                  rw [if_pos (bn_pos hm), if_pos (bodyP_t hE (by decide)), hE, m2]; rfl
          · rw [if_neg h1, if_neg Bool.false_ne_true, if_neg (bn_neg hk), if_neg Bool.false_ne_true, if_neg (bodyP_f (bE_sign hk hh h1))]
      · rw [if_neg hk, if_neg Bool.false_ne_true, if_neg hk, if_neg Bool.false_ne_true, if_pos (bn_pos hk)]
        by_cases hv : (b.getD j default).Text = vaT
        · rw [if_pos (show (b.getD j default).Text = [95, 95, 86, 65, 95, 65, 82, 71, 83, 95, 95] from hv)]
          cases more with
          | true => rw [if_neg (by decide), if_neg (bodyP_f (bE_more hk))]
          | false =>
            have hE := bE_name (call := call) (ps := ps) hk hv
            rw [if_pos (by decide), if_pos (bodyP_t hE (by decide)), hE, m7]; rfl
        · rw [if_neg (show ¬ (b.getD j default).Text = [95, 95, 86, 65, 95, 65, 82, 71, 83, 95, 95] from hv), if_neg Bool.false_ne_true, if_neg (bodyP_f (bE_no hk hv))]
    · rw [if_neg h]
      simp only [preref4_Parse_b5, ltI, decide_eq_true_eq, inrO]
      rw [if_neg (show ¬ (j : Int) < (b.length : Int) by omega)]
      rfl
end Go.Proofs.Ytkhcecpbbmfcaaa
namespace Go.Proofs.Ytkhcecpbbmfcaaa
open Go.RowKit
def bodyT (sp : Bool) (t : Token) : Token := ⟨t.Kind, t.Text, t.Space && sp, false, t.File, t.At, t.End, t.Line, [], [], t.Made⟩
def bodyL : List Token → List Token
  | [] => []
  | t :: r => bodyT false t :: r.map (bodyT true)
def bodyS (s : List Token) (t : Token) : List Token ⊕ Option (Macro × Fault) := .inl (s ++ [bodyT (decide (0 < s.length)) t])
theorem bodyS_all {R : Type} (fin : List Token → R) : ∀ (l s : List Token), 0 < s.length → eachR (fun s t => (.inl (s ++ [bodyT (decide (0 < s.length)) t]) : List Token ⊕ R)) fin s l = fin (s ++ l.map (bodyT true))
  | [], s, _ => by simp [eachR]
  | t :: l, s, h => by
    rw [eachR]
    simp only
    rw [bodyS_all fin l _ (by simp), decide_eq_true h, List.append_assoc]
    rfl
theorem bodyS_eq {R : Type} (fin : List Token → R) (l : List Token) : eachR (fun s t => (.inl (s ++ [bodyT (decide (0 < s.length)) t]) : List Token ⊕ R)) fin [] l = fin (bodyL l) := by
  cases l with
  | nil => rfl
  | cons t l =>
    rw [eachR]
    simp only
    rw [bodyS_all fin l _ (by simp)]
    rfl
def bodyR (nm : List UInt8) (call : Bool) (ps : List (List UInt8)) (more : Bool) (b : List Token) : Macro × Fault :=
  if (bodyV call ps more b).Err ≠ 0 then (mac0, bodyV call ps more b) else (⟨nm, call, ps, more, b⟩, ⟨0, -1, 0⟩)
theorem mloop_eq (nm : List UInt8) (call : Bool) (ps : List (List UInt8)) (hps : ps.length ≤ 1099511627776) (more : Bool) (l : List Token) (hl : l.length ≤ 1099511627776) :
    loopO (macro_Parse_b3 nm call ps more) (l, (l.length : Int), 0, ([] : List Token)) = some (bodyR nm call ps more (bodyL l)) := by
  have := each_loop0 (b := macro_Parse_b3 nm call ps more) l (fun i s => (l, (l.length : Int), (i : Int), s)) (fun s t => .inl (s ++ [bodyT (decide (0 < s.length)) t])) (fun s => bodyR nm call ps more s)
    (fun i s => s.length = i) ?_ ?_ ?_ [] rfl
  · rw [bodyS_eq] at this
    exact this
  · intro i s hs hi
    have hlen : (s.length + [(⟨(l.getD i default).Kind, (l.getD i default).Text, (l.getD i default).Space && decide (0 < s.length), false, (l.getD i default).File, (l.getD i default).At, (l.getD i default).End, (l.getD i default).Line, ([] : List (List UInt8)), ([] : List Call), (l.getD i default).Made⟩ : Token)].length) * 120 ≤ 140737488355328 := by
      simp only [List.length_cons, List.length_nil]; omega
    have hd : decide ((0 : Int) < (i : Int)) = decide (0 < s.length) := by congr 1; apply propext; omega
    simp only [macro_Parse_b3, macro_Parse_j4, ltI, decide_eq_true_eq, Int.toNat_natCast, wN1 i (by omega), nextS, bodyT, hd]
    rw [if_pos (show (i : Int) < (l.length : Int) by omega), if_pos (show (0 : Int) ≤ (i : Int) ∧ i < l.length by omega)]
    by_cases hsp : (l.getD i default).Space = true
    · rw [if_pos hsp]
      rw [hsp, Bool.true_and] at hlen ⊢
      rw [if_pos (by simp only [List.length_cons, List.length_nil] at hlen ⊢; omega)]
    · rw [if_neg hsp]
      have hsp : (l.getD i default).Space = false := by simpa using hsp
      rw [hsp, Bool.false_and] at hlen ⊢
      rw [if_pos (by simp only [List.length_cons, List.length_nil] at hlen ⊢; omega)]
  · intro i s s' hs hi h
    obtain rfl := Sum.inl.inj h
    simp [hs]
  · intro s hs
    simp only [macro_Parse_b3, ltI, decide_eq_true_eq, inrO]
    rw [if_neg (by omega), mbody_eq nm call ps hps more s (by omega)]
    show Option.map Sum.inr (if (!eqI (bodyV call ps more s).Err 0) = true then some (mac0, bodyV call ps more s) else some (⟨nm, call, ps, more, s⟩, ⟨0, -1, 0⟩)) = some (.inr (bodyR nm call ps more s))
    unfold bodyR
    by_cases h : (bodyV call ps more s).Err = 0
    · rw [if_neg (bi_neg h), if_neg (fun h' => h' h)]; rfl
    · rw [if_pos (bi_pos h), if_pos h]; rfl
theorem rloop_eq (a : List Token) (k : Nat) (hk : k ≤ a.length) (ha : a.length ≤ 1099511627776) (nm : List UInt8) (call : Bool) (ps : List (List UInt8)) (hps : ps.length ≤ 1099511627776) (more : Bool) :
    loopO (preref4_Parse_b3 a (k : Int) nm call ps more) ((k : Int), ([] : List Token)) = some (bodyR nm call ps more (bodyL (a.drop k))) := by
  have hdl : (a.drop k).length = a.length - k := List.length_drop
  have := each_loop0 (b := preref4_Parse_b3 a (k : Int) nm call ps more) (a.drop k) (fun i s => (((k + i : Nat) : Int), s)) (fun s t => .inl (s ++ [bodyT (decide (0 < s.length)) t])) (fun s => bodyR nm call ps more s)
    (fun i s => s.length = i) ?_ ?_ ?_ [] rfl
  · rw [bodyS_eq] at this
    exact this
  · intro i s hs hi
    have hg : (a.drop k).getD i default = a.getD (k + i) default := by simp [List.getD_eq_getElem?_getD, List.getElem?_drop]
    rw [hg]
    have hd : decide ((k : Int) < ((k + i : Nat) : Int)) = decide (0 < s.length) := by congr 1; apply propext; omega
    simp only [preref4_Parse_b3, preref4_Parse_j4, ltI, decide_eq_true_eq, Int.toNat_natCast, wN1 (k + i) (by omega), nextS, bodyT, hd]
    rw [if_pos (show ((k + i : Nat) : Int) < (a.length : Int) by omega), if_pos (show (0 : Int) ≤ ((k + i : Nat) : Int) ∧ k + i < a.length by omega)]
    by_cases hsp : (a.getD (k + i) default).Space = true
    · rw [if_pos hsp, if_pos (by simp only [List.length_cons, List.length_nil]; omega), hsp, Bool.true_and]
      rfl
    · rw [if_neg hsp, if_pos (by simp only [List.length_cons, List.length_nil]; omega)]
      have hsp : (a.getD (k + i) default).Space = false := by simpa using hsp
      rw [hsp, Bool.false_and]
      rfl
  · intro i s s' hs hi h
    obtain rfl := Sum.inl.inj h
    simp [hs]
  · intro s hs
    simp only [preref4_Parse_b3, ltI, decide_eq_true_eq, inrO]
    rw [if_neg (by omega), rbody_eq nm call ps hps more s (by omega)]
    rfl
def builtins : List (List UInt8) := [[95, 95, 76, 73, 78, 69, 95, 95], [95, 95, 70, 73, 76, 69, 95, 95], [100, 101, 102, 105, 110, 101, 100]]
theorem builtin_eq (s : List UInt8) : macro_Builtin s = some (decide (s ∈ builtins)) := by
  unfold macro_Builtin builtins
  simp only [eqS, decide_eq_true_eq, macro_Builtin_j1]
  by_cases h1 : s = [95, 95, 76, 73, 78, 69, 95, 95]
  · rw [if_pos h1]; simp [h1]
  · rw [if_neg h1]
    by_cases h2 : s = [95, 95, 70, 73, 76, 69, 95, 95]
    · rw [if_pos h2]; simp [h2]
    · rw [if_neg h2]
      simp [h1, h2]
def restV (l : List Token) (k : Nat) (nm : List UInt8) (call : Bool) (ps : List (List UInt8)) (more : Bool) : Macro × Fault :=
  if 60 < l.length - k then (mac0, atV l (k + 60) 4) else bodyR nm call ps more (bodyL (l.drop k))
def parseV (l : List Token) : Macro × Fault :=
  if l.length = 0 ∨ (l.getD 0 default).Kind ≠ 1 then (mac0, atV l 0 2)
  else if (l.getD 0 default).Text ∈ builtins then (mac0, atV l 0 7)
  else if 1 < l.length ∧ (l.getD 1 default).Text = [40] ∧ (l.getD 1 default).Space = false then
    (if (prmV l (l.length + 1) 2 [] false).2.1 ≠ 0 then (mac0, ⟨(prmV l (l.length + 1) 2 [] false).2.1, (prmV l (l.length + 1) 2 [] false).2.2.1, (prmV l (l.length + 1) 2 [] false).2.2.2.1⟩)
      else restV l (prmV l (l.length + 1) 2 [] false).1.toNat (l.getD 0 default).Text true (prmV l (l.length + 1) 2 [] false).2.2.2.2.1 (prmV l (l.length + 1) 2 [] false).2.2.2.2.2)
  else restV l 1 (l.getD 0 default).Text false [] false
theorem prmV_ok (l : List Token) : ∀ (n i : Nat) (ps : List (List UInt8)) (more : Bool), i ≤ l.length → l.length - i < n → ps.length ≤ 6 →
    (prmV l n i ps more).2.1 = 0 → (∃ k : Nat, (prmV l n i ps more).1 = (k : Int) ∧ i < k ∧ k ≤ l.length) ∧ (prmV l n i ps more).2.2.2.2.1.length ≤ 6
  | 0, i, ps, more, _, h, _ => by omega
  | n + 1, i, ps, more, hi, hn, hp => by
    have bad : ∀ (j : Nat) (e : Int) (qs : List (List UInt8)) (mr : Bool), e ≠ 0 → (badP (atV l j e) qs mr).2.1 ≠ 0 := fun j e qs mr he => by
      show (atV l j e).Err ≠ 0
      rw [atV_err]; exact he
    have next : ∀ (qs : List (List UInt8)) (mr : Bool), i < l.length → qs.length = ps.length + 1 → (prmNext l i qs mr fun j => prmV l n j qs mr).2.1 = 0 →
        (∃ k : Nat, (prmNext l i qs mr fun j => prmV l n j qs mr).1 = (k : Int) ∧ i < k ∧ k ≤ l.length) ∧ (prmNext l i qs mr fun j => prmV l n j qs mr).2.2.2.2.1.length ≤ 6 := fun qs mr hlt hq => by
      unfold prmNext
      by_cases h6 : 6 < qs.length
      · rw [if_pos h6]; exact fun h => absurd h (bad _ _ _ _ (by decide))
      · rw [if_neg h6]
        by_cases h1 : i + 1 < l.length ∧ (l.getD (i + 1) default).Text = [44]
        · rw [if_pos h1]
          by_cases h2 : i + 2 < l.length ∧ (l.getD (i + 2) default).Text = [41]
          · rw [if_pos h2]; exact fun h => absurd h (bad _ _ _ _ (by decide))
          · rw [if_neg h2]
            intro h
            obtain ⟨⟨k, h3, h4, h5⟩, h6⟩ := prmV_ok l n (i + 2) qs mr (by omega) (by omega) (by omega) h
            exact ⟨⟨k, h3, by omega, h5⟩, h6⟩
        · rw [if_neg h1]
          by_cases h2 : i + 1 < l.length ∧ (l.getD (i + 1) default).Text ≠ [41]
          · rw [if_pos h2]; exact fun h => absurd h (bad _ _ _ _ (by decide))
          · rw [if_neg h2]
            intro h
            obtain ⟨⟨k, h3, h4, h5⟩, h6⟩ := prmV_ok l n (i + 1) qs mr (by omega) (by omega) (by omega) h
            exact ⟨⟨k, h3, by omega, h5⟩, h6⟩
    rw [prmV]
    split
    · rename_i hc
      split
      · exact fun h => absurd h (bad _ _ _ _ (by decide))
      · split
        · exact next _ _ hc.1 (by simp)
        · split
          · exact fun h => absurd h (bad _ _ _ _ (by decide))
          · split
            · exact fun h => absurd h (bad _ _ _ _ (by decide))
            · exact next _ _ hc.1 (by simp)
    · split
      · exact fun h => absurd h (bad _ _ _ _ (by decide))
      · exact fun _ => ⟨⟨i + 1, rfl, by omega, by omega⟩, hp⟩
theorem wNs (k m : Nat) (h : m ≤ k ∧ k ≤ 4611686018427387904) : IntKind.i64.wrap ((k : Int) - (m : Int)) = ((k - m : Nat) : Int) := by rw [wr _ (by omega)]; omega
theorem wNa (k m : Nat) (h : k + m ≤ 4611686018427387904) : IntKind.i64.wrap ((k : Int) + (m : Int)) = ((k + m : Nat) : Int) := by rw [wr _ (by omega)]; omega
theorem mparse_eq (l : List Token) (hl : l.length ≤ 1099511627776) : macro_Parse l = some (parseV l) := by
  have at0 : ∀ e, macro_at l 0 e = some (atV l 0 e) := fun e => mat_eq l hl 0 e
  have j2 : ∀ (k : Nat) (nm : List UInt8) (call : Bool) (ps : List (List UInt8)) (more : Bool), k ≤ l.length → ps.length ≤ 6 → macro_Parse_j2 l ((k : Int), nm, call, ps, more) = some (restV l k nm call ps more) := fun k nm call ps more hk hp => by
    simp only [macro_Parse_j2, restV, wNs l.length k ⟨hk, by omega⟩, ltI, decide_eq_true_eq, Int.toNat_natCast]
    by_cases h : 60 < l.length - k
    · rw [if_pos (by omega), if_pos h, show ((k : Int) + 60) = (k : Int) + ((60 : Nat) : Int) from rfl, wNa k 60 (by omega), mat_eq _ hl]; rfl
    · rw [if_neg (by omega), if_neg h, if_pos (by omega), mloop_eq nm call ps (by omega) more _ (by rw [List.length_drop]; omega)]
  have j1t : macro_Parse_j1 l (true, []) = some (mac0, atV l 0 2) := by
    simp only [macro_Parse_j1, if_true, at0, Option.bind_some, macro_Parse_1]; rfl
  have j5f : ∀ nm, 0 < l.length → macro_Parse_j5 l (false, nm) = some (restV l 1 nm false [] false) := fun nm h0 => by
    simp only [macro_Parse_j5, if_neg Bool.false_ne_true]
    exact j2 1 nm false [] false (by omega) (by simp)
  unfold macro_Parse parseV
  simp only [eqI, decide_eq_true_eq]
  by_cases h0 : l.length = 0
  · rw [if_pos (by omega), if_pos (.inl h0), j1t]
  · rw [if_neg (by omega), if_pos (by omega)]
    by_cases hk : (l.getD 0 default).Kind = 1
    · rw [if_neg (show ¬ (l.length = 0 ∨ (l.getD 0 default).Kind ≠ 1) from fun h => h.elim h0 (fun h => h hk)), decide_eq_true hk]
      simp only [macro_Parse_j1, Bool.not_true, if_neg Bool.false_ne_true, builtin_eq, Option.bind_some, ltI, eqS, decide_eq_true_eq]
      rw [if_pos (show 0 < l.length by omega)]
      by_cases hb : (l.getD 0 default).Text ∈ builtins
      · rw [if_pos hb, if_pos hb, at0]; rfl
      · rw [if_neg hb, if_neg hb, if_pos (show 0 < l.length by omega)]
        by_cases h1 : 1 < l.length
        · rw [if_pos (show (1 : Int) < (l.length : Int) by omega), if_pos h1]
          by_cases hp : (l.getD 1 default).Text = [40]
          · rw [if_pos hp, if_pos h1]
            cases hs : (l.getD 1 default).Space with
            | true => rw [if_neg (fun h => absurd h.2.2 (by decide)), Bool.not_true, j5f _ (by omega)]
            | false =>
              rw [if_pos ⟨h1, hp, rfl⟩, Bool.not_false]
              have e := params_loop l hl (l.length + 1) 2 [] false (by omega) (by omega) (by simp)
              have e : loopO (macro_params_v2_b1 l) ((2 : Int), [], false) = _ := e
              have w2 : IntKind.i64.wrap (1 + 1) = 2 := by decide
              simp only [macro_Parse_j5, if_true, macro_params_v2, w2, e, Option.bind_some, macro_Parse_1]
              by_cases hr : (prmV l (l.length + 1) 2 [] false).2.1 = 0
              · obtain ⟨⟨k, h3, h4, h5⟩, h6⟩ := prmV_ok l (l.length + 1) 2 [] false (by omega) (by omega) (by simp) hr
                rw [if_neg (bi_neg hr), if_neg (fun h => h hr), h3, Int.toNat_natCast]
                exact j2 k _ true _ _ h5 h6
              · rw [if_pos (bi_pos hr), if_pos hr]; rfl
          · rw [if_neg hp, if_neg (fun h => hp h.2.1), j5f _ (by omega)]
        · rw [if_neg (show ¬ (1 : Int) < (l.length : Int) by omega), if_neg (fun h => h1 h.1), j5f _ (by omega)]
    · rw [if_pos (show l.length = 0 ∨ (l.getD 0 default).Kind ≠ 1 from .inr hk), decide_eq_false hk, Bool.not_false, j1t]
theorem rparse_eq (l : List Token) (hl : l.length ≤ 1099511627776) (ho : nameOk l) : preref4_Parse l = some (parseV l) := by
  have at0 : ∀ e, preref4_At l 0 e = some (atV l 0 e) := fun e => rat_eq l hl 0 e
  have j2 : ∀ (k : Nat) (nm : List UInt8) (call : Bool) (ps : List (List UInt8)) (more : Bool), k ≤ l.length → ps.length ≤ 6 → preref4_Parse_j2 l ((k : Int), nm, call, ps, more) = some (restV l k nm call ps more) := fun k nm call ps more hk hp => by
    simp only [preref4_Parse_j2, restV, wNs l.length k ⟨hk, by omega⟩, ltI, decide_eq_true_eq]
    by_cases h : 60 < l.length - k
    · rw [if_pos (by omega), if_pos h, show ((k : Int) + 60) = (k : Int) + ((60 : Nat) : Int) from rfl, wNa k 60 (by omega), rat_eq _ hl]; rfl
    · rw [if_neg (by omega), if_neg h, rloop_eq l k hk hl nm call ps (by omega) more]
  have j1t : preref4_Parse_j1 l (true, []) = some (mac0, atV l 0 2) := by
    simp only [preref4_Parse_j1, if_true, at0, Option.bind_some]; rfl
  have j5f : ∀ nm, 0 < l.length → preref4_Parse_j9 l (false, nm) = some (restV l 1 nm false [] false) := fun nm h0 => by
    simp only [preref4_Parse_j9, if_neg Bool.false_ne_true]
    exact j2 1 nm false [] false (by omega) (by simp)
  unfold preref4_Parse parseV
  simp only [eqI, decide_eq_true_eq]
  by_cases h0 : l.length = 0
  · rw [if_pos (by omega), if_pos (.inl h0), j1t]
  · rw [if_neg (by omega), if_pos (by omega)]
    by_cases hk : (l.getD 0 default).Kind = 1
    · have hbs := has_eq builtins (by decide) (l.getD 0 default).Text
      have hbs : preref4_Has [[95, 95, 76, 73, 78, 69, 95, 95], [95, 95, 70, 73, 76, 69, 95, 95], [100, 101, 102, 105, 110, 101, 100]] (l.getD 0 default).Text = _ := hbs
      rw [if_neg (show ¬ (l.length = 0 ∨ (l.getD 0 default).Kind ≠ 1) from fun h => h.elim h0 (fun h => h hk)), decide_eq_true hk]
      simp only [preref4_Parse_j1, Bool.not_true, if_neg Bool.false_ne_true, hbs, Option.bind_some, ltI, eqS, decide_eq_true_eq]
      rw [if_pos (show 0 < l.length by omega)]
      by_cases hb : (l.getD 0 default).Text ∈ builtins
      · rw [if_pos hb, if_pos hb, at0]; rfl
      · rw [if_neg hb, if_neg hb, if_pos (show 0 < l.length by omega)]
        by_cases h1 : 1 < l.length
        · rw [if_pos (show (1 : Int) < (l.length : Int) by omega), if_pos h1]
          by_cases hp : (l.getD 1 default).Text = [40]
          · rw [if_pos hp, if_pos h1]
            cases hs : (l.getD 1 default).Space with
            | true => rw [if_neg (fun h => absurd h.2.2 (by decide)), Bool.not_true, j5f _ (by omega)]
            | false =>
              rw [if_pos ⟨h1, hp, rfl⟩, Bool.not_false]
              have e := rparams_loop l hl ho (l.length + 1) 2 [] false (by omega) (by omega) (by omega) (by simp) (.inl rfl)
              have e : loopO (preref4_Params_b1 l) ((2 : Int), [], false) = _ := e
              simp only [preref4_Parse_j9, if_true, preref4_Params, e, Option.bind_some]
              by_cases hr : (prmV l (l.length + 1) 2 [] false).2.1 = 0
              · obtain ⟨⟨k, h3, h4, h5⟩, h6⟩ := prmV_ok l (l.length + 1) 2 [] false (by omega) (by omega) (by simp) hr
                rw [if_neg (bi_neg hr), if_neg (fun h => h hr), h3, Int.toNat_natCast]
                exact j2 k _ true _ _ h5 h6
              · rw [if_pos (bi_pos hr), if_pos hr]; rfl
          · rw [if_neg hp, if_neg (fun h => hp h.2.1), j5f _ (by omega)]
        · rw [if_neg (show ¬ (1 : Int) < (l.length : Int) by omega), if_neg (fun h => h1 h.1), j5f _ (by omega)]
    · rw [if_pos (show l.length = 0 ∨ (l.getD 0 default).Kind ≠ 1 from .inr hk), decide_eq_false hk, Bool.not_false, j1t]
end Go.Proofs.Ytkhcecpbbmfcaaa
namespace Go.Proofs.Ytkhcecpbbmfcaaa
open Go.RowKit
theorem map_zip_eq {A B C : Type} [DecidableEq C] (f : A → C) (g : B → C) : ∀ (l : List A) (m : List B), l.length = m.length → ((l.zip m).all (fun z => decide (f z.1 = g z.2)) = true ↔ l.map f = m.map g)
  | [], [], _ => by simp
  | [], _ :: _, h => by simp at h
  | _ :: _, [], h => by simp at h
  | a :: l, b :: m, h => by
    have := map_zip_eq f g l m (by simpa using h)
    simp only [List.zip_cons_cons, List.all_cons, Bool.and_eq_true, decide_eq_true_eq, List.map_cons, List.cons.injEq]
    rw [this]
def key3 (t : Token) : Int × List UInt8 × Bool := (t.Kind, t.Text, t.Space)
def sameP (a b : Macro) : Prop := a.Name = b.Name ∧ a.Call = b.Call ∧ a.More = b.More ∧ a.Params = b.Params ∧ a.Body.map key3 = b.Body.map key3
instance (a b : Macro) : Decidable (sameP a b) := by unfold sameP; infer_instance
def sameV (a b : Macro) : Bool := decide (sameP a b)
theorem sameV_refl (a : Macro) : sameV a a = true := decide_eq_true ⟨rfl, rfl, rfl, rfl, rfl⟩
def smallM (m : Macro) : Prop := m.Params.length ≤ 1099511627776 ∧ m.Body.length ≤ 1099511627776
theorem equalS_eq (a b : List (List UInt8)) (ha : a.length ≤ 1099511627776) : slices_Equal_s_string_string a b = some (decide (a = b)) := by
  unfold slices_Equal_s_string_string
  by_cases h : a.length = b.length
  · rw [if_neg (bi_neg (by omega))]
    rw [both_loop a b h (fun x y => decide (x = y)) false true (fun j hj => ?_)]
    · have e := map_zip_eq id id a b h
      simp only [id_eq, List.map_id] at e
      congr 1
      by_cases hab : a = b
      · rw [if_pos (e.2 hab), decide_eq_true hab]
      · rw [if_neg (fun h => hab (e.1 h)), decide_eq_false hab]
    · simp only [slices_Equal_s_string_string_b1, ltI, eqS, decide_eq_true_eq, Int.toNat_natCast, inrO, wN1 j (by omega)]
      by_cases hj : j < a.length
      · rw [if_pos (by omega), if_pos (by omega), if_pos (by omega), if_pos hj]
        by_cases hq : a.getD j default = b.getD j default
        · rw [if_neg (bn_neg hq), if_pos hq]
        · rw [if_pos (bn_pos hq), if_neg hq]; rfl
      · rw [if_neg (by omega), if_neg hj]; rfl
  · rw [if_pos (bi_pos (by omega)), decide_eq_false (fun e => h (by rw [e]))]
theorem same1_eq (x y : Token) : macro_Same_1 x y = some (decide (key3 x = key3 y)) := by
  unfold macro_Same_1 key3
  simp only [macro_Same_1_j1, eqI, eqS, eqB, decide_eq_true_eq, Prod.mk.injEq]
  by_cases h1 : x.Kind = y.Kind <;> by_cases h2 : x.Text = y.Text <;> simp [h1, h2]
theorem equalF_eq (a b : List Token) (ha : a.length ≤ 1099511627776) : slices_EqualFunc_s_api_Token_s_api_Token_api_Token_api_Token a b = some (decide (a.map key3 = b.map key3)) := by
  unfold slices_EqualFunc_s_api_Token_s_api_Token_api_Token_api_Token
  by_cases h : a.length = b.length
  · rw [if_neg (bi_neg (by omega))]
    rw [both_loop a b h (fun x y => decide (key3 x = key3 y)) false true (fun j hj => ?_)]
    · have e := map_zip_eq key3 key3 a b h
      congr 1
      by_cases hab : a.map key3 = b.map key3
      · rw [if_pos (e.2 hab), decide_eq_true hab]
      · rw [if_neg (fun h => hab (e.1 h)), decide_eq_false hab]
    · simp only [slices_EqualFunc_s_api_Token_s_api_Token_api_Token_api_Token_b1, ltI, decide_eq_true_eq, Int.toNat_natCast, inrO, wN1 j (by omega), same1_eq, Option.bind_some]
      by_cases hj : j < a.length
      · rw [if_pos (by omega), if_pos (by omega), if_pos (by omega), if_pos hj]
        by_cases hq : key3 (a.getD j default) = key3 (b.getD j default)
        · rw [if_neg (bn_neg hq), if_pos hq]
        · rw [if_pos (bn_pos hq), if_neg hq]; rfl
      · rw [if_neg (by omega), if_neg hj]; rfl
  · rw [if_pos (bi_pos (by omega)), decide_eq_false (fun e => h (by have := congrArg List.length e; simpa using this))]
theorem msame_eq (a b : Macro) (ha : smallM a) : macro_Same a b = some (sameV a b) := by
  unfold macro_Same sameV
  simp only [equalS_eq _ _ ha.1, equalF_eq _ _ ha.2, Option.bind_some, macro_Same_j1, eqS, eqB, decide_eq_true_eq]
  by_cases h1 : a.Name = b.Name <;> by_cases h2 : a.Call = b.Call <;> by_cases h3 : a.More = b.More <;> by_cases h4 : a.Params = b.Params <;> simp [sameP, h1, h2, h3, h4]
theorem rsame_eq (a b : Macro) (ha : smallM a) : preref4_SameMacro a b = some (sameV a b) := by
  obtain ⟨ha1, ha2⟩ := ha
  unfold preref4_SameMacro
  have jt : preref4_SameMacro_j1 a b true = some false := by simp [preref4_SameMacro_j1]
  have sf : ¬ sameP a b → sameV a b = false := fun h => decide_eq_false h
  by_cases h1 : a.Name = b.Name
  case neg => rw [if_pos (show (!eqS a.Name b.Name) = true by simp [eqS, h1]), jt, sf (fun h => h1 h.1)]
  rw [if_neg (show ¬ (!eqS a.Name b.Name) = true by simp [eqS, h1])]
  by_cases h2 : a.Call = b.Call
  case neg => rw [if_pos (show (!eqB a.Call b.Call) = true by simp [eqB, h2]), jt, sf (fun h => h2 h.2.1)]
  rw [if_neg (show ¬ (!eqB a.Call b.Call) = true by simp [eqB, h2])]
  by_cases h3 : a.More = b.More
  case neg => rw [if_pos (show (!eqB a.More b.More) = true by simp [eqB, h3]), jt, sf (fun h => h3 h.2.2.1)]
  rw [if_neg (show ¬ (!eqB a.More b.More) = true by simp [eqB, h3])]
  by_cases h4 : a.Params.length = b.Params.length
  case neg => rw [if_pos (bi_pos (by omega)), jt, sf (fun h => h4 (by rw [h.2.2.2.1]))]
  rw [if_neg (bi_neg (by omega))]
  by_cases h5 : a.Body.length = b.Body.length
  case neg =>
    rw [show (!eqI (a.Body.length : Int) (b.Body.length : Int)) = true from bi_pos (by omega), jt, sf (fun h => h5 ?_)]
    have := congrArg List.length h.2.2.2.2
    simpa using this
  rw [show (!eqI (a.Body.length : Int) (b.Body.length : Int)) = false by simpa using bi_neg (a := (a.Body.length : Int)) (b := (b.Body.length : Int)) (by omega)]
  simp only [preref4_SameMacro_j1, if_neg Bool.false_ne_true]
  have e3 := both_loop (b := preref4_SameMacro_b3 a b) a.Body b.Body h5 (fun x y => decide (key3 x = key3 y)) false true (fun j hj => by
    by_cases hj : j < a.Body.length
    · rw [if_pos hj]
      simp only [preref4_SameMacro_b3, preref4_SameMacro_j4, preref4_SameMacro_j5, ltI, decide_eq_true_eq, Int.toNat_natCast, inrO, wN1 j (by omega)]
      rw [if_pos (by omega), if_pos (by omega), if_pos (by omega)]
      unfold key3
      simp only [Prod.mk.injEq]
      by_cases k1 : (a.Body.getD j default).Kind = (b.Body.getD j default).Kind
      · rw [if_neg (bi_neg k1)]
        by_cases k2 : (a.Body.getD j default).Text = (b.Body.getD j default).Text
        · rw [if_neg (show ¬ (!eqS (a.Body.getD j default).Text (b.Body.getD j default).Text) = true by rw [k2]; simp [eqS])]
          by_cases k3 : (a.Body.getD j default).Space = (b.Body.getD j default).Space
          · rw [if_neg (show ¬ (!eqB (a.Body.getD j default).Space (b.Body.getD j default).Space) = true by rw [k3]; simp [eqB]), if_pos ⟨k1, k2, k3⟩]
          · rw [if_pos (show (!eqB (a.Body.getD j default).Space (b.Body.getD j default).Space) = true by simpa [eqB, -List.getD_eq_getElem?_getD] using k3), if_neg (fun h => k3 h.2.2)]; rfl
        · rw [if_pos (show (!eqS (a.Body.getD j default).Text (b.Body.getD j default).Text) = true by simpa [eqS, -List.getD_eq_getElem?_getD] using k2), if_pos trivial, if_neg (fun h => k2 h.2.1)]; rfl
      · rw [if_pos (bi_pos k1), if_pos trivial, if_neg (fun h => k1 h.1)]; rfl
    · rw [if_neg hj]
      simp only [preref4_SameMacro_b3, ltI, decide_eq_true_eq, inrO]
      rw [if_neg (by omega)]; rfl)
  have e2 := both_loop (b := preref4_SameMacro_b2 a b) a.Params b.Params h4 (fun x y => decide (x = y)) false (if ((a.Body.zip b.Body).all fun z => decide (key3 z.1 = key3 z.2)) = true then true else false) (fun j hj => by
    by_cases hj : j < a.Params.length
    · rw [if_pos hj]
      simp only [preref4_SameMacro_b2, ltI, eqS, decide_eq_true_eq, Int.toNat_natCast, inrO, wN1 j (by omega)]
      rw [if_pos (by omega), if_pos (by omega), if_pos (by omega)]
      by_cases hq : a.Params.getD j default = b.Params.getD j default
      · rw [if_neg (bn_neg hq), if_pos hq]
      · rw [if_pos (bn_pos hq), if_neg hq]; rfl
    · rw [if_neg hj]
      simp only [preref4_SameMacro_b2, ltI, decide_eq_true_eq, inrO]
      rw [if_neg (by omega), e3]; rfl)
  rw [e2]
  congr 1
  have z1 := map_zip_eq id id a.Params b.Params h4
  simp only [id_eq, List.map_id] at z1
  have z2 := map_zip_eq key3 key3 a.Body b.Body h5
  unfold sameV sameP
  by_cases y1 : a.Params = b.Params
  · rw [if_pos (z1.2 y1)]
    by_cases y2 : a.Body.map key3 = b.Body.map key3
    · rw [if_pos (z2.2 y2)]; simp [h1, h2, h3, y1, y2]
    · rw [if_neg (fun h => y2 (z2.1 h))]; simp [h1, h2, h3, y1, y2]
  · rw [if_neg (fun h => y1 (z1.1 h))]; simp [y1]
theorem equal_refl (a : Macro) (ha : smallM a) (ht : ∀ t ∈ a.Body, smallT t) : preref4_Equal a a = some true := by
  unfold preref4_Equal
  rw [rsame_eq a a ha, sameV_refl]
  simp only [Option.bind_some, if_true, sameTokens_refl a.Body ha.2 ht, preref4_Equal_j1]
theorem equalMacros_refl (l : List Macro) (hl : l.length ≤ 1099511627776) (h : ∀ m ∈ l, smallM m ∧ ∀ t ∈ m.Body, smallT t) : preref4_EqualMacros l l = some true := by
  unfold preref4_EqualMacros
  rw [if_neg (bi_neg rfl)]
  rw [both_loop l l rfl (fun _ _ => true) false true (fun j hj => ?_)]
  · rw [if_pos]; simp
  · by_cases hj : j < l.length
    · rw [if_pos hj, if_pos rfl]
      simp only [preref4_EqualMacros_b1, ltI, decide_eq_true_eq, Int.toNat_natCast, wN1 j (by omega)]
      obtain ⟨h1, h2⟩ := h _ (getD_mem l j default hj)
      rw [if_pos (by omega), if_pos (by omega), if_pos (by omega), equal_refl _ h1 h2]
      rfl
    · rw [if_neg hj]
      simp only [preref4_EqualMacros_b1, ltI, decide_eq_true_eq, inrO]
      rw [if_neg (by omega)]; rfl
def findV (l : List Macro) (nm : List UInt8) : Int := if (l.any fun m => decide (m.Name = nm)) = true then (l.findIdx (fun m => decide (m.Name = nm)) : Nat) else -1
theorem mfind_eq (l : List Macro) (hl : l.length ≤ 1099511627776) (nm : List UInt8) : macro_Find l nm = some (findV l nm) := by
  unfold macro_Find slices_IndexFunc_s_api_Macro_api_Macro
  rw [findi_loop l (fun m => decide (m.Name = nm)) (fun j => (j : Int)) (-1) (fun j hj => ?_)]
  · rfl
  · simp only [slices_IndexFunc_s_api_Macro_api_Macro_b1, macro_Find_1, ltI, eqS, decide_eq_true_eq, Int.toNat_natCast, inrO, Option.map_some, Option.bind_some]
    by_cases h : j < l.length
    · rw [if_pos (by omega), if_pos (by omega), if_pos h, wN1 j (by omega)]
    · rw [if_neg (by omega), if_neg h]
theorem rfind_eq (l : List Macro) (hl : l.length ≤ 1099511627776) (nm : List UInt8) : preref4_Find l nm = some (findV l nm) := by
  unfold preref4_Find
  rw [findi_loop l (fun m => decide (m.Name = nm)) (fun j => (j : Int)) (-1) (fun j hj => ?_)]
  · rfl
  · simp only [preref4_Find_b1, ltI, eqS, decide_eq_true_eq, Int.toNat_natCast, inrO, Option.map_some]
    by_cases h : j < l.length
    · rw [if_pos (by omega), if_pos (by omega), if_pos h, wN1 j (by omega)]
    · rw [if_neg (by omega), if_neg h]
theorem findV_cases (l : List Macro) (nm : List UInt8) : (findV l nm = -1 ∧ ∀ m ∈ l, m.Name ≠ nm) ∨ ∃ k : Nat, findV l nm = (k : Int) ∧ k < l.length ∧ (l.getD k default).Name = nm := by
  unfold findV
  by_cases h : (l.any fun m => decide (m.Name = nm)) = true
  · rw [if_pos h]
    right
    have h1 : l.findIdx (fun m => decide (m.Name = nm)) < l.length := by rw [List.findIdx_lt_length]; simpa using h
    refine ⟨_, rfl, h1, ?_⟩
    have := List.findIdx_getElem (w := h1)
    rw [List.getD_eq_getElem?_getD, List.getElem?_eq_getElem h1]
    simpa using this
  · rw [if_neg h]
    left
    exact ⟨rfl, fun m hm e => h (List.any_eq_true.2 ⟨m, hm, decide_eq_true e⟩)⟩
def defineV (l : List Macro) (m : Macro) : List Macro × Int :=
  if 0 ≤ findV l m.Name then (if sameV (l.getD (findV l m.Name).toNat default) m = true then (l, 0) else ([], 7))
  else if 30 ≤ l.length then ([], 5) else (l ++ [m], 0)
theorem mdefine_eq (l : List Macro) (hl : l.length ≤ 30) (hs : ∀ x ∈ l, smallM x) (m : Macro) : macro_Define l m = some (defineV l m) := by
  unfold macro_Define defineV slices_Clone_s_api_Macro_api_Macro
  rw [mfind_eq l (by omega)]
  simp only [Option.bind_some, leI, decide_eq_true_eq]
  rw [if_pos (show l.length * 80 ≤ 140737488355328 by omega)]
  rcases findV_cases l m.Name with ⟨h, _⟩ | ⟨k, h, hk, _⟩
  · rw [h, if_neg (show ¬ (0 : Int) ≤ -1 by decide), if_neg (show ¬ (0 : Int) ≤ -1 by decide)]
    by_cases h30 : 30 ≤ l.length
    · rw [if_pos (by omega), if_pos h30]
    · rw [if_neg (by omega), if_neg h30]
      simp only [Option.bind_some]
      rw [if_pos (by simp only [List.length_cons, List.length_nil]; omega)]
  · rw [h, if_pos (by omega), if_pos (by omega), Int.toNat_natCast, if_pos (by omega), msame_eq _ _ (hs _ (getD_mem l k default hk))]
    simp only [Option.bind_some]
    cases hsv : sameV (l.getD k default) m <;> simp
theorem rdefine_eq (l : List Macro) (hl : l.length ≤ 30) (hs : ∀ x ∈ l, smallM x) (m : Macro) : preref4_Define l m = some (defineV l m) := by
  unfold preref4_Define defineV
  rw [rfind_eq l (by omega)]
  simp only [Option.bind_some, leI, decide_eq_true_eq]
  rcases findV_cases l m.Name with ⟨h, _⟩ | ⟨k, h, hk, _⟩
  · rw [h, if_neg (show ¬ (0 : Int) ≤ -1 by decide), if_neg (show ¬ (0 : Int) ≤ -1 by decide)]
    simp only [preref4_Define_j1, if_neg Bool.false_ne_true, leI, decide_eq_true_eq]
    rw [if_neg (show ¬ (0 : Int) ≤ -1 by decide)]
    by_cases h30 : 30 ≤ l.length
    · rw [if_pos (by omega), if_pos h30]
    · rw [if_neg (by omega), if_neg h30, if_pos (by omega), if_pos (by simp only [List.length_cons, List.length_nil]; omega)]
  · rw [h, if_pos (by omega), if_pos (by omega), Int.toNat_natCast, if_pos (by omega), rsame_eq _ _ (hs _ (getD_mem l k default hk))]
    simp only [Option.bind_some, preref4_Define_j1, leI, decide_eq_true_eq]
    cases hsv : sameV (l.getD k default) m <;> simp
theorem defineV_len (l : List Macro) (m : Macro) (hl : l.length ≤ 30) (h : (defineV l m).2 = 0) : (defineV l m).1.length ≤ 30 ∧ ∀ x ∈ (defineV l m).1, x ∈ l ∨ x = m := by
  revert h
  unfold defineV
  split
  · split
    · exact fun _ => ⟨hl, fun x hx => .inl hx⟩
    · exact fun h => absurd h (by decide)
  · split
    · exact fun h => absurd h (by decide)
    · exact fun _ => ⟨by simp; omega, fun x hx => by simpa using hx⟩
def undefV (l : List Macro) (nm : List UInt8) : List Macro := l.filter fun m => !decide (m.Name = nm)
theorem rundef_eq (l : List Macro) (hl : l.length ≤ 1099511627776) (nm : List UInt8) : preref4_Undef l nm = some (undefV l nm) := by
  have e := each_loop0 (b := preref4_Undef_b1 l nm) l (fun i s => ((l.length : Int), (i : Int), s)) (fun s m => .inl (if m.Name = nm then s else s ++ [m])) (fun s => s) (fun i s => s.length ≤ i) ?_ ?_ ?_ [] (by simp)
  · have key : ∀ (r s : List Macro), eachR (R := List Macro) (fun s m => .inl (if m.Name = nm then s else s ++ [m])) (fun s => s) s r = s ++ undefV r nm := by
      intro r
      induction r with
      | nil => intro s; simp [eachR, undefV]
      | cons m r ih =>
        intro s
        rw [eachR]
        simp only
        rw [ih]
        unfold undefV
        by_cases hm : m.Name = nm
        · rw [if_pos hm, List.filter_cons_of_neg (by simp [hm])]
        · rw [if_neg hm, List.filter_cons_of_pos (by simp [hm])]; simp
    rw [key, List.nil_append] at e
    exact e
  · intro i s hs hi
    simp only [preref4_Undef_b1, preref4_Undef_j2, ltI, eqS, decide_eq_true_eq, Int.toNat_natCast, wN1 i (by omega), nextS]
    rw [if_pos (by omega), if_pos (by omega)]
    by_cases hm : (l.getD i default).Name = nm
    · rw [if_neg (bn_neg hm), if_pos hm]
    · rw [if_pos (bn_pos hm), if_neg hm, if_pos (by simp only [List.length_cons, List.length_nil]; omega)]
  · intro i s s' hs hi h
    obtain rfl := Sum.inl.inj h
    split
    · omega
    · simp only [List.length_append, List.length_cons, List.length_nil]; omega
  · intro s hs
    simp only [preref4_Undef_b1, ltI, decide_eq_true_eq, inrO]
    rw [if_neg (by omega)]; rfl
end Go.Proofs.Ytkhcecpbbmfcaaa
namespace Go.Proofs.Ytkhcecpbbmfcaaa
open Go.RowKit
theorem del_loop (nm : List UInt8) : ∀ (n i j : Nat) (s : List Macro), i ≤ j → j ≤ s.length → s.length ≤ 1099511627776 → s.length - j ≤ n →
    loopO (slices_DeleteFunc_s_api_Macro_api_Macro_b1 nm) ((i : Int), (j : Int), s) = some (s.take i ++ undefV (s.drop j) nm)
  | 0, i, j, s, hij, hj, hs, hn => by
    have e : j = s.length := by omega
    rw [loopO_step]
    simp only [slices_DeleteFunc_s_api_Macro_api_Macro_b1, ltI, decide_eq_true_eq, inrO]
    rw [if_neg (by omega), if_pos (by omega), if_pos (by omega), Int.toNat_natCast, e, List.drop_length]
    simp [stepO, undefV]
  | n + 1, i, j, s, hij, hj, hs, hn => by
    by_cases h : j < s.length
    · rw [loopO_step]
      simp only [slices_DeleteFunc_s_api_Macro_api_Macro_b1, slices_DeleteFunc_s_api_Macro_api_Macro_j2, macro_Undef_1, ltI, eqS, decide_eq_true_eq, Int.toNat_natCast, Option.bind_some, wN1 i (by omega), wN1 j (by omega)]
      rw [if_pos (by omega), if_pos (by omega), if_pos (by omega), getD_drop s j default h]
      by_cases hm : (s.getD j default).Name = nm
      · rw [if_neg (bn_neg hm)]
        simp only [stepO]
        rw [del_loop nm n i (j + 1) s (by omega) (by omega) hs (by omega)]
        unfold undefV
        rw [List.filter_cons_of_neg (by simpa [-List.getD_eq_getElem?_getD] using hm)]
      · rw [if_pos (bn_pos hm), if_pos (by omega), if_pos (by omega)]
        simp only [stepO]
        rw [del_loop nm n (i + 1) (j + 1) (s.set i (s.getD j default)) (by omega) (by rw [List.length_set]; omega) (by rw [List.length_set]; omega) (by rw [List.length_set]; omega)]
        unfold undefV
        rw [List.filter_cons_of_pos (by simpa [-List.getD_eq_getElem?_getD] using hm), List.drop_set_of_lt (by omega), List.take_add_one, List.getElem?_set_self (by omega), List.take_set_of_le (by omega)]
        simp
    · exact del_loop nm 0 i j s hij hj hs (by omega)
theorem mundef_eq (l : List Macro) (hl : l.length ≤ 1048576) (nm : List UInt8) : macro_Undef l nm = some (undefV l nm) := by
  unfold macro_Undef slices_DeleteFunc_s_api_Macro_api_Macro slices_IndexFunc_s_api_Macro_api_Macro_v2 slices_Clone_s_api_Macro_api_Macro
  rw [if_pos (by omega)]
  have e := findi_loop (b := slices_IndexFunc_s_api_Macro_api_Macro_v2_b1 l nm) l (fun m => decide (m.Name = nm)) (fun j => (j : Int)) (-1) (fun j hj => by
    simp only [slices_IndexFunc_s_api_Macro_api_Macro_v2_b1, macro_Undef_1, ltI, eqS, decide_eq_true_eq, Int.toNat_natCast, inrO, Option.map_some, Option.bind_some]
    by_cases h : j < l.length
    · rw [if_pos (by omega), if_pos (by omega), if_pos (by omega), if_pos h, wN1 j (by omega)]
    · rw [if_neg (by omega), if_neg h])
  rw [e]
  simp only [Option.bind_some, eqI, decide_eq_true_eq]
  by_cases h : (l.any fun m => decide (m.Name = nm)) = true
  · rw [if_pos h, if_neg (by omega)]
    have h1 : l.findIdx (fun m => decide (m.Name = nm)) < l.length := by rw [List.findIdx_lt_length]; simpa using h
    obtain ⟨k, hk0⟩ : ∃ k, l.findIdx (fun m => decide (m.Name = nm)) = k := ⟨_, rfl⟩
    have hk : (l[k]'(by omega)).Name = nm := by
      have := List.findIdx_getElem (w := h1)
      simp only [hk0] at this
      simpa using this
    have hlt : ∀ j (hj : j < k), ¬ (l[j]'(by omega)).Name = nm := fun j hj => by
      have := List.not_of_lt_findIdx (show j < l.findIdx (fun m => decide (m.Name = nm)) by omega)
      simpa using this
    rw [hk0, wN1 k (by omega), del_loop nm _ k (k + 1) l (by omega) (by omega) (by omega) (Nat.le_refl _)]
    show some _ = some _
    congr 1
    conv => rhs; rw [← List.take_append_drop k l]
    unfold undefV
    rw [List.filter_append, List.drop_eq_getElem_cons (show k < l.length by omega), List.filter_cons_of_neg (by simpa using hk)]
    congr 1
    exact (List.filter_eq_self.2 fun m hm => by
      obtain ⟨j, hj, rfl⟩ := List.getElem_of_mem hm
      rw [List.length_take] at hj
      rw [List.getElem_take]
      simpa using hlt j (by omega)).symm
  · rw [if_neg h, if_pos rfl]
    show some l = some (undefV l nm)
    congr 1
    exact (List.filter_eq_self.2 fun m hm => by
      have : ¬ m.Name = nm := fun e => h (List.any_eq_true.2 ⟨m, hm, decide_eq_true e⟩)
      simpa using this).symm
def bothV (a b : List (List UInt8)) : List (List UInt8) := a.flatMap fun s => if s ∈ b then [s] else []
theorem mboth_eq (a b : List (List UInt8)) (ha : a.length ≤ 1099511627776) (hb : b.length ≤ 1099511627776) : macro_both a b = some (bothV a b) := by
  have e := each_loop0 (b := macro_both_b1 a b) a (fun i s => (s, (a.length : Int), (i : Int))) (fun s x => .inl (s ++ if x ∈ b then [x] else [])) (fun s => s) (fun i s => s.length ≤ i) ?_ ?_ ?_ [] (by simp)
  · rw [eachR_app, List.nil_append] at e
    exact e
  · intro i s hs hi
    simp only [macro_both_b1, macro_both_j2, ltI, decide_eq_true_eq, Int.toNat_natCast, wN1 i (by omega), nextS, contains_eq _ hb, Option.bind_some]
    rw [if_pos (by omega), if_pos (by omega)]
    by_cases h : a.getD i default ∈ b
    · rw [if_pos h, if_pos h, if_pos (by simp only [List.length_cons, List.length_nil]; omega)]
    · rw [if_neg h, if_neg h, List.append_nil]
  · intro i s s' hs hi h
    obtain rfl := Sum.inl.inj h
    rw [List.length_append]
    split
    · simp; omega
    · simp; omega
  · intro s hs
    simp only [macro_both_b1, ltI, decide_eq_true_eq, inrO]
    rw [if_neg (by omega)]; rfl
def tok0 : Token := ⟨0, [], false, false, 0, 0, 0, 0, [], [], 0⟩
def pasteR (r : List Token × Fault) (a b : Token) : Token × Bool :=
  if r.2.Err = 0 ∧ r.1.length = 1 ∧ (r.1.getD 0 default).Text = a.Text ++ b.Text then
    (⟨(r.1.getD 0 default).Kind, a.Text ++ b.Text, a.Space, a.First, a.File, a.At, a.End, a.Line, bothV a.Hide b.Hide, a.Calls, 1⟩, true) else (tok0, false)
def pasteV (a b : Token) : Token × Bool := pasteR (toksV 0 (a.Text ++ b.Text)) a b
theorem mpaste_eq (a b : Token) (ht : a.Text.length + b.Text.length ≤ 1099511627776) (ha : a.Hide.length ≤ 1099511627776) (hb : b.Hide.length ≤ 1099511627776) : macro_Paste a b = some (pasteV a b) := by
  unfold macro_Paste pasteV
  have jt : ∀ r, macro_Paste_j1 a b r (true, []) = some (tok0, false) := fun r => by simp [macro_Paste_j1, tok0]
  rw [if_pos (by omega), ltokens_eq _ _ (by rw [List.length_append]; omega)]
  simp only [Option.bind_some]
  generalize toksV 0 (a.Text ++ b.Text) = r
  unfold pasteR
  by_cases h1 : r.2.Err = 0
  · rw [if_neg (bi_neg h1)]
    by_cases h2 : r.1.length = 1
    · rw [if_neg (bi_neg (by omega)), if_pos (by omega), if_pos (by omega)]
      by_cases h3 : (r.1.getD 0 default).Text = a.Text ++ b.Text
      · rw [if_pos ⟨h1, h2, h3⟩, show (!eqS (r.1.getD 0 default).Text (a.Text ++ b.Text)) = false by rw [h3]; simp [eqS]]
        simp only [macro_Paste_j1, if_neg Bool.false_ne_true]
        rw [if_pos (by omega), if_pos (by omega), mboth_eq _ _ ha hb, h3]
        rfl
      · rw [if_neg (fun h => h3 h.2.2), show (!eqS (r.1.getD 0 default).Text (a.Text ++ b.Text)) = true by simpa [eqS, -List.getD_eq_getElem?_getD] using h3, jt]
    · rw [if_pos (bi_pos (by omega)), if_neg (fun h => h2 h.2.1), jt]
  · rw [if_pos (bi_pos h1), if_neg (fun h => h1 h.1), jt]
theorem rpaste_eq (a b : Token) (ht : a.Text.length + b.Text.length ≤ 1099511627776) (ha : a.Hide.length ≤ 1099511627776) (hb : b.Hide.length ≤ 1099511627776) : preref4_Paste a b = some (pasteV a b) := by
  unfold preref4_Paste pasteV
  have jt : ∀ r, preref4_Paste_j1 a b r (true, []) = some (tok0, false) := fun r => by simp [preref4_Paste_j1, tok0]
  rw [if_pos (by omega), rtokens_eq _ _ (by rw [List.length_append]; omega)]
  simp only [Option.bind_some]
  generalize toksV 0 (a.Text ++ b.Text) = r
  unfold pasteR
  by_cases h1 : r.2.Err = 0
  · rw [if_neg (bi_neg h1)]
    by_cases h2 : r.1.length = 1
    · rw [if_neg (bi_neg (by omega)), if_pos (by omega), if_pos (by omega)]
      by_cases h3 : (r.1.getD 0 default).Text = a.Text ++ b.Text
      · rw [if_pos ⟨h1, h2, h3⟩, show (!eqS (r.1.getD 0 default).Text (a.Text ++ b.Text)) = false by rw [h3]; simp [eqS]]
        simp only [preref4_Paste_j1, if_neg Bool.false_ne_true]
        have e := each_loop0 (b := preref4_Paste_b2 a b r) a.Hide (fun i s => (s, (a.Hide.length : Int), (i : Int))) (fun s x => .inl (s ++ if x ∈ b.Hide then [x] else []))
          (fun s => ((⟨(r.1.getD 0 default).Kind, a.Text ++ b.Text, a.Space, a.First, a.File, a.At, a.End, a.Line, s, a.Calls, 1⟩ : Token), true)) (fun i s => s.length ≤ i) ?_ ?_ ?_ [] (by simp)
        · rw [eachR_app, List.nil_append] at e
          exact e
        · intro i s hs hi
          simp only [preref4_Paste_b2, preref4_Paste_j3, ltI, decide_eq_true_eq, Int.toNat_natCast, wN1 i (by omega), nextS, has_eq _ hb, Option.bind_some]
          rw [if_pos (by omega), if_pos (by omega)]
          by_cases h : a.Hide.getD i default ∈ b.Hide
          · rw [if_pos h, if_pos h, if_pos (by simp only [List.length_cons, List.length_nil]; omega)]
          · rw [if_neg h, if_neg h, List.append_nil]
        · intro i s s' hs hi h
          obtain rfl := Sum.inl.inj h
          rw [List.length_append]
          split
          · simp; omega
          · simp; omega
        · intro s hs
          simp only [preref4_Paste_b2, ltI, decide_eq_true_eq, inrO]
          rw [if_neg (by omega), if_pos (by omega), if_pos (by omega)]; rfl
      · rw [if_neg (fun h => h3 h.2.2), show (!eqS (r.1.getD 0 default).Text (a.Text ++ b.Text)) = true by simpa [eqS, -List.getD_eq_getElem?_getD] using h3, jt]
    · rw [if_pos (bi_pos (by omega)), if_neg (fun h => h2 h.2.1), jt]
  · rw [if_pos (bi_pos h1), if_neg (fun h => h1 h.1), jt]
end Go.Proofs.Ytkhcecpbbmfcaaa
namespace Go.Proofs.Ytkhcecpbbmfcaaa
open Go.RowKit
def quoC (kind : Int) (c : UInt8) : List UInt8 := if (kind = 4 ∨ kind = 3) ∧ (c = 34 ∨ c = 92) then [92, c] else [c]
def quoT (t : Token) : List UInt8 := t.Text.flatMap (quoC t.Kind)
def quoG (k : Nat) (t : Token) : List UInt8 := (if 0 < k ∧ t.Space = true then [32] else []) ++ quoT t
def quoL : List Token → List UInt8
  | [] => []
  | t :: r => quoT t ++ r.flatMap (quoG 1)
def quoteR (by' : Token) (s : List UInt8) : Token := ⟨4, s ++ [34], by'.Space, by'.First, by'.File, by'.At, by'.End, by'.Line, by'.Hide, by'.Calls, 2⟩
def quoteV (l : List Token) (by' : Token) : Token := quoteR by' ([34] ++ quoL l)
theorem quoC_le (kind : Int) (c : UInt8) : (quoC kind c).length ≤ 2 := by unfold quoC; split <;> simp
theorem quoT_le (t : Token) : (quoT t).length ≤ 2 * t.Text.length := by
  unfold quoT
  induction t.Text with
  | nil => simp
  | cons c r ih =>
    have := quoC_le t.Kind c
    rw [List.flatMap_cons, List.length_append, List.length_cons]; omega
theorem quoG_le (k : Nat) (t : Token) : (quoG k t).length ≤ 1 + 2 * t.Text.length := by
  have := quoT_le t
  unfold quoG
  rw [List.length_append]
  split <;> simp <;> omega
theorem wbyte (c : UInt8) (b : Bool) (s : List UInt8) (h : s.length + 1 ≤ 140737488355328) : strings_Builder_WriteByte c b s = some (s ++ [c]) := by
  simp only [strings_Builder_WriteByte, strings_Builder_copyCheck, Option.bind_some]
  rw [if_pos h]
theorem mquo_inner (x1 x2 : Int) (x3 : List UInt8) (kind : Int) (text s : List UInt8) (ht : text.length ≤ 1048576) (hs : s.length ≤ 70368744177664) :
    loopO (macro_Quote_b3 x1 x2 x3 kind text) ((text.length : Int), 0, s) = some (.inl (x1, IntKind.i64.wrap (x2 + 1), x3, s ++ text.flatMap (quoC kind))) := by
  have e := each_loop0 (b := macro_Quote_b3 x1 x2 x3 kind text) text (fun i s => ((text.length : Int), (i : Int), s)) (fun s c => .inl (s ++ quoC kind c)) (fun s => .inl (x1, IntKind.i64.wrap (x2 + 1), x3, s))
    (fun i r => r.length ≤ s.length + 2 * i) ?_ ?_ ?_ s (by omega)
  · rw [eachR_app] at e
    exact e
  · intro i r hr hi
    have w1 := fun c => wbyte c true r (by omega)
    have w2 : strings_Builder_WriteByte (text.getD i default) true (r ++ [92]) = some (r ++ [92] ++ [text.getD i default]) := wbyte _ _ _ (by rw [List.length_append]; simp only [List.length_cons, List.length_nil]; omega)
    simp only [macro_Quote_b3, macro_Quote_j4, macro_Quote_j5, ltI, eqI, decide_eq_true_eq, Int.toNat_natCast, wN1 i (by omega), nextS, quoC]
    rw [if_pos (by omega), if_pos (by omega)]
    have c34 : ((text.getD i default).toNat : Int) = 34 ↔ text.getD i default = 34 := u8i _ 34 (by decide)
    have c92 : ((text.getD i default).toNat : Int) = 92 ↔ text.getD i default = 92 := u8i _ 92 (by decide)
    simp only [c34, c92]
    by_cases h34 : text.getD i default = 34
    · by_cases hk4 : kind = 4
      · rw [if_pos hk4, if_pos h34, if_pos trivial, if_pos (show (kind = 4 ∨ kind = 3) ∧ (text.getD i default = 34 ∨ text.getD i default = 92) from ⟨.inl hk4, .inl h34⟩), w1]
        simp only [Option.bind_some]
        rw [w2, List.append_assoc]; rfl
      · rw [if_neg hk4]
        by_cases hk3 : kind = 3
        · rw [if_pos hk3, if_pos h34, if_pos trivial, if_pos (show (kind = 4 ∨ kind = 3) ∧ (text.getD i default = 34 ∨ text.getD i default = 92) from ⟨.inr hk3, .inl h34⟩), w1]
          simp only [Option.bind_some]
          rw [w2, List.append_assoc]; rfl
        · rw [if_neg hk3, if_neg Bool.false_ne_true, if_neg (show ¬ ((kind = 4 ∨ kind = 3) ∧ (text.getD i default = 34 ∨ text.getD i default = 92)) from fun h => h.1.elim hk4 hk3), w1]; rfl
    · by_cases h92 : text.getD i default = 92
      · by_cases hk4 : kind = 4
        · rw [if_pos hk4, if_neg h34, if_pos h92, if_pos (show (kind = 4 ∨ kind = 3) ∧ (text.getD i default = 34 ∨ text.getD i default = 92) from ⟨.inl hk4, .inr h92⟩), w1]
          simp only [Option.bind_some]
          rw [w2, List.append_assoc]; rfl
        · rw [if_neg hk4]
          by_cases hk3 : kind = 3
          · rw [if_pos hk3, if_neg h34, if_pos h92, if_pos (show (kind = 4 ∨ kind = 3) ∧ (text.getD i default = 34 ∨ text.getD i default = 92) from ⟨.inr hk3, .inr h92⟩), w1]
            simp only [Option.bind_some]
            rw [w2, List.append_assoc]; rfl
          · rw [if_neg hk3, if_neg Bool.false_ne_true, if_neg (show ¬ ((kind = 4 ∨ kind = 3) ∧ (text.getD i default = 34 ∨ text.getD i default = 92)) from fun h => h.1.elim hk4 hk3), w1]; rfl
      · have hn : ¬ ((kind = 4 ∨ kind = 3) ∧ (text.getD i default = 34 ∨ text.getD i default = 92)) := fun h => h.2.elim h34 h92
        rw [if_neg hn, if_neg h34, if_neg h92, if_neg Bool.false_ne_true, ite_self, ite_self, w1]
        rfl
  · intro i r r' hr hi h
    obtain rfl := Sum.inl.inj h
    have := quoC_le kind (text.getD i default)
    rw [List.length_append]; omega
  · intro r hr
    simp only [macro_Quote_b3, ltI, decide_eq_true_eq, inrO]
    rw [if_neg (by omega)]; rfl
theorem quoG_all {R : Type} (fin : Nat × List UInt8 → R) : ∀ (l : List Token) (k : Nat) (s : List UInt8), 0 < k → eachR (fun (s : Nat × List UInt8) t => (.inl (s.1 + 1, s.2 ++ quoG s.1 t) : (Nat × List UInt8) ⊕ R)) fin (k, s) l = fin (k + l.length, s ++ l.flatMap (quoG 1))
  | [], k, s, _ => by simp [eachR]
  | t :: l, k, s, h => by
    rw [eachR]
    simp only
    rw [quoG_all fin l _ _ (by omega), List.flatMap_cons, List.append_assoc]
    have e : quoG k t = quoG 1 t := by unfold quoG; simp [h]
    rw [e]
    congr 2
    simp; omega
theorem quoG_eq {R : Type} (fin : List UInt8 → R) (l : List Token) (s : List UInt8) : eachR (fun (s : Nat × List UInt8) t => (.inl (s.1 + 1, s.2 ++ quoG s.1 t) : (Nat × List UInt8) ⊕ R)) (fun s => fin s.2) (0, s) l = fin (s ++ quoL l) := by
  cases l with
  | nil => simp [eachR, quoL]
  | cons t l =>
    rw [eachR]
    simp only
    rw [quoG_all _ l _ _ (by omega)]
    simp only [quoL, quoG, List.append_assoc]
    simp
theorem mquote_eq (l : List Token) (hl : l.length ≤ 1048576) (ht : ∀ t ∈ l, t.Text.length ≤ 1048576) (by' : Token) : macro_Quote l by' = some (quoteV l by') := by
  unfold macro_Quote
  rw [wbyte _ _ _ (by simp)]
  simp only [Option.bind_some, List.nil_append]
  have e := each_loop0 (b := macro_Quote_b1 l by') l (fun i (s : Nat × List UInt8) => ((l.length : Int), (i : Int), ([] : List UInt8), s.2)) (fun s t => .inl (s.1 + 1, s.2 ++ quoG s.1 t)) (fun s => quoteR by' s.2)
    (fun i s => s.1 = i ∧ s.2.length ≤ 1 + i * 2097153) ?_ ?_ ?_ (0, [34]) ⟨rfl, by simp⟩
  · rw [quoG_eq] at e
    exact e
  · rintro i ⟨k, s⟩ ⟨rfl, hs⟩ hi
    have hti := ht _ (getD_mem l k default hi)
    simp only at hs
    simp only [macro_Quote_b1, macro_Quote_j2, macro_Quote_j6, ltI, decide_eq_true_eq, Int.toNat_natCast, nextS]
    rw [if_pos (by omega), if_pos (by omega)]
    by_cases h0 : 0 < k
    · rw [if_pos (by omega)]
      by_cases hsp : (l.getD k default).Space = true
      · rw [if_pos hsp, wbyte _ _ _ (by omega)]
        simp only [Option.bind_some]
        rw [mquo_inner _ _ _ _ _ _ hti (by rw [List.length_append]; simp only [List.length_cons, List.length_nil]; omega), wN1 k (by omega)]
        unfold quoG quoT
        rw [if_pos ⟨h0, hsp⟩, List.append_assoc]
      · rw [if_neg hsp, mquo_inner _ _ _ _ _ _ hti (by omega), wN1 k (by omega)]
        unfold quoG quoT
        rw [if_neg (fun h => hsp h.2), List.nil_append]
    · rw [if_neg (by omega), if_neg Bool.false_ne_true, mquo_inner _ _ _ _ _ _ hti (by omega), wN1 k (by omega)]
      unfold quoG quoT
      rw [if_neg (fun h => h0 h.1), List.nil_append]
  · rintro i ⟨k, s⟩ s' ⟨rfl, hs⟩ hi h
    obtain rfl := Sum.inl.inj h
    have hti := ht _ (getD_mem l k default hi)
    have := quoG_le k (l.getD k default)
    refine ⟨rfl, ?_⟩
    simp only at hs ⊢
    rw [List.length_append]; omega
  · rintro ⟨k, s⟩ ⟨rfl, hs⟩
    simp only at hs
    simp only [macro_Quote_b1, ltI, decide_eq_true_eq, inrO]
    rw [if_neg (by omega), wbyte _ _ _ (by omega)]
    simp only [Option.bind_some, strings_Builder_String]
    rw [if_neg (by simp)]
    rfl
theorem rquo_inner (x2 x3 : Int) (x4 : List UInt8) (kind : Int) (text s : List UInt8) (ht : text.length ≤ 1048576) (hs : s.length ≤ 70368744177664) :
    loopO (preref4_Quote_b3 x2 x3 x4 kind text) (s, (text.length : Int), 0) = some (.inl (s ++ text.flatMap (quoC kind), x2, IntKind.i64.wrap (x3 + 1), x4)) := by
  have e := each_loop0 (b := preref4_Quote_b3 x2 x3 x4 kind text) text (fun i s => (s, (text.length : Int), (i : Int))) (fun s c => .inl (s ++ quoC kind c)) (fun s => .inl (s, x2, IntKind.i64.wrap (x3 + 1), x4))
    (fun i r => r.length ≤ s.length + 2 * i) ?_ ?_ ?_ s (by omega)
  · rw [eachR_app] at e
    exact e
  · intro i r hr hi
    have ht1 : List.take ((i + 1) - i) (List.drop i text) = [text.getD i default] := by
      rw [getD_drop text i default hi, show i + 1 - i = 1 by omega]; rfl
    simp only [preref4_Quote_b3, preref4_Quote_j4, preref4_Quote_j5, ltI, eqI, eqS, decide_eq_true_eq, Int.toNat_natCast, wN1 i (by omega), nextS, quoC, ht1, List.cons.injEq, and_true, List.length_cons, List.length_nil, List.length_append]
    rw [if_pos (by omega), if_pos (by omega)]
    have g1 : r.length + (0 + 1) ≤ 9223372036854775807 := by omega
    have g2 : r.length + ((0 + 1) + (0 + 1)) ≤ 9223372036854775807 := by omega
    have g3 : 1 + (0 + 1) ≤ 9223372036854775807 := by omega
    by_cases h34 : text.getD i default = 34
    · rw [if_pos h34]
      by_cases hk4 : kind = 4
      · rw [if_pos hk4, if_pos trivial, if_pos g3, if_pos g2, if_pos (show (kind = 4 ∨ kind = 3) ∧ (text.getD i default = 34 ∨ text.getD i default = 92) from ⟨.inl hk4, .inl h34⟩)]; rfl
      · rw [if_neg hk4]
        by_cases hk3 : kind = 3
        · rw [if_pos hk3, if_pos g3, if_pos g2, if_pos (show (kind = 4 ∨ kind = 3) ∧ (text.getD i default = 34 ∨ text.getD i default = 92) from ⟨.inr hk3, .inl h34⟩)]; rfl
        · rw [if_neg hk3, if_pos g1, if_neg (show ¬ ((kind = 4 ∨ kind = 3) ∧ (text.getD i default = 34 ∨ text.getD i default = 92)) from fun h => h.1.elim hk4 hk3)]
    · rw [if_neg h34]
      by_cases h92 : text.getD i default = 92
      · rw [if_pos h92]
        by_cases hk4 : kind = 4
        · rw [if_pos hk4, if_pos trivial, if_pos g3, if_pos g2, if_pos (show (kind = 4 ∨ kind = 3) ∧ (text.getD i default = 34 ∨ text.getD i default = 92) from ⟨.inl hk4, .inr h92⟩)]; rfl
        · rw [if_neg hk4]
          by_cases hk3 : kind = 3
          · rw [if_pos hk3, if_pos g3, if_pos g2, if_pos (show (kind = 4 ∨ kind = 3) ∧ (text.getD i default = 34 ∨ text.getD i default = 92) from ⟨.inr hk3, .inr h92⟩)]; rfl
          · rw [if_neg hk3, if_pos g1, if_neg (show ¬ ((kind = 4 ∨ kind = 3) ∧ (text.getD i default = 34 ∨ text.getD i default = 92)) from fun h => h.1.elim hk4 hk3)]
      · rw [if_neg h92, if_neg Bool.false_ne_true, if_pos g1, if_neg (show ¬ ((kind = 4 ∨ kind = 3) ∧ (text.getD i default = 34 ∨ text.getD i default = 92)) from fun h => h.2.elim h34 h92)]
  · intro i r r' hr hi h
    obtain rfl := Sum.inl.inj h
    have := quoC_le kind (text.getD i default)
    rw [List.length_append]; omega
  · intro r hr
    simp only [preref4_Quote_b3, ltI, decide_eq_true_eq, inrO]
    rw [if_neg (by omega)]; rfl
theorem rquote_eq (l : List Token) (hl : l.length ≤ 1048576) (ht : ∀ t ∈ l, t.Text.length ≤ 1048576) (by' : Token) : preref4_Quote l by' = some (quoteV l by') := by
  unfold preref4_Quote
  have e := each_loop0 (b := preref4_Quote_b1 l by') l (fun i (s : Nat × List UInt8) => (s.2, (l.length : Int), (i : Int), ([] : List UInt8))) (fun s t => .inl (s.1 + 1, s.2 ++ quoG s.1 t)) (fun s => quoteR by' s.2)
    (fun i s => s.1 = i ∧ s.2.length ≤ 1 + i * 2097153) ?_ ?_ ?_ (0, [34]) ⟨rfl, by simp⟩
  · rw [quoG_eq] at e
    exact e
  · rintro i ⟨k, s⟩ ⟨rfl, hs⟩ hi
    have hti := ht _ (getD_mem l k default hi)
    simp only at hs
    simp only [preref4_Quote_b1, preref4_Quote_j2, preref4_Quote_j6, ltI, decide_eq_true_eq, Int.toNat_natCast, nextS]
    rw [if_pos (by omega), if_pos (by omega)]
    by_cases h0 : 0 < k
    · rw [if_pos (by omega)]
      by_cases hsp : (l.getD k default).Space = true
      · rw [if_pos hsp, if_pos (by omega), rquo_inner _ _ _ _ _ _ hti (by rw [List.length_append]; simp only [List.length_cons, List.length_nil]; omega), wN1 k (by omega)]
        unfold quoG quoT
        rw [if_pos ⟨h0, hsp⟩, List.append_assoc]
      · rw [if_neg hsp, rquo_inner _ _ _ _ _ _ hti (by omega), wN1 k (by omega)]
        unfold quoG quoT
        rw [if_neg (fun h => hsp h.2), List.nil_append]
    · rw [if_neg (by omega), if_neg Bool.false_ne_true, rquo_inner _ _ _ _ _ _ hti (by omega), wN1 k (by omega)]
      unfold quoG quoT
      rw [if_neg (fun h => h0 h.1), List.nil_append]
  · rintro i ⟨k, s⟩ s' ⟨rfl, hs⟩ hi h
    obtain rfl := Sum.inl.inj h
    have hti := ht _ (getD_mem l k default hi)
    have := quoG_le k (l.getD k default)
    refine ⟨rfl, ?_⟩
    simp only at hs ⊢
    rw [List.length_append]; omega
  · rintro ⟨k, s⟩ ⟨rfl, hs⟩
    simp only at hs
    simp only [preref4_Quote_b1, ltI, decide_eq_true_eq, inrO]
    rw [if_neg (by omega), if_pos (by omega)]
    rfl
end Go.Proofs.Ytkhcecpbbmfcaaa
namespace Go.Proofs.Ytkhcecpbbmfcaaa
open Go.RowKit
theorem toks_eq (s : List UInt8) (h : s.length ≤ 1099511627776) : prelaw5_toks s = some (toksV 0 s).1 := by
  unfold prelaw5_toks
  rw [rtokens_eq 0 s h]; rfl
def goodM (m : Macro) : Prop := m.Params.length ≤ 6 ∧ m.Body.length ≤ 60 ∧ ∀ t ∈ m.Body, t.Hide = [] ∧ t.Calls = []
theorem goodM.small {m : Macro} (h : goodM m) : smallM m := ⟨by have := h.1; omega, by have := h.2.1; omega⟩
theorem goodM.toks {m : Macro} (h : goodM m) : ∀ t ∈ m.Body, smallT t := fun t ht => by
  obtain ⟨h1, h2⟩ := h.2.2 t ht
  exact ⟨by rw [h1]; simp, by rw [h2]; simp⟩
theorem bodyL_len (l : List Token) : (bodyL l).length = l.length := by cases l <;> simp [bodyL]
theorem bodyL_mem {l : List Token} {t : Token} (h : t ∈ bodyL l) : ∃ sp x, x ∈ l ∧ t = bodyT sp x := by
  cases l with
  | nil => simp [bodyL] at h
  | cons a l =>
    rcases List.mem_cons.1 h with rfl | h
    · exact ⟨false, a, by simp, rfl⟩
    · obtain ⟨x, hx, rfl⟩ := List.mem_map.1 h
      exact ⟨true, x, by simp [hx], rfl⟩
theorem mac0_good : goodM mac0 := ⟨by simp [mac0], by simp [mac0], by simp [mac0]⟩
theorem restV_good (l : List Token) (k : Nat) (nm : List UInt8) (call : Bool) (ps : List (List UInt8)) (more : Bool) (hp : ps.length ≤ 6) : goodM (restV l k nm call ps more).1 := by
  unfold restV
  split
  · exact mac0_good
  · unfold bodyR
    split
    · exact mac0_good
    · refine ⟨hp, ?_, fun t ht => ?_⟩
      · show (bodyL (l.drop k)).length ≤ 60
        rw [bodyL_len, List.length_drop]; omega
      · obtain ⟨sp, x, _, rfl⟩ := bodyL_mem ht
        exact ⟨rfl, rfl⟩
theorem parseV_good (l : List Token) : goodM (parseV l).1 := by
  unfold parseV
  split
  · exact mac0_good
  split
  · exact mac0_good
  split
  · rename_i h
    split
    · exact mac0_good
    · rename_i hr
      exact restV_good _ _ _ _ _ _ (prmV_ok l (l.length + 1) 2 [] false (by omega) (by omega) (by simp) (Decidable.not_not.1 hr)).2
  · exact restV_good _ _ _ _ _ _ (by simp)
theorem macroTells_eq (defs : List (List UInt8)) (s a b : List UInt8) (hn : defs.length ≤ 1048576) (hd : ∀ d ∈ defs, d.length ≤ 1048576) (hs : s.length ≤ 1048576) (ha : a.length ≤ 1048576) (hb : b.length ≤ 1048576) :
    prelaw5_MacroTells defs s a b = some true := by
  have j6 : prelaw5_MacroTells_j6 defs s a b false = some true := by
    obtain ⟨h1, h2, _⟩ := toksV_small 0 s
    have hq := fun by' => mquote_eq (toksV 0 s).1 (by omega) (fun t ht => by have := (h2 t ht).1; omega) by'
    have hq' := fun by' => rquote_eq (toksV 0 s).1 (by omega) (fun t ht => by have := (h2 t ht).1; omega) by'
    simp only [prelaw5_MacroTells_j6, if_neg Bool.false_ne_true, toks_eq s (by omega), Option.bind_some, hq, hq']
    rw [sameToken_refl (quoteV _ _) ⟨by simp [quoteV, quoteR], by simp [quoteV, quoteR]⟩]
    simp only [Option.bind_some, Bool.not_true, if_neg Bool.false_ne_true]
    rw [mpaste_eq _ _ (by simp only; omega) (by simp only; omega) (by simp), rpaste_eq _ _ (by simp only; omega) (by simp only; omega) (by simp)]
    simp only [Option.bind_some]
    rw [if_pos (by simp [eqB]), sameToken_refl]
    · rfl
    · unfold pasteV pasteR
      split
      · refine ⟨?_, by simp⟩
        have : ∀ (x y : List (List UInt8)), (bothV x y).length ≤ x.length := fun x y => by
          unfold bothV
          induction x with
          | nil => simp
          | cons c x ih =>
            rw [List.flatMap_cons, List.length_append, List.length_cons]
            split <;> simp only [List.length_cons, List.length_nil] <;> omega
        have := this defs [a]
        simp only
        omega
      · exact ⟨by simp [tok0], by simp [tok0]⟩
  unfold prelaw5_MacroTells
  have e := each_loop0 (b := prelaw5_MacroTells_b1 defs s a b) defs (fun i (M : List Macro) => (M, M, (defs.length : Int), (i : Int)))
    (fun M d => .inl (if (parseV (toksV 0 d).1).2.Err ≠ 0 then M else if (defineV M (parseV (toksV 0 d).1).1).2 = 0 then (defineV M (parseV (toksV 0 d).1).1).1 else M))
    (fun _ => true) (fun _ M => M.length ≤ 30 ∧ ∀ m ∈ M, goodM m) ?_ ?_ ?_ [] ⟨by simp, by simp⟩
  · rw [show ((0 : Nat) : Int) = 0 from rfl] at e
    rw [e]
    congr 1
    have : ∀ (l : List (List UInt8)) (M : List Macro), eachR (R := Bool) (fun M d => .inl (if (parseV (toksV 0 d).1).2.Err ≠ 0 then M else if (defineV M (parseV (toksV 0 d).1).1).2 = 0 then (defineV M (parseV (toksV 0 d).1).1).1 else M)) (fun _ => true) M l = true := by
      intro l
      induction l with
      | nil => intro M; rfl
      | cons d l ih => intro M; rw [eachR]; exact ih _
    exact this _ _
  · rintro i M ⟨hM, hg⟩ hi
    have hdi := hd _ (getD_mem defs i default hi)
    obtain ⟨h1, h2, _⟩ := toksV_small 0 (defs.getD i default)
    have hp := mparse_eq (toksV 0 (defs.getD i default)).1 (by omega)
    have hp' := rparse_eq (toksV 0 (defs.getD i default)).1 (by omega) (toks_nameOk _ _)
    have hgood := parseV_good (toksV 0 (defs.getD i default)).1
    simp only [prelaw5_MacroTells_b1, ltI, decide_eq_true_eq, Int.toNat_natCast, toks_eq _ (show (defs.getD i default).length ≤ 1099511627776 by omega), hp, hp', Option.bind_some, nextS]
    rw [if_pos (by omega), if_pos (by omega)]
    generalize parseV (toksV 0 (defs.getD i default)).1 = z at *
    rw [if_neg (by simp [eqI]), equal_refl _ hgood.small hgood.toks]
    simp only [Option.bind_some, Bool.not_true, prelaw5_MacroTells_j3, if_neg Bool.false_ne_true, prelaw5_MacroTells_j2, wN1 i (by omega)]
    by_cases hz : z.2.Err = 0
    · rw [if_neg (bi_neg hz), if_neg (fun h => h hz)]
      have hdef := mdefine_eq M hM (fun x hx => (hg x hx).small) z.1
      have hdef' := rdefine_eq M hM (fun x hx => (hg x hx).small) z.1
      have hdl := defineV_len M z.1 hM
      have hsame : preref4_EqualMacros (defineV M z.1).1 (defineV M z.1).1 = some true := by
        refine equalMacros_refl _ ?_ fun m hm => ?_
        · unfold defineV; split; split <;> simp; omega; split <;> simp; omega
        · have : goodM m := by
            unfold defineV at hm
            split at hm
            · split at hm
              · exact hg m hm
              · simp at hm
            · split at hm
              · simp at hm
              · rcases List.mem_append.1 hm with h | h
                · exact hg m h
                · rw [List.mem_singleton] at h; exact h ▸ hgood
          exact ⟨this.small, this.toks⟩
      generalize defineV M z.1 = q at *
      rw [both_loop (b := prelaw5_MacroTells_b4 M M (defs.length : Int) (i : Int) z z) M M rfl (fun _ _ => true) (.inr false) (.inl (if q.2 = 0 then q.1 else M, if q.2 = 0 then q.1 else M, (defs.length : Int), ((i + 1 : Nat) : Int))) (fun j hj => ?_)]
      · rw [if_pos (by simp)]
      · by_cases hj : j < M.length
        · rw [if_pos hj, if_pos rfl]
          simp only [prelaw5_MacroTells_b4, ltI, decide_eq_true_eq, Int.toNat_natCast, wN1 j (by omega), msame_eq _ _ hgood.small, rsame_eq _ _ hgood.small, Option.bind_some]
          rw [if_pos (by omega), if_pos (by omega), if_neg (by simp [eqB])]
        · rw [if_neg hj]
          simp only [prelaw5_MacroTells_b4, ltI, decide_eq_true_eq, hdef, hdef', Option.bind_some, hsame, Bool.not_true, prelaw5_MacroTells_j5, prelaw5_MacroTells_j2, if_neg Bool.false_ne_true, wN1 i (by omega)]
          rw [if_neg (by omega), if_neg (bi_neg rfl)]
          simp only [eqI, decide_eq_true_eq]
          by_cases hq : q.2 = 0
          · rw [if_pos hq, if_pos hq]; rfl
          · rw [if_neg hq, if_neg hq]; rfl
    · rw [if_pos (bi_pos hz), if_pos hz]
  · rintro i M M' ⟨hM, hg⟩ hi h
    obtain rfl := Sum.inl.inj h
    have hgood := parseV_good (toksV 0 (defs.getD i default)).1
    generalize parseV (toksV 0 (defs.getD i default)).1 = z at *
    split
    · exact ⟨hM, hg⟩
    · split
      · rename_i hq
        obtain ⟨h1, h2⟩ := defineV_len M z.1 hM hq
        exact ⟨h1, fun m hm => (h2 m hm).elim (hg m) (fun e => e ▸ hgood)⟩
      · exact ⟨hM, hg⟩
  · rintro M ⟨hM, hg⟩
    have hU : preref4_EqualMacros (undefV M a) (undefV M a) = some true := equalMacros_refl _ (by
      have : (undefV M a).length ≤ M.length := List.length_filter_le _ _
      omega) fun m hm => by
        have := hg m (List.mem_filter.1 hm).1
        exact ⟨this.small, this.toks⟩
    have hbs := has_eq builtins (by decide) a
    have hbs : preref4_Has [[95, 95, 76, 73, 78, 69, 95, 95], [95, 95, 70, 73, 76, 69, 95, 95], [100, 101, 102, 105, 110, 101, 100]] a = _ := hbs
    simp only [prelaw5_MacroTells_b1, ltI, decide_eq_true_eq, inrO, mfind_eq M (by omega), rfind_eq M (by omega), Option.bind_some, mundef_eq M (by omega), rundef_eq M (by omega), hU, builtin_eq, hbs, Bool.not_true, if_neg Bool.false_ne_true]
    rw [if_neg (by omega), if_neg (bi_neg rfl), show (!eqB (decide (a ∈ builtins)) (decide (a ∈ builtins))) = false by simp [eqB], j6]
    rfl
end Go.Proofs.Ytkhcecpbbmfcaaa
namespace Go.Proofs.Ytkhcecpbbmfcaaa
open Go.RowKit
theorem sameV_iff (a b : Macro) : sameV a b = true ↔ sameP a b := by unfold sameV; exact decide_eq_true_iff
theorem sameP.symm {a b : Macro} (h : sameP a b) : sameP b a := ⟨h.1.symm, h.2.1.symm, h.2.2.1.symm, h.2.2.2.1.symm, h.2.2.2.2.symm⟩
theorem sameP.trans {a b c : Macro} (h : sameP a b) (g : sameP b c) : sameP a c := ⟨h.1.trans g.1, h.2.1.trans g.2.1, h.2.2.1.trans g.2.2.1, h.2.2.2.1.trans g.2.2.2.1, h.2.2.2.2.trans g.2.2.2.2⟩
theorem def_found (l : List Macro) (x : Macro) (h : (defineV l x).2 = 0) : ∃ k : Nat, findV (defineV l x).1 x.Name = (k : Int) ∧ k < (defineV l x).1.length ∧ sameV ((defineV l x).1.getD k default) x = true := by
  rcases findV_cases l x.Name with ⟨h1, h2⟩ | ⟨k, h1, h2, h3⟩
  · have e : defineV l x = (l ++ [x], 0) := by
      unfold defineV at h ⊢
      rw [h1, if_neg (show ¬ (0 : Int) ≤ -1 by decide)] at h ⊢
      split at h
      · exact absurd h (by decide)
      · rename_i hl; rw [if_neg hl]
    rw [e]
    rcases findV_cases (l ++ [x]) x.Name with ⟨_, g2⟩ | ⟨k, g1, g2, g3⟩
    · exact absurd rfl (g2 x (by simp))
    · refine ⟨k, g1, g2, ?_⟩
      have hk : k = l.length := by
        rw [List.length_append] at g2
        simp only [List.length_cons, List.length_nil] at g2
        rcases Nat.lt_or_ge k l.length with hk | hk
        · rw [List.getD_eq_getElem?_getD, List.getElem?_append_left hk, ← List.getD_eq_getElem?_getD] at g3
          exact absurd g3 (h2 _ (getD_mem l k default hk))
        · omega
      subst hk
      have : (l ++ [x]).getD l.length default = x := by simp [List.getD_eq_getElem?_getD]
      rw [this]; exact sameV_refl x
  · have e : defineV l x = (l, 0) ∧ sameV (l.getD k default) x = true := by
      unfold defineV at h ⊢
      rw [h1, if_pos (by omega), Int.toNat_natCast] at h ⊢
      split at h
      · rename_i hs; rw [if_pos hs]; exact ⟨rfl, hs⟩
      · exact absurd h (by decide)
    rw [e.1]
    exact ⟨k, h1, h2, e.2⟩
theorem define_found (m : List Macro) (x : Macro) (k : Nat) (h : findV m x.Name = (k : Int)) : defineV m x = if sameV (m.getD k default) x = true then (m, 0) else ([], 7) := by
  unfold defineV
  rw [h, if_pos (by omega), Int.toNat_natCast]
theorem defineV_bad (l : List Macro) (x : Macro) (h : (defineV l x).2 ≠ 0) : (defineV l x).1 = [] := by
  revert h
  unfold defineV
  split <;> split <;> simp
theorem find_undef (l : List Macro) (nm : List UInt8) : findV (undefV l nm) nm = -1 := by
  rcases findV_cases (undefV l nm) nm with ⟨h, _⟩ | ⟨k, _, h2, h3⟩
  · exact h
  · have := getD_mem (undefV l nm) k default h2
    have := (List.mem_filter.1 this).2
    rw [h3] at this
    simp at this
theorem undef_lt (l : List Macro) (nm : List UInt8) (k : Nat) (h1 : findV l nm = (k : Int)) : (undefV l nm).length < l.length := by
  rcases findV_cases l nm with ⟨h, _⟩ | ⟨j, h, h2, h3⟩
  · omega
  · unfold undefV
    rw [List.length_filter_lt_length_iff_exists]
    exact ⟨_, getD_mem l j default h2, by rw [h3]; simp⟩
set_option maxRecDepth 100000 in
theorem alive5_eq : prelaw5_alive = some true := by
  obtain ⟨z1, z2, _⟩ := toksV_small 0 [70, 40, 97, 44, 46, 46, 46, 41, 32, 97, 32, 35, 35, 32, 120, 32, 35, 32, 97]
  obtain ⟨y1, y2, _⟩ := toksV_small 0 [97, 32, 32, 34, 98, 34]
  have e1 := toks_eq [70, 40, 97, 44, 46, 46, 46, 41, 32, 97, 32, 35, 35, 32, 120, 32, 35, 32, 97] (by decide)
  have e2 := toks_eq [97, 32, 32, 34, 98, 34] (by decide)
  have e3 := mparse_eq (toksV 0 [70, 40, 97, 44, 46, 46, 46, 41, 32, 97, 32, 35, 35, 32, 120, 32, 35, 32, 97]).1 (by omega)
  have e4 := mquote_eq (toksV 0 [97, 32, 32, 34, 98, 34]).1 (by omega) (fun t ht => by have := (y2 t ht).1; omega) ⟨0, [], false, false, 0, 0, 0, 0, [], [], 0⟩
  have e5 := mpaste_eq ⟨1, [97], false, false, 0, 0, 0, 0, [], [], 0⟩ ⟨2, [49], false, false, 0, 0, 0, 0, [], [], 0⟩ (by decide) (by decide) (by decide)
  have g := parseV_good (toksV 0 [70, 40, 97, 44, 46, 46, 46, 41, 32, 97, 32, 35, 35, 32, 120, 32, 35, 32, 97]).1
  have f1 : (parseV (toksV 0 [70, 40, 97, 44, 46, 46, 46, 41, 32, 97, 32, 35, 35, 32, 120, 32, 35, 32, 97]).1).2.Err = 0 := by decide +kernel
  have f2 : (parseV (toksV 0 [70, 40, 97, 44, 46, 46, 46, 41, 32, 97, 32, 35, 35, 32, 120, 32, 35, 32, 97]).1).1.Call = true := by decide +kernel
  have f3 : (parseV (toksV 0 [70, 40, 97, 44, 46, 46, 46, 41, 32, 97, 32, 35, 35, 32, 120, 32, 35, 32, 97]).1).1.More = true := by decide +kernel
  have f4 : (parseV (toksV 0 [70, 40, 97, 44, 46, 46, 46, 41, 32, 97, 32, 35, 35, 32, 120, 32, 35, 32, 97]).1).1.Params.length = 2 := by decide +kernel
  have f5 : (parseV (toksV 0 [70, 40, 97, 44, 46, 46, 46, 41, 32, 97, 32, 35, 35, 32, 120, 32, 35, 32, 97]).1).1.Body.length = 5 := by decide +kernel
  have f6 : (parseV (toksV 0 [70, 40, 97, 44, 46, 46, 46, 41, 32, 97, 32, 35, 35, 32, 120, 32, 35, 32, 97]).1).1.Name = [70] := by decide +kernel
  have p1 : (pasteV ⟨1, [97], false, false, 0, 0, 0, 0, [], [], 0⟩ ⟨2, [49], false, false, 0, 0, 0, 0, [], [], 0⟩).2 = true := by decide +kernel
  have p2 : (pasteV ⟨1, [97], false, false, 0, 0, 0, 0, [], [], 0⟩ ⟨2, [49], false, false, 0, 0, 0, 0, [], [], 0⟩).1.Text = [97, 49] := by decide +kernel
  have q1 : (quoteV (toksV 0 [97, 32, 32, 34, 98, 34]).1 ⟨0, [], false, false, 0, 0, 0, 0, [], [], 0⟩).Text = [34, 97, 32, 92, 34, 98, 92, 34, 34] := by decide +kernel
  unfold prelaw5_alive
  rw [e1]
  simp only [Option.bind_some, e3]
  generalize parseV (toksV 0 [70, 40, 97, 44, 46, 46, 46, 41, 32, 97, 32, 35, 35, 32, 120, 32, 35, 32, 97]).1 = z at *
  have d1 : defineV [] z.1 = ([z.1], 0) := rfl
  rw [mdefine_eq [] (by decide) (by simp), d1]
  simp only [Option.bind_some]
  rw [e5]
  simp only [Option.bind_some]
  rw [e2]
  simp only [Option.bind_some]
  rw [e4]
  simp only [Option.bind_some]
  generalize pasteV ⟨1, [97], false, false, 0, 0, 0, 0, [], [], 0⟩ ⟨2, [49], false, false, 0, 0, 0, 0, [], [], 0⟩ = w at *
  generalize quoteV (toksV 0 [97, 32, 32, 34, 98, 34]).1 ⟨0, [], false, false, 0, 0, 0, 0, [], [], 0⟩ = v at *
  have hf : findV [z.1] [70] = 0 := by unfold findV; simp [f6, List.findIdx_cons]
  have hu : undefV [z.1] [70] = [] := by unfold undefV; simp [f6]
  have hb : macro_Builtin [95, 95, 76, 73, 78, 69, 95, 95] = some true := by rw [builtin_eq]; decide
  rw [f1, f2, f3, f4, f5, p1, p2, q1, mfind_eq [z.1] (by simp), mundef_eq [z.1] (by simp), msame_eq _ _ g.small, sameV_refl, hf, hu, hb]
  simp [eqI, eqS, prelaw5_alive_j1]
theorem macroPaste_eq (a b : List UInt8) (ha : a.length ≤ 1048576) (hb : b.length ≤ 1048576) : prelaw5_MacroPaste a b = some true := by
  unfold prelaw5_MacroPaste
  rw [alive5_eq]
  simp only [Option.bind_some, Bool.not_true, if_neg Bool.false_ne_true]
  rw [mpaste_eq _ _ (by simp only; omega) (by simp) (by simp)]
  simp only [Option.bind_some]
  rw [if_pos (by omega), rtokens_eq _ _ (by rw [List.length_append]; omega)]
  simp only [Option.bind_some, pasteV]
  generalize toksV 0 (a ++ b) = r
  have hj : ∀ one : Bool, one = decide (r.2.Err = 0 ∧ r.1.length = 1 ∧ (r.1.getD 0 default).Text = a ++ b) →
      prelaw5_MacroPaste_j1 a b (pasteR r ⟨0, a, false, false, 0, 0, 0, 0, [], [], 0⟩ ⟨0, b, false, false, 0, 0, 0, 0, [], [], 0⟩) r one = some true := fun one ho => by
    subst ho
    unfold pasteR
    by_cases h : r.2.Err = 0 ∧ r.1.length = 1 ∧ (r.1.getD 0 default).Text = a ++ b
    · rw [if_pos h, decide_eq_true h]
      simp only [prelaw5_MacroPaste_j1, Bool.not_true, if_neg Bool.false_ne_true]
      rw [if_pos (by decide), if_pos (by omega), if_pos (by simp [eqS]), if_pos (by decide), if_pos (by omega)]
      simp [prelaw5_MacroPaste_j2, eqI]
    · rw [if_neg h, decide_eq_false h]
      simp only [prelaw5_MacroPaste_j1, Bool.not_false]
      rw [if_pos (by decide), if_pos trivial]; rfl
  by_cases h1 : r.2.Err = 0
  · rw [if_pos (show eqI r.2.Err 0 = true by simp [eqI, h1])]
    by_cases h2 : r.1.length = 1
    · rw [if_pos (show eqI (r.1.length : Int) 1 = true by simp [eqI, h2]), if_pos (by omega), if_pos (by omega)]
      refine hj _ ?_
      unfold eqS
      congr 1
      exact propext ⟨fun h => ⟨h1, h2, h⟩, fun h => h.2.2⟩
    · rw [if_neg (show ¬ eqI (r.1.length : Int) 1 = true by simp [eqI]; omega)]
      exact hj false (decide_eq_false fun h => h2 h.2.1).symm
  · rw [if_neg (show ¬ eqI r.2.Err 0 = true by simp [eqI, h1])]
    exact hj false (decide_eq_false fun h => h1 h.1).symm
theorem macroDefine_eq (defs : List (List UInt8)) (a b : List UInt8) (hn : defs.length ≤ 1048576) (hd : ∀ d ∈ defs, d.length ≤ 1048576) (ha : a.length ≤ 1048576) (hb : b.length ≤ 1048576) :
    prelaw5_MacroDefine defs a b = some true := by
  unfold prelaw5_MacroDefine
  rw [alive5_eq]
  simp only [Option.bind_some, Bool.not_true, if_neg Bool.false_ne_true]
  have hpa := mparse_eq (toksV 0 a).1 (by have := (toksV_small 0 a).1; omega)
  have hpb := mparse_eq (toksV 0 b).1 (by have := (toksV_small 0 b).1; omega)
  have ga := parseV_good (toksV 0 a).1
  have gb := parseV_good (toksV 0 b).1
  have fin : ∀ M : List Macro, (M.length ≤ 30 ∧ ∀ m ∈ M, goodM m) → (prelaw5_MacroDefine_j3 M (parseV (toksV 0 a).1) (parseV (toksV 0 b).1) false) = some true := by
    rintro M ⟨hM, hg⟩
    generalize parseV (toksV 0 a).1 = x at *
    generalize parseV (toksV 0 b).1 = y at *
    simp only [prelaw5_MacroDefine_j3, if_neg Bool.false_ne_true, mdefine_eq M hM (fun m hm => (hg m hm).small), Option.bind_some]
    by_cases h0 : (defineV M x.1).2 = 0
    · rw [if_neg (bi_neg h0)]
      obtain ⟨hl, hm⟩ := defineV_len M x.1 hM h0
      have hg' : ∀ m ∈ (defineV M x.1).1, goodM m := fun m h => (hm m h).elim (hg m) (fun e => e ▸ ga)
      obtain ⟨k, k1, k2, k3⟩ := def_found M x.1 h0
      generalize hW : defineV M x.1 = W at *
      have e1 : defineV W.1 x.1 = (W.1, 0) := by rw [define_found _ _ k k1, if_pos k3]
      have hz : W.2 = 0 := h0
      rw [mdefine_eq W.1 hl (fun m hm => (hg' m hm).small), e1]
      simp only [Option.bind_some]
      rw [if_neg (bi_neg rfl), equalMacros_refl _ (by omega) fun m hm => ⟨(hg' m hm).small, (hg' m hm).toks⟩]
      simp only [Option.bind_some, Bool.not_true, prelaw5_MacroDefine_j4, if_neg Bool.false_ne_true]
      have j5 : prelaw5_MacroDefine_j5 x y W () = some true := by
        simp only [prelaw5_MacroDefine_j5, mundef_eq W.1 (by omega), Option.bind_some]
        have hlt := undef_lt W.1 x.1.Name k k1
        have hfu := find_undef W.1 x.1.Name
        have hgu : ∀ m ∈ undefV W.1 x.1.Name, smallM m := fun m hm => (hg' m (List.mem_filter.1 hm).1).small
        rw [mfind_eq _ (by omega), hfu]
        simp only [Option.bind_some]
        rw [mdefine_eq _ (by omega) hgu]
        simp only [Option.bind_some]
        rw [if_pos (by decide)]
        by_cases hn : y.1.Name = x.1.Name
        · rw [if_neg (show ¬ (!eqS y.1.Name x.1.Name) = true by simp [eqS, hn])]
          have : (defineV (undefV W.1 x.1.Name) y.1).2 = 0 := by
            unfold defineV
            rw [hn, hfu, if_neg (show ¬ (0 : Int) ≤ -1 by decide), if_neg (by omega)]
          simp [prelaw5_MacroDefine_j6, eqI, this]
        · rw [if_pos (show (!eqS y.1.Name x.1.Name) = true by simp [eqS, hn])]; rfl
      by_cases hn : y.1.Name = x.1.Name
      · rw [if_pos (show eqS y.1.Name x.1.Name = true by simp [eqS, hn]), msame_eq _ _ ga.small]
        simp only [Option.bind_some, prelaw5_MacroDefine_j7]
        cases hs : sameV x.1 y.1 with
        | true => simp [j5]
        | false =>
          rw [if_pos (by rfl), mdefine_eq W.1 hl (fun m hm => (hg' m hm).small)]
          have e2 : defineV W.1 y.1 = ([], 7) := by
            rw [define_found _ _ k (by rw [hn]; exact k1), if_neg]
            intro h
            have := ((sameV_iff _ _).1 k3).symm.trans ((sameV_iff _ _).1 h)
            rw [← sameV_iff, hs] at this
            cases this
          rw [e2]
          simp only [Option.bind_some]
          rw [if_neg (bi_neg rfl), j5]
      · rw [if_neg (show ¬ eqS y.1.Name x.1.Name = true by simp [eqS, hn])]
        simp only [prelaw5_MacroDefine_j7, if_neg Bool.false_ne_true, j5]
    · rw [if_pos (bi_pos h0), defineV_bad _ _ h0]
      rfl
  have e := each_loop0 (b := prelaw5_MacroDefine_b1 defs a b) defs (fun i (M : List Macro) => (M, (defs.length : Int), (i : Int)))
    (fun M d => .inl (if (parseV (toksV 0 d).1).2.Err = 0 then (if (defineV M (parseV (toksV 0 d).1).1).2 = 0 then (defineV M (parseV (toksV 0 d).1).1).1 else M) else M))
    (fun _ => true) (fun _ M => M.length ≤ 30 ∧ ∀ m ∈ M, goodM m) ?_ ?_ ?_ [] ⟨by simp, by simp⟩
  · rw [show ((0 : Nat) : Int) = 0 from rfl] at e
    rw [e]
    congr 1
    have : ∀ (l : List (List UInt8)) (M : List Macro), eachR (R := Bool) (fun M d => .inl (if (parseV (toksV 0 d).1).2.Err = 0 then (if (defineV M (parseV (toksV 0 d).1).1).2 = 0 then (defineV M (parseV (toksV 0 d).1).1).1 else M) else M)) (fun _ => true) M l = true := by
      intro l
      induction l with
      | nil => intro M; rfl
      | cons d l ih => intro M; rw [eachR]; exact ih _
    exact this _ _
  · rintro i M ⟨hM, hg⟩ hi
    have hdi := hd _ (getD_mem defs i default hi)
    obtain ⟨h1, h2, _⟩ := toksV_small 0 (defs.getD i default)
    have hp := mparse_eq (toksV 0 (defs.getD i default)).1 (by omega)
    have hgood := parseV_good (toksV 0 (defs.getD i default)).1
    simp only [prelaw5_MacroDefine_b1, ltI, decide_eq_true_eq, Int.toNat_natCast, toks_eq _ (show (defs.getD i default).length ≤ 1099511627776 by omega), hp, Option.bind_some, nextS]
    rw [if_pos (by omega), if_pos (by omega)]
    generalize parseV (toksV 0 (defs.getD i default)).1 = z at *
    rw [mdefine_eq M hM (fun x hx => (hg x hx).small) z.1]
    simp only [Option.bind_some, prelaw5_MacroDefine_j2, wN1 i (by omega), eqI, decide_eq_true_eq]
    by_cases hz : z.2.Err = 0
    · rw [if_pos hz, if_pos hz]
      by_cases hq : (defineV M z.1).2 = 0
      · rw [if_pos hq, if_pos hq]
      · rw [if_neg hq, if_neg hq]
    · rw [if_neg hz, if_neg hz]
  · rintro i M M' ⟨hM, hg⟩ hi h
    obtain rfl := Sum.inl.inj h
    have hgood := parseV_good (toksV 0 (defs.getD i default)).1
    generalize parseV (toksV 0 (defs.getD i default)).1 = z at *
    split
    · split
      · rename_i hq
        obtain ⟨h1, h2⟩ := defineV_len M z.1 hM hq
        exact ⟨h1, fun m hm => (h2 m hm).elim (hg m) (fun e => e ▸ hgood)⟩
      · exact ⟨hM, hg⟩
    · exact ⟨hM, hg⟩
  · rintro M hM
    simp only [prelaw5_MacroDefine_b1, ltI, decide_eq_true_eq, inrO, toks_eq a (by omega), toks_eq b (by omega), hpa, hpb, Option.bind_some]
    rw [if_neg (by omega)]
    have j3t : prelaw5_MacroDefine_j3 M (parseV (toksV 0 a).1) (parseV (toksV 0 b).1) true = some true := by simp [prelaw5_MacroDefine_j3]
    by_cases h1 : (parseV (toksV 0 a).1).2.Err = 0
    · rw [if_neg (bi_neg h1)]
      cases h2 : (!eqI (parseV (toksV 0 b).1).2.Err 0) with
      | true => rw [j3t]; rfl
      | false => rw [fin M hM]; rfl
    · rw [if_pos (bi_pos h1), j3t]; rfl
end Go.Proofs.Ytkhcecpbbmfcaaa
