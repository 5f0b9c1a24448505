/- Macros: faults, names, parameters. Plain. -/
import Derived.Test.YtjgimofnepechaaGreatDoorZam
import Derived.Test.YtjgimofnepechaaGreatDoorZan
import Derived.Test.YtjgimofnepechaaGreatDoorZap
import Derived.Test.YtjgimofnepechaaGreatDoorZas
import Derived.Test.YtjgimofnepechaaGreatDoorZau
import Derived.Test.YtjgimofnepechaaGreatDoorCards
import Derived.Test.YtjgimofnepechaaGreatDoorTie
import Derived.ProofKit
import Derived.OpenShut
import Derived.LaidMore
import Derived.Lay
import Derived.SevenTiedAt
import Derived.Stop.Joined
import Derived.MakeChecks
import Derived.Lib.LaidTab
import Derived.Deep.Slices
set_option linter.unusedVariables false
set_option linter.unusedSimpArgs false
set_option maxRecDepth 100000
namespace Go.Proofs.YtjgimofnepechaaGreatDoor
open Go.RowKit
def vaT : List UInt8 := [95, 95, 86, 65, 95, 65, 82, 71, 83, 95, 95]
def dotsT : List UInt8 := [46, 46, 46]
def atV (l : List Token) (i : Nat) (e : Int) : Fault :=
 if i < l.length then ⟨e, (l.getD i default).File, (l.getD i default).At⟩
 else if 0 < l.length then ⟨e, (l.getD (l.length - 1) default).File, (l.getD (l.length - 1) default).End⟩ else ⟨e, -1, 0⟩
theorem rat_eq (l : List Token) (hl : l.length ≤ 1099511627776) (i : Nat) (e : Int) : Jz l (i : Int) e = some (atV l i e) := by
 unfold Jz atV
 simp only [ltI, decide_eq_true_eq, Int.toNat_natCast]
 by_cases h : i < l.length
 ·rw [if_pos (by omega), if_pos ⟨by omega, h⟩, if_pos ⟨by omega, h⟩, if_pos h]
 ·rw [if_neg (by omega), if_neg h]
  by_cases h0 : 0 < l.length
  ·rw [if_pos (by omega), if_pos h0, wNm _ (by omega)]
   simp only [Int.toNat_natCast]
   rw [if_pos (by omega)]
  ·rw [if_neg (by omega), if_neg h0]
theorem has_eq (l : List (List UInt8)) (hl : l.length ≤ 1099511627776) (s : List UInt8) : Xc l s = some (decide (s ∈ l)) := by
 unfold Xc
 rw [findi_loop l (fun x => decide (x = s)) (fun _ => true) false (fun j hj => ?_)]
 ·congr 1
  rw [Bool.eq_iff_iff]
  simp
 ·simp only [Jbf, ltI, eqS, decide_eq_true_eq, Int.toNat_natCast, inrO, Option.map_some]
  by_cases h : j < l.length
  ·rw [if_pos (by omega), if_pos (by omega), if_pos h, wN1 j (by omega)]
  ·rw [if_neg (by omega), if_neg h]
theorem contains_eq (l : List (List UInt8)) (hl : l.length ≤ 1099511627776) (s : List UInt8) : Jd l s = some (decide (s ∈ l)) := by
 unfold Jd Jk
 rw [findi_loop l (fun x => decide (s = x)) (fun j => (j : Int)) (-1) (fun j hj => ?_)]
 ·simp only [Option.bind_some, leI]
  congr 1
  rw [Bool.eq_iff_iff]
  by_cases h : s ∈ l
  ·have : (l.any fun x => decide (s = x)) = true := by simpa using h
   rw [if_pos this]
   simp [h]
  ·have : ¬ (l.any fun x => decide (s = x)) = true := by simpa using h
   rw [if_neg this]
   simp [h]
 ·simp only [Kc, ltI, eqS, decide_eq_true_eq, Int.toNat_natCast, inrO, Option.map_some]
  by_cases h : j < l.length
  ·rw [if_pos (by omega), if_pos (by omega), if_pos h, wN1 j (by omega)]
  ·rw [if_neg (by omega), if_neg h]
abbrev PR := Int × Int × Int × Int × List (List UInt8) × Bool
def badP (f : Fault) (ps : List (List UInt8)) (more : Bool) : PR := (0, f.Err, f.File, f.At, ps, more)
def prmNext (l : List Token) (i : Nat) (ps : List (List UInt8)) (more : Bool) (k : Nat → PR) : PR :=
 if 6 < ps.length then badP (atV l i 5) ps more
 else if i + 1 < l.length ∧ (l.getD (i + 1) default).Text = [44] then
  (if i + 2 < l.length ∧ (l.getD (i + 2) default).Text = [41] then badP (atV l (i + 2) 2) ps more else k (i + 2))
 else if i + 1 < l.length ∧ (l.getD (i + 1) default).Text ≠ [41] then badP (atV l (i + 1) 2) ps more else k (i + 1)
def prmV (l : List Token) : Nat → Nat → List (List UInt8) → Bool → PR
 | 0, _, ps, more => (0, 0, 0, 0, ps, more)
 | n + 1, i, ps, more =>
  if i < l.length ∧ (l.getD i default).Text ≠ [41] then
   if more = true then badP (atV l i 2) ps more
   else if (l.getD i default).Text = dotsT then prmNext l i (ps ++ [vaT]) true fun j => prmV l n j (ps ++ [vaT]) true
   else if (l.getD i default).Kind ≠ 1 ∨ (l.getD i default).Text = vaT then badP (atV l i 2) ps more
   else if (l.getD i default).Text ∈ ps then badP (atV l i 7) ps more
   else prmNext l i (ps ++ [(l.getD i default).Text]) more fun j => prmV l n j (ps ++ [(l.getD i default).Text]) more
  else if i = l.length then badP (atV l i 2) ps more else ((i + 1 : Nat), 0, -1, 0, ps, more)
end Go.Proofs.YtjgimofnepechaaGreatDoor
namespace Go.Proofs.YtjgimofnepechaaGreatDoor
open Go.RowKit
theorem lxF_small : ∀ (n : Nat) (l : List UInt8) (i st : Nat) (f : Bool), (lxF n l i st f).1.length ≤ l.length ∧ ∀ t ∈ (lxF n l i st f).1, t.txt.length ≤ l.length
 | 0, l, i, st, f => by simp [lxF]
 | n + 1, l, i, st, f => by
  unfold lxF
  split
  ·simp
  split
  ·simp
  split
  ·simp
  ·rename_i kind m hp
   have hm := piece_le hp
   have hd : (l.drop (skip l).1).length ≤ l.length := by simp
   obtain ⟨h1, h2⟩ := lxF_small n ((l.drop (skip l).1).drop m) (i + (skip l).1 + m) (nextP st ((l.drop (skip l).1).take m) (f || (skip l).2.1)) false
   rw [List.length_drop] at h1 h2
   refine ⟨?_, fun t ht => ?_⟩
   ·simp only [List.length_cons]; omega
   ·rcases List.mem_cons.1 ht with rfl | ht
    ·simp only [List.length_take]; omega
    ·have := h2 t ht; omega
theorem lxF_first (n : Nat) (l : List UInt8) (i st : Nat) (t : Raw) (r : List Raw) (h : (lxF n l i st true).1 = t :: r) : t.fst = true := by
 cases n with
 | zero => simp [lxF] at h
 | succ n =>
  unfold lxF at h
  split at h
  ·simp at h
  split at h
  ·simp at h
  split at h
  ·simp at h
  ·simp only [List.cons.injEq] at h
   rw [← h.1]; rfl
theorem toksV_small (file : Int) (text : List UInt8) : (toksV file text).1.length ≤ 3000 ∧ (∀ t ∈ (toksV file text).1, t.Text.length ≤ 3000 ∧ t.Hide = [] ∧ t.Calls = []) ∧ ∀ t r, (toksV file text).1 = t :: r → t.First = true := by
 unfold toksV
 split
 ·simp
 ·rename_i h
  have hl := spText_length text
  obtain ⟨h1, h2⟩ := lxF_small ((spText text).length + 1) (spText text) 0 0 true
  have h3 := lxF_first ((spText text).length + 1) (spText text) 0 0
  unfold raws
  generalize lxF ((spText text).length + 1) (spText text) 0 0 true = z at *
  obtain ⟨ts, o⟩ := z
  cases o with
  | none =>
   refine ⟨by simp only [List.length_map]; simp only at h1; omega, fun t ht => ?_, fun t r e => ?_⟩
   ·obtain ⟨a, ha, rfl⟩ := List.mem_map.1 ht
    exact ⟨by have := h2 a ha; show a.txt.length ≤ 3000; omega, rfl, rfl⟩
   ·cases ts with
    | nil => simp at e
    | cons a s =>
     simp only [List.map_cons, List.cons.injEq] at e
     rw [← e.1]
     exact h3 a s rfl
  | some p => simp
theorem lxF_piece : ∀ (n : Nat) (l : List UInt8) (i st : Nat) (f : Bool), ∀ t ∈ (lxF n l i st f).1, ∃ u path, piece u path = (t.kind, some t.len) ∧ t.txt = u.take t.len
 | 0, l, i, st, f => by simp [lxF]
 | n + 1, l, i, st, f => by
  unfold lxF
  split
  ·simp
  split
  ·simp
  split
  ·simp
  ·rename_i kind m hp
   intro t ht
   rcases List.mem_cons.1 ht with rfl | ht
   ·exact ⟨_, _, hp, rfl⟩
   ·exact lxF_piece n _ _ _ _ t ht
theorem toksV_piece (file : Int) (text : List UInt8) : ∀ t ∈ (toksV file text).1, ∃ u path n, piece u path = (t.Kind, some n) ∧ t.Text = u.take n := by
 unfold toksV
 split
 ·simp
 ·have h := lxF_piece ((spText text).length + 1) (spText text) 0 0 true
  unfold raws
  generalize lxF ((spText text).length + 1) (spText text) 0 0 true = z at *
  obtain ⟨ts, o⟩ := z
  cases o with
  | none =>
   intro t ht
   obtain ⟨a, ha, rfl⟩ := List.mem_map.1 ht
   obtain ⟨u, p, h1, h2⟩ := h a ha
   exact ⟨u, p, _, h1, h2⟩
  | some p => simp
theorem piece_name {u : List UInt8} {p : Bool} {n : Nat} (h : piece u p = (1, some n)) : ∃ c r, u = c :: r ∧ isLet c = true ∧ n = runN isWd u := by
 unfold piece at h
 split at h
 ·cases h
 ·rename_i c r
  split at h
  ·rename_i hc
   exact ⟨c, r, rfl, hc, by cases h; rfl⟩
  all_goals (repeat' (split at h)) <;> (simp only [Prod.mk.injEq] at h; exact absurd h.1 (by decide))
def nameOk (l : List Token) : Prop := ∀ t ∈ l, t.Kind = 1 → t.Text ≠ [44] ∧ t.Text ≠ [41]
theorem toks_nameOk (file : Int) (text : List UInt8) : nameOk (toksV file text).1 := fun t ht hk => by
 obtain ⟨u, p, n, h1, h2⟩ := toksV_piece file text t ht
 rw [hk] at h1
 obtain ⟨c, r, rfl, hc, rfl⟩ := piece_name h1
 have hn : 0 < runN isWd (c :: r) := by simp [runN, List.takeWhile_cons, isWd, hc]
 obtain ⟨m, hm⟩ : ∃ m, runN isWd (c :: r) = m + 1 := ⟨runN isWd (c :: r) - 1, by omega⟩
 rw [h2, hm, List.take_succ_cons]
 constructor <;> intro h <;> (injection h with h _; rw [h] at hc; exact absurd hc (by decide))
end Go.Proofs.YtjgimofnepechaaGreatDoor
namespace Go.Proofs.YtjgimofnepechaaGreatDoor
open Go.RowKit
theorem rparams_loop (l : List Token) (hl : l.length ≤ 1099511627776) (ho : nameOk l) : ∀ (n i : Nat) (ps : List (List UInt8)) (more : Bool), 2 ≤ i → i ≤ l.length → l.length - i < n → ps.length ≤ 6 →
  (i = 2 ∨ ¬ (i < l.length ∧ (l.getD i default).Text = [41] ∧ (l.getD (i - 1) default).Text = [44])) →
  loopO (Kh l) ((i : Int), ps, more) = some (prmV l n i ps more)
 | 0, i, ps, more, _, _, h, _, _ => by omega
 | n + 1, i, ps, more, h2, hi, hn, hp, hq => by
  have hm : ∀ j, j < l.length → (l.getD j default).Kind = 1 → (l.getD j default).Text ≠ [44] ∧ (l.getD j default).Text ≠ [41] := fun j hj => ho _ (getD_mem l j default hj)
  have next : ∀ (x : List UInt8) (mr : Bool), i < l.length → (l.getD i default).Text ≠ [44] →
    stepO (Kh l) (VE l (i : Int) ps (x, mr)) = some (prmNext l i (ps ++ [x]) mr fun j => prmV l n j (ps ++ [x]) mr) := fun x mr hlt hne => by
   have hlen : (ps.length + [x].length) * 16 ≤ 140737488355328 := by simp only [List.length_cons, List.length_nil]; omega
   have hql : (ps ++ [x]).length = ps.length + 1 := by simp
   simp only [VE, Xz, XI, ltI, eqS, decide_eq_true_eq, wN1 i (by omega), Int.toNat_natCast, prmNext]
   rw [if_pos hlen]
   by_cases h6 : 6 < (ps ++ [x]).length
   ·rw [if_pos (by omega), if_pos h6, rat_eq _ hl]; rfl
   ·rw [if_neg (by omega), if_neg h6]
    by_cases h1 : i + 1 < l.length
    ·rw [if_pos (by omega), if_pos (by omega)]
     by_cases hc : (l.getD (i + 1) default).Text = [44]
     ·rw [if_pos hc, if_pos (show i + 1 < l.length ∧ (l.getD (i + 1) default).Text = [44] from ⟨h1, hc⟩), wN1 (i + 1) (by omega)]
      by_cases hd : i + 2 < l.length ∧ (l.getD (i + 2) default).Text = [41]
      ·rw [if_pos hd]
       have c : (0 : Int) ≤ ((i + 1 + 1 : Nat) : Int) ∧ i + 1 + 1 < l.length := ⟨by omega, hd.1⟩
       have hk : (l.getD (i + 2) default).Kind ≠ 1 := fun h => (hm _ hd.1 h).2 hd.2
       simp only [stepO]
       rw [loopO_step]
       simp only [Kh, KS, VJ, leI, eqS, eqI, decide_eq_true_eq, Int.toNat_natCast]
       rw [if_neg (by omega), if_pos c, if_pos (show (l.getD (i + 1 + 1) default).Text = [41] from hd.2), if_neg (by omega), wNm (i + 1 + 1) (by omega)]
       simp only [Int.toNat_natCast]
       rw [if_pos (show (0 : Int) ≤ ((i + 1 + 1 - 1 : Nat) : Int) ∧ i + 1 + 1 - 1 < l.length by omega)]
       rw [show i + 1 + 1 - 1 = i + 1 by omega, if_neg (bn_neg hc)]
       have e2 := rat_eq l hl (i + 1 + 1) 2
       cases mr with
       | true => rw [if_pos trivial, e2]; rfl
       | false =>
        rw [if_neg Bool.false_ne_true, if_neg (show ¬ (l.getD (i + 1 + 1) default).Text = [46, 46, 46] by rw [show (l.getD (i + 1 + 1) default).Text = [41] from hd.2]; decide), if_pos (bn_pos (show ¬ (l.getD (i + 1 + 1) default).Kind = 1 from hk)), if_pos trivial, e2]
        rfl
      ·rw [if_neg hd]
       refine rparams_loop l hl ho n (i + 2) (ps ++ [x]) mr (by omega) (by omega) (by omega) (by omega) (.inr fun h => hd ⟨h.1, h.2.1⟩)
     ·rw [if_neg hc, if_neg (show ¬ (i + 1 < l.length ∧ (l.getD (i + 1) default).Text = [44]) from fun h => hc h.2), if_pos (show ((i + 1 : Nat) : Int) < (l.length : Int) by omega), if_pos (show (0 : Int) ≤ ((i + 1 : Nat) : Int) ∧ i + 1 < l.length by omega)]
      by_cases hd : (l.getD (i + 1) default).Text = [41]
      ·rw [if_neg (bn_neg hd), if_neg (show ¬ (i + 1 < l.length ∧ (l.getD (i + 1) default).Text ≠ [41]) from fun h => h.2 hd)]
       exact rparams_loop l hl ho n (i + 1) (ps ++ [x]) mr (by omega) (by omega) (by omega) (by omega) (.inr fun h => hne h.2.2)
      ·rw [if_pos (bn_pos hd), if_pos (show i + 1 < l.length ∧ (l.getD (i + 1) default).Text ≠ [41] from ⟨h1, hd⟩), rat_eq _ hl]; rfl
    ·rw [if_neg (by omega), if_neg Bool.false_ne_true, if_neg (by omega), if_neg Bool.false_ne_true, if_neg (fun h => h1 h.1), if_neg (fun h => h1 h.1)]
     exact rparams_loop l hl ho n (i + 1) (ps ++ [x]) mr (by omega) (by omega) (by omega) (by omega) (.inr fun h => h1 h.1)
  rw [loopO_step]
  simp only [Kh, KS, VJ, leI, eqS, eqI, decide_eq_true_eq, wN1 i (by omega), wNm i (by omega), Int.toNat_natCast, prmV]
  by_cases hlt : i < l.length
  ·have c : (0 : Int) ≤ (i : Int) ∧ i < l.length := ⟨by omega, hlt⟩
   rw [if_neg (show ¬ (l.length : Int) ≤ (i : Int) by omega), if_pos c]
   by_cases hc : (l.getD i default).Text = [41]
   ·rw [if_pos hc, if_neg (show ¬ (i < l.length ∧ (l.getD i default).Text ≠ [41]) from fun h => h.2 hc), if_neg (show ¬ i = l.length by omega)]
    by_cases h22 : i = 2
    ·rw [if_pos (show (i : Int) = 2 by omega), if_pos trivial]; rfl
    ·rw [if_neg (show ¬ (i : Int) = 2 by omega), if_pos (show (0 : Int) ≤ ((i - 1 : Nat) : Int) ∧ i - 1 < l.length by omega), if_pos (bn_pos (show ¬ (l.getD (i - 1) default).Text = [44] from fun h => hq.resolve_left h22 ⟨hlt, hc, h⟩))]
     rfl
   ·rw [if_neg hc, if_pos (show (i < l.length ∧ (l.getD i default).Text ≠ [41]) from ⟨hlt, hc⟩), if_neg Bool.false_ne_true]
    cases more with
    | true => rw [if_pos rfl, if_pos rfl, rat_eq _ hl]; rfl
    | false =>
     rw [if_neg Bool.false_ne_true, if_neg Bool.false_ne_true]
     by_cases hd : (l.getD i default).Text = dotsT
     ·rw [if_pos (show (l.getD i default).Text = [46, 46, 46] from hd), if_pos hd]
      exact next vaT true hlt (by rw [hd]; decide)
     ·rw [if_neg (show ¬ (l.getD i default).Text = [46, 46, 46] from hd), if_neg hd]
      by_cases hk : (l.getD i default).Kind ≠ 1 ∨ (l.getD i default).Text = vaT
      ·rw [if_pos hk]
       by_cases hk1 : (l.getD i default).Kind = 1
       ·have hv : (l.getD i default).Text = vaT := hk.resolve_left (fun h => h hk1)
        rw [if_neg (bn_neg hk1), if_pos (show (l.getD i default).Text = [95, 95, 86, 65, 95, 65, 82, 71, 83, 95, 95] from hv), rat_eq _ hl]; rfl
       ·rw [if_pos (bn_pos hk1), if_pos trivial, rat_eq _ hl]; rfl
      ·have hk1 : (l.getD i default).Kind = 1 := Decidable.byContradiction fun h => hk (.inl h)
       rw [if_neg hk, if_neg (bn_neg hk1), if_neg (show ¬ (l.getD i default).Text = [95, 95, 86, 65, 95, 65, 82, 71, 83, 95, 95] from fun h => hk (.inr h)), has_eq _ (by omega)]
       simp only [Option.bind_some, decide_eq_true_eq]
       by_cases hmm : (l.getD i default).Text ∈ ps
       ·rw [if_pos hmm, if_pos hmm, rat_eq _ hl]; rfl
       ·rw [if_neg hmm, if_neg hmm]
        exact next _ false hlt (hm i hlt hk1).1
  ·have e : i = l.length := by omega
   rw [if_pos (show (l.length : Int) ≤ (i : Int) by omega), if_neg (show ¬ (i < l.length ∧ (l.getD i default).Text ≠ [41]) from fun h => hlt h.1), if_pos e, rat_eq _ hl]
   rfl
end Go.Proofs.YtjgimofnepechaaGreatDoor
namespace Go.Proofs.YtjgimofnepechaaGreatDoor
open Go.RowKit
theorem first_loop {R : Type} {b : Int × Int → Option ((Int × Int) ⊕ R)} (N : Nat) (p : Nat → Bool) (f : Nat → R) (d : R)
  (hb : ∀ j : Nat, j ≤ N → b ((N : Int), (j : Int)) = if j < N then (if p j = true then some (.inr (f j)) else some (.inl ((N : Int), ((j + 1 : Nat) : Int)))) else some (.inr d)) :
  loopO b ((N : Int), 0) = some (if (List.range N).any p = true then f ((List.range N).findIdx p) else d) := by
 have e := findi_loop (b := b) (List.range N) p f d (fun j hj => by
  rw [List.length_range] at hj ⊢
  rw [hb j hj]
  by_cases h : j < N
  ·rw [if_pos h, if_pos h, List.getD_eq_getElem?_getD, List.getElem?_range h]; rfl
  ·rw [if_neg h, if_neg h])
 rwa [List.length_range] at e
def bodyE (call : Bool) (ps : List (List UInt8)) (more : Bool) (b : List Token) (i : Nat) : Int :=
 if (b.getD i default).Kind ≠ 5 then (if (b.getD i default).Text = vaT ∧ more = false then 7 else 0)
 else if (b.getD i default).Text = [35, 35] ∧ (i = 0 ∨ i + 1 = b.length) then 2
 else if (b.getD i default).Text = [35] ∧ call = true ∧ (i + 1 = b.length ∨ (b.getD (i + 1) default).Text ∉ ps) then 2 else 0
def bodyP (call : Bool) (ps : List (List UInt8)) (more : Bool) (b : List Token) (i : Nat) : Bool := decide (bodyE call ps more b i ≠ 0)
def bodyV (call : Bool) (ps : List (List UInt8)) (more : Bool) (b : List Token) : Fault :=
 if (List.range b.length).any (bodyP call ps more b) = true then
  atV b ((List.range b.length).findIdx (bodyP call ps more b)) (bodyE call ps more b ((List.range b.length).findIdx (bodyP call ps more b)))
 else ⟨0, -1, 0⟩
theorem atV_err (l : List Token) (i : Nat) (e : Int) : (atV l i e).Err = e := by unfold atV; split; rfl; split <;> rfl
theorem bodyP_t {call : Bool} {ps : List (List UInt8)} {more : Bool} {b : List Token} {i : Nat} {e : Int} (h : bodyE call ps more b i = e) (he : e ≠ 0) : bodyP call ps more b i = true := by
 unfold bodyP; rw [h]; exact decide_eq_true he
theorem bodyP_f {call : Bool} {ps : List (List UInt8)} {more : Bool} {b : List Token} {i : Nat} (h : bodyE call ps more b i = 0) : ¬ bodyP call ps more b i = true := by
 unfold bodyP; rw [h]; decide
section
variable {call : Bool} {ps : List (List UInt8)} {more : Bool} {b : List Token} {j : Nat}
theorem bE_name (hk : ¬ (b.getD j default).Kind = 5) (hv : (b.getD j default).Text = vaT) : bodyE call ps false b j = 7 := by unfold bodyE; rw [if_pos hk, if_pos ⟨hv, rfl⟩]
theorem bE_more (hk : ¬ (b.getD j default).Kind = 5) : bodyE call ps true b j = 0 := by unfold bodyE; rw [if_pos hk, if_neg (fun h => absurd h.2 (by decide))]
theorem bE_no (hk : ¬ (b.getD j default).Kind = 5) (hv : ¬ (b.getD j default).Text = vaT) : bodyE call ps more b j = 0 := by unfold bodyE; rw [if_pos hk, if_neg (fun h => hv h.1)]
theorem bE_two (hk : (b.getD j default).Kind = 5) (hh : (b.getD j default).Text = [35, 35]) (h : j = 0 ∨ j + 1 = b.length) : bodyE call ps more b j = 2 := by unfold bodyE; rw [if_neg (fun h => h hk), if_pos ⟨hh, h⟩]
theorem bE_in (hk : (b.getD j default).Kind = 5) (hh : (b.getD j default).Text = [35, 35]) (h : ¬ (j = 0 ∨ j + 1 = b.length)) : bodyE call ps more b j = 0 := by
 unfold bodyE; rw [if_neg (fun h => h hk), if_neg (fun h' => h h'.2), if_neg (fun h => absurd (hh.symm.trans h.1) (by decide))]
theorem bE_one (hk : (b.getD j default).Kind = 5) (hh : (b.getD j default).Text = [35]) (h : j + 1 = b.length ∨ (b.getD (j + 1) default).Text ∉ ps) : bodyE true ps more b j = 2 := by
 unfold bodyE; rw [if_neg (fun h => h hk), if_neg (fun h => absurd (hh.symm.trans h.1) (by decide)), if_pos ⟨hh, rfl, h⟩]
theorem bE_par (hk : (b.getD j default).Kind = 5) (hh : (b.getD j default).Text = [35]) (h : ¬ (call = true ∧ (j + 1 = b.length ∨ (b.getD (j + 1) default).Text ∉ ps))) : bodyE call ps more b j = 0 := by
 unfold bodyE; rw [if_neg (fun h => h hk), if_neg (fun h => absurd (hh.symm.trans h.1) (by decide)), if_neg (fun h' => h h'.2)]
theorem bE_sign (hk : (b.getD j default).Kind = 5) (h2 : ¬ (b.getD j default).Text = [35, 35]) (h1 : ¬ (b.getD j default).Text = [35]) : bodyE call ps more b j = 0 := by
 unfold bodyE; rw [if_neg (fun h => h hk), if_neg (fun h => h2 h.1), if_neg (fun h => h1 h.1)]
end
def mac0 : Macro := ⟨[], false, [], false, []⟩
theorem rbody_eq (nm : List UInt8) (call : Bool) (ps : List (List UInt8)) (hps : ps.length ≤ 1099511627776) (more : Bool) (b : List Token) (hb : b.length ≤ 1099511627776) :
  loopO (V6 nm call ps more b) ((b.length : Int), 0) = some (if (bodyV call ps more b).Err ≠ 0 then (mac0, bodyV call ps more b) else (⟨nm, call, ps, more, b⟩, ⟨0, -1, 0⟩)) := by
 rw [first_loop b.length (bodyP call ps more b) (fun i => (mac0, atV b i (bodyE call ps more b i))) (⟨nm, call, ps, more, b⟩, ⟨0, -1, 0⟩) (fun j hj => ?_)]
 ·congr 1
  unfold bodyV
  by_cases h : (List.range b.length).any (bodyP call ps more b) = true
  ·rw [if_pos h, if_pos h]
   have hp : bodyP call ps more b ((List.range b.length).findIdx (bodyP call ps more b)) = true := by
    have h1 : (List.range b.length).findIdx (bodyP call ps more b) < (List.range b.length).length := by rw [List.findIdx_lt_length]; simpa using h
    have := List.findIdx_getElem (w := h1)
    simpa using this
   rw [if_pos]
   rw [atV_err]
   simpa [bodyP] using hp
  ·rw [if_neg h, if_neg h, if_neg (by simp)]
 ·by_cases h : j < b.length
  ·rw [if_pos h]
   simp only [V6, Vg, Kw, V2, ltI, eqS, eqI, decide_eq_true_eq, Int.toNat_natCast, inrO, wN1 j (by omega)]
   have c : (0 : Int) ≤ (j : Int) ∧ j < b.length := ⟨by omega, h⟩
   rw [if_pos (show (j : Int) < (b.length : Int) by omega), if_pos c]
   have m7 := rat_eq b hb j 7
   have m2 := rat_eq b hb j 2
   by_cases hk : (b.getD j default).Kind = 5
   ·rw [if_pos hk, if_pos hk]
    by_cases hh : (b.getD j default).Text = [35, 35]
    ·rw [if_pos hh]
     by_cases h0 : j = 0
     ·have hE := bE_two (call := call) (ps := ps) (more := more) hk hh (.inl h0)
      rw [if_pos (show (j : Int) = 0 by omega), if_pos trivial, if_pos (bodyP_t hE (by decide)), hE, m2]; rfl
     ·rw [if_neg (show ¬ (j : Int) = 0 by omega)]
      by_cases hl : j + 1 = b.length
      ·have hE := bE_two (call := call) (ps := ps) (more := more) hk hh (.inr hl)
       rw [if_pos (show ((j + 1 : Nat) : Int) = (b.length : Int) by omega), if_pos (bodyP_t hE (by decide)), hE, m2]; rfl
      ·have hE := bE_in (call := call) (ps := ps) (more := more) hk hh (fun h => h.elim h0 hl)
       rw [if_neg (show ¬ ((j + 1 : Nat) : Int) = (b.length : Int) by omega), if_neg (show ¬ (b.getD j default).Text = [35] from fun h => absurd (hh.symm.trans h) (by decide)), if_neg Bool.false_ne_true, if_neg (bn_neg hk), if_neg Bool.false_ne_true, if_neg (bodyP_f hE)]
    ·rw [if_neg hh, if_neg Bool.false_ne_true]
     by_cases h1 : (b.getD j default).Text = [35]
     ·rw [if_pos h1]
      cases call with
      | false => rw [if_neg Bool.false_ne_true, if_neg Bool.false_ne_true, if_neg (bn_neg hk), if_neg Bool.false_ne_true, if_neg (bodyP_f (bE_par hk h1 (fun h => absurd h.1 (by decide))))]
      | true =>
       rw [if_pos rfl]
       by_cases hl : j + 1 = b.length
       ·have hE := bE_one (ps := ps) (more := more) hk h1 (.inl hl)
        rw [if_pos (show ((j + 1 : Nat) : Int) = (b.length : Int) by omega), if_pos trivial, if_pos (bodyP_t hE (by decide)), hE, m2]; rfl
       ·rw [if_neg (show ¬ ((j + 1 : Nat) : Int) = (b.length : Int) by omega), if_pos (show (0 : Int) ≤ ((j + 1 : Nat) : Int) ∧ j + 1 < b.length by omega), has_eq _ hps]
        simp only [Option.bind_some]
        by_cases hm : (b.getD (j + 1) default).Text ∈ ps
        ·rw [if_neg (bn_neg hm), if_neg (bn_neg hk), if_neg Bool.false_ne_true, if_neg (bodyP_f (bE_par hk h1 (fun h => h.2.elim hl (fun h => h hm))))]
        ·have hE := bE_one (ps := ps) (more := more) hk h1 (.inr hm)
         rw [if_pos (bn_pos hm), if_pos (bodyP_t hE (by decide)), hE, m2]; rfl
     ·rw [if_neg h1, if_neg Bool.false_ne_true, if_neg (bn_neg hk), if_neg Bool.false_ne_true, if_neg (bodyP_f (bE_sign hk hh h1))]
   ·rw [if_neg hk, if_neg Bool.false_ne_true, if_neg hk, if_neg Bool.false_ne_true, if_pos (bn_pos hk)]
    by_cases hv : (b.getD j default).Text = vaT
    ·rw [if_pos (show (b.getD j default).Text = [95, 95, 86, 65, 95, 65, 82, 71, 83, 95, 95] from hv)]
     cases more with
     | true => rw [if_neg (by decide), if_neg (bodyP_f (bE_more hk))]
     | false =>
      have hE := bE_name (call := call) (ps := ps) hk hv
      rw [if_pos (by decide), if_pos (bodyP_t hE (by decide)), hE, m7]; rfl
    ·rw [if_neg (show ¬ (b.getD j default).Text = [95, 95, 86, 65, 95, 65, 82, 71, 83, 95, 95] from hv), if_neg Bool.false_ne_true, if_neg (bodyP_f (bE_no hk hv))]
  ·rw [if_neg h]
   simp only [V6, ltI, decide_eq_true_eq, inrO]
   rw [if_neg (show ¬ (j : Int) < (b.length : Int) by omega)]
   rfl
end Go.Proofs.YtjgimofnepechaaGreatDoor
namespace Go.Proofs.YtjgimofnepechaaGreatDoor
open Go.RowKit
def bodyT (sp : Bool) (t : Token) : Token := ⟨t.Kind, t.Text, t.Space && sp, false, t.File, t.At, t.End, t.Line, [], [], t.Made⟩
def bodyL : List Token → List Token
 | [] => []
 | t :: r => bodyT false t :: r.map (bodyT true)
theorem bodyS_all {R : Type} (fin : List Token → R) : ∀ (l s : List Token), 0 < s.length → eachR (fun s t => (.inl (s ++ [bodyT (decide (0 < s.length)) t]) : List Token ⊕ R)) fin s l = fin (s ++ l.map (bodyT true))
 | [], s, _ => by simp [eachR]
 | t :: l, s, h => by
  rw [eachR]
  simp only
  rw [bodyS_all fin l _ (by simp), decide_eq_true h, List.append_assoc]
  rfl
theorem bodyS_eq {R : Type} (fin : List Token → R) (l : List Token) : eachR (fun s t => (.inl (s ++ [bodyT (decide (0 < s.length)) t]) : List Token ⊕ R)) fin [] l = fin (bodyL l) := by
 cases l with
 | nil => rfl
 | cons t l =>
  rw [eachR]
  simp only
  rw [bodyS_all fin l _ (by simp)]
  rfl
def bodyR (nm : List UInt8) (call : Bool) (ps : List (List UInt8)) (more : Bool) (b : List Token) : Macro × Fault :=
 if (bodyV call ps more b).Err ≠ 0 then (mac0, bodyV call ps more b) else (⟨nm, call, ps, more, b⟩, ⟨0, -1, 0⟩)
theorem rloop_eq (a : List Token) (k : Nat) (hk : k ≤ a.length) (ha : a.length ≤ 1099511627776) (nm : List UInt8) (call : Bool) (ps : List (List UInt8)) (hps : ps.length ≤ 1099511627776) (more : Bool) :
  loopO (Vh a (k : Int) nm call ps more) ((k : Int), ([] : List Token)) = some (bodyR nm call ps more (bodyL (a.drop k))) := by
 have hdl : (a.drop k).length = a.length - k := List.length_drop
 have := each_loop0 (b := Vh a (k : Int) nm call ps more) (a.drop k) (fun i s => (((k + i : Nat) : Int), s)) (fun s t => .inl (s ++ [bodyT (decide (0 < s.length)) t])) (fun s => bodyR nm call ps more s)
  (fun i s => s.length = i) ?_ ?_ ?_ [] rfl
 ·rw [bodyS_eq] at this
  exact this
 ·intro i s hs hi
  have hg : (a.drop k).getD i default = a.getD (k + i) default := by simp [List.getD_eq_getElem?_getD, List.getElem?_drop]
  rw [hg]
  have hd : decide ((k : Int) < ((k + i : Nat) : Int)) = decide (0 < s.length) := by congr 1; apply propext; omega
  simp only [Vh, XZ, ltI, decide_eq_true_eq, Int.toNat_natCast, wN1 (k + i) (by omega), nextS, bodyT, hd]
  rw [if_pos (show ((k + i : Nat) : Int) < (a.length : Int) by omega), if_pos (show (0 : Int) ≤ ((k + i : Nat) : Int) ∧ k + i < a.length by omega)]
  by_cases hsp : (a.getD (k + i) default).Space = true
  ·rw [if_pos hsp, if_pos (by simp only [List.length_cons, List.length_nil]; omega), hsp, Bool.true_and]
   rfl
  ·rw [if_neg hsp, if_pos (by simp only [List.length_cons, List.length_nil]; omega)]
   have hsp : (a.getD (k + i) default).Space = false := by simpa using hsp
   rw [hsp, Bool.false_and]
   rfl
 ·intro i s s' hs hi h
  obtain rfl := Sum.inl.inj h
  simp [hs]
 ·intro s hs
  simp only [Vh, ltI, decide_eq_true_eq, inrO]
  rw [if_neg (by omega), rbody_eq nm call ps hps more s (by omega)]
  rfl
def builtins : List (List UInt8) := [[95, 95, 76, 73, 78, 69, 95, 95], [95, 95, 70, 73, 76, 69, 95, 95], [100, 101, 102, 105, 110, 101, 100]]
def restV (l : List Token) (k : Nat) (nm : List UInt8) (call : Bool) (ps : List (List UInt8)) (more : Bool) : Macro × Fault :=
 if 60 < l.length - k then (mac0, atV l (k + 60) 4) else bodyR nm call ps more (bodyL (l.drop k))
def parseV (l : List Token) : Macro × Fault :=
 if l.length = 0 ∨ (l.getD 0 default).Kind ≠ 1 then (mac0, atV l 0 2)
 else if (l.getD 0 default).Text ∈ builtins then (mac0, atV l 0 7)
 else if 1 < l.length ∧ (l.getD 1 default).Text = [40] ∧ (l.getD 1 default).Space = false then
  (if (prmV l (l.length + 1) 2 [] false).2.1 ≠ 0 then (mac0, ⟨(prmV l (l.length + 1) 2 [] false).2.1, (prmV l (l.length + 1) 2 [] false).2.2.1, (prmV l (l.length + 1) 2 [] false).2.2.2.1⟩)
   else restV l (prmV l (l.length + 1) 2 [] false).1.toNat (l.getD 0 default).Text true (prmV l (l.length + 1) 2 [] false).2.2.2.2.1 (prmV l (l.length + 1) 2 [] false).2.2.2.2.2)
 else restV l 1 (l.getD 0 default).Text false [] false
theorem prmV_ok (l : List Token) : ∀ (n i : Nat) (ps : List (List UInt8)) (more : Bool), i ≤ l.length → l.length - i < n → ps.length ≤ 6 →
  (prmV l n i ps more).2.1 = 0 → (∃ k : Nat, (prmV l n i ps more).1 = (k : Int) ∧ i < k ∧ k ≤ l.length) ∧ (prmV l n i ps more).2.2.2.2.1.length ≤ 6
 | 0, i, ps, more, _, h, _ => by omega
 | n + 1, i, ps, more, hi, hn, hp => by
  have bad : ∀ (j : Nat) (e : Int) (qs : List (List UInt8)) (mr : Bool), e ≠ 0 → (badP (atV l j e) qs mr).2.1 ≠ 0 := fun j e qs mr he => by
   show (atV l j e).Err ≠ 0
   rw [atV_err]; exact he
  have next : ∀ (qs : List (List UInt8)) (mr : Bool), i < l.length → qs.length = ps.length + 1 → (prmNext l i qs mr fun j => prmV l n j qs mr).2.1 = 0 →
    (∃ k : Nat, (prmNext l i qs mr fun j => prmV l n j qs mr).1 = (k : Int) ∧ i < k ∧ k ≤ l.length) ∧ (prmNext l i qs mr fun j => prmV l n j qs mr).2.2.2.2.1.length ≤ 6 := fun qs mr hlt hq => by
   unfold prmNext
   by_cases h6 : 6 < qs.length
   ·rw [if_pos h6]; exact fun h => absurd h (bad _ _ _ _ (by decide))
   ·rw [if_neg h6]
    by_cases h1 : i + 1 < l.length ∧ (l.getD (i + 1) default).Text = [44]
    ·rw [if_pos h1]
     by_cases h2 : i + 2 < l.length ∧ (l.getD (i + 2) default).Text = [41]
     ·rw [if_pos h2]; exact fun h => absurd h (bad _ _ _ _ (by decide))
     ·rw [if_neg h2]
      intro h
      obtain ⟨⟨k, h3, h4, h5⟩, h6⟩ := prmV_ok l n (i + 2) qs mr (by omega) (by omega) (by omega) h
      exact ⟨⟨k, h3, by omega, h5⟩, h6⟩
    ·rw [if_neg h1]
     by_cases h2 : i + 1 < l.length ∧ (l.getD (i + 1) default).Text ≠ [41]
     ·rw [if_pos h2]; exact fun h => absurd h (bad _ _ _ _ (by decide))
     ·rw [if_neg h2]
      intro h
      obtain ⟨⟨k, h3, h4, h5⟩, h6⟩ := prmV_ok l n (i + 1) qs mr (by omega) (by omega) (by omega) h
      exact ⟨⟨k, h3, by omega, h5⟩, h6⟩
  rw [prmV]
  split
  ·rename_i hc
   split
   ·exact fun h => absurd h (bad _ _ _ _ (by decide))
   ·split
    ·exact next _ _ hc.1 (by simp)
    ·split
     ·exact fun h => absurd h (bad _ _ _ _ (by decide))
     ·split
      ·exact fun h => absurd h (bad _ _ _ _ (by decide))
      ·exact next _ _ hc.1 (by simp)
  ·split
   ·exact fun h => absurd h (bad _ _ _ _ (by decide))
   ·exact fun _ => ⟨⟨i + 1, rfl, by omega, by omega⟩, hp⟩
theorem wNs (k m : Nat) (h : m ≤ k ∧ k ≤ 4611686018427387904) : IntKind.i64.wrap ((k : Int) - (m : Int)) = ((k - m : Nat) : Int) := by rw [wr _ (by omega)]; omega
theorem wNa (k m : Nat) (h : k + m ≤ 4611686018427387904) : IntKind.i64.wrap ((k : Int) + (m : Int)) = ((k + m : Nat) : Int) := by rw [wr _ (by omega)]; omega
theorem rparse_eq (l : List Token) (hl : l.length ≤ 1099511627776) (ho : nameOk l) : Zg l = some (parseV l) := by
 have at0 : ∀ e, Jz l 0 e = some (atV l 0 e) := fun e => rat_eq l hl 0 e
 have j2 : ∀ (k : Nat) (nm : List UInt8) (call : Bool) (ps : List (List UInt8)) (more : Bool), k ≤ l.length → ps.length ≤ 6 → V0 l ((k : Int), nm, call, ps, more) = some (restV l k nm call ps more) := fun k nm call ps more hk hp => by
  simp only [V0, restV, wNs l.length k ⟨hk, by omega⟩, ltI, decide_eq_true_eq]
  by_cases h : 60 < l.length - k
  ·rw [if_pos (by omega), if_pos h, show ((k : Int) + 60) = (k : Int) + ((60 : Nat) : Int) from rfl, wNa k 60 (by omega), rat_eq _ hl]; rfl
  ·rw [if_neg (by omega), if_neg h, rloop_eq l k hk hl nm call ps (by omega) more]
 have j1t : Ve l (true, []) = some (mac0, atV l 0 2) := by
  simp only [Ve, if_true, at0, Option.bind_some]; rfl
 have j5f : ∀ nm, 0 < l.length → KB l (false, nm) = some (restV l 1 nm false [] false) := fun nm h0 => by
  simp only [KB, if_neg Bool.false_ne_true]
  exact j2 1 nm false [] false (by omega) (by simp)
 unfold Zg parseV
 simp only [eqI, decide_eq_true_eq]
 by_cases h0 : l.length = 0
 ·rw [if_pos (by omega), if_pos (.inl h0), j1t]
 ·rw [if_neg (by omega), if_pos (by omega)]
  by_cases hk : (l.getD 0 default).Kind = 1
  ·have hbs := has_eq builtins (by decide) (l.getD 0 default).Text
   have hbs : Xc [[95, 95, 76, 73, 78, 69, 95, 95], [95, 95, 70, 73, 76, 69, 95, 95], [100, 101, 102, 105, 110, 101, 100]] (l.getD 0 default).Text = _ := hbs
   rw [if_neg (show ¬ (l.length = 0 ∨ (l.getD 0 default).Kind ≠ 1) from fun h => h.elim h0 (fun h => h hk)), decide_eq_true hk]
   simp only [Ve, Bool.not_true, if_neg Bool.false_ne_true, hbs, Option.bind_some, ltI, eqS, decide_eq_true_eq]
   rw [if_pos (show 0 < l.length by omega)]
   by_cases hb : (l.getD 0 default).Text ∈ builtins
   ·rw [if_pos hb, if_pos hb, at0]; rfl
   ·rw [if_neg hb, if_neg hb, if_pos (show 0 < l.length by omega)]
    by_cases h1 : 1 < l.length
    ·rw [if_pos (show (1 : Int) < (l.length : Int) by omega), if_pos h1]
     by_cases hp : (l.getD 1 default).Text = [40]
     ·rw [if_pos hp, if_pos h1]
      cases hs : (l.getD 1 default).Space with
      | true => rw [if_neg (fun h => absurd h.2.2 (by decide)), Bool.not_true, j5f _ (by omega)]
      | false =>
       rw [if_pos ⟨h1, hp, rfl⟩, Bool.not_false]
       have e := rparams_loop l hl ho (l.length + 1) 2 [] false (by omega) (by omega) (by omega) (by simp) (.inl rfl)
       have e : loopO (Kh l) ((2 : Int), [], false) = _ := e
       simp only [KB, if_true, ZR, e, Option.bind_some]
       by_cases hr : (prmV l (l.length + 1) 2 [] false).2.1 = 0
       ·obtain ⟨⟨k, h3, h4, h5⟩, h6⟩ := prmV_ok l (l.length + 1) 2 [] false (by omega) (by omega) (by simp) hr
        rw [if_neg (bi_neg hr), if_neg (fun h => h hr), h3, Int.toNat_natCast]
        exact j2 k _ true _ _ h5 h6
       ·rw [if_pos (bi_pos hr), if_pos hr]; rfl
     ·rw [if_neg hp, if_neg (fun h => hp h.2.1), j5f _ (by omega)]
    ·rw [if_neg (show ¬ (1 : Int) < (l.length : Int) by omega), if_neg (fun h => h1 h.1), j5f _ (by omega)]
  ·rw [if_pos (show l.length = 0 ∨ (l.getD 0 default).Kind ≠ 1 from .inr hk), decide_eq_false hk, Bool.not_false, j1t]
end Go.Proofs.YtjgimofnepechaaGreatDoor
namespace Go.Proofs.YtjgimofnepechaaGreatDoor
open Go.RowKit
def smallT (t : Token) : Prop := t.Hide.length ≤ 1099511627776 ∧ t.Calls.length ≤ 1099511627776
theorem sameToken_refl (t : Token) (h : smallT t) : VK t t = some true := by
 have e3 : loopO (KL t t) ((t.Calls.length : Int), 0) = some true := by
  have := idx_loop (b := KL t t) t.Calls.length (fun _ => true) false true (fun j hj => ?_)
  ·rw [this]; simp
  ·simp only [KL, ltI, decide_eq_true_eq, Int.toNat_natCast, inrO]
   by_cases hj : j < t.Calls.length
   ·have h1 : (0 : Int) ≤ j ∧ j < t.Calls.length := by omega
    have hh := h.2
    rw [if_pos (by omega), if_pos h1, if_pos h1, if_pos hj, wN1 j (by omega)]
    simp [eqI, eqS]
   ·rw [if_neg (by omega), if_neg hj]; rfl
 have e2 : loopO (KE t t) ((t.Hide.length : Int), 0) = some true := by
  have := idx_loop (b := KE t t) t.Hide.length (fun _ => true) false true (fun j hj => ?_)
  ·rw [this]; simp
  ·simp only [KE, ltI, decide_eq_true_eq, Int.toNat_natCast, inrO, e3]
   by_cases hj : j < t.Hide.length
   ·have h1 : (0 : Int) ≤ j ∧ j < t.Hide.length := by omega
    have hh := h.1
    rw [if_pos (by omega), if_pos h1, if_pos h1, if_pos hj, wN1 j (by omega)]
    simp [eqI, eqS]
   ·rw [if_neg (by omega), if_neg hj]; rfl
 unfold VK
 have : Jc t t false = some true := by simp only [Jc, e2]; rfl
 simp [eqI, eqS, eqB, this]
theorem sameTokens_refl (l : List Token) (hl : l.length ≤ 1099511627776) (h : ∀ t ∈ l, smallT t) : Vj l l = some true := by
 unfold Vj
 have := idx_loop (b := Vl l l) l.length (fun _ => true) false true (fun j hj => ?_)
 ·rw [this]; simp [eqI]
 ·simp only [Vl, ltI, decide_eq_true_eq, Int.toNat_natCast, inrO]
  by_cases hj : j < l.length
  ·have h1 : (0 : Int) ≤ j ∧ j < l.length := by omega
   rw [if_pos (by omega), if_pos h1, if_pos h1, if_pos hj, wN1 j (by omega)]
   rw [sameToken_refl _ (h _ (by rw [List.getD_eq_getElem?_getD, List.getElem?_eq_getElem hj]; exact List.getElem_mem hj))]
   simp
  ·rw [if_neg (by omega), if_neg hj]; rfl
end Go.Proofs.YtjgimofnepechaaGreatDoor
namespace Go.Proofs.YtjgimofnepechaaGreatDoor
open Go.RowKit
theorem map_zip_eq {A B C : Type} [DecidableEq C] (f : A → C) (g : B → C) : ∀ (l : List A) (m : List B), l.length = m.length → ((l.zip m).all (fun z => decide (f z.1 = g z.2)) = true ↔ l.map f = m.map g)
 | [], [], _ => by simp
 | [], _ :: _, h => by simp at h
 | _ :: _, [], h => by simp at h
 | a :: l, b :: m, h => by
  have := map_zip_eq f g l m (by simpa using h)
  simp only [List.zip_cons_cons, List.all_cons, Bool.and_eq_true, decide_eq_true_eq, List.map_cons, List.cons.injEq]
  rw [this]
def key3 (t : Token) : Int × List UInt8 × Bool := (t.Kind, t.Text, t.Space)
def sameP (a b : Macro) : Prop := a.Name = b.Name ∧ a.Call = b.Call ∧ a.More = b.More ∧ a.Params = b.Params ∧ a.Body.map key3 = b.Body.map key3
instance (a b : Macro) : Decidable (sameP a b) := by unfold sameP; infer_instance
def sameV (a b : Macro) : Bool := decide (sameP a b)
def smallM (m : Macro) : Prop := m.Params.length ≤ 1099511627776 ∧ m.Body.length ≤ 1099511627776
theorem rsame_eq (a b : Macro) (ha : smallM a) : VD a b = some (sameV a b) := by
 obtain ⟨ha1, ha2⟩ := ha
 unfold VD
 have jt : Jm a b true = some false := by simp [Jm]
 have sf : ¬ sameP a b → sameV a b = false := fun h => decide_eq_false h
 by_cases h1 : a.Name = b.Name
 case neg => rw [if_pos (show (!eqS a.Name b.Name) = true by simp [eqS, h1]), jt, sf (fun h => h1 h.1)]
 rw [if_neg (show ¬ (!eqS a.Name b.Name) = true by simp [eqS, h1])]
 by_cases h2 : a.Call = b.Call
 case neg => rw [if_pos (show (!eqB a.Call b.Call) = true by simp [eqB, h2]), jt, sf (fun h => h2 h.2.1)]
 rw [if_neg (show ¬ (!eqB a.Call b.Call) = true by simp [eqB, h2])]
 by_cases h3 : a.More = b.More
 case neg => rw [if_pos (show (!eqB a.More b.More) = true by simp [eqB, h3]), jt, sf (fun h => h3 h.2.2.1)]
 rw [if_neg (show ¬ (!eqB a.More b.More) = true by simp [eqB, h3])]
 by_cases h4 : a.Params.length = b.Params.length
 case neg => rw [if_pos (bi_pos (by omega)), jt, sf (fun h => h4 (by rw [h.2.2.2.1]))]
 rw [if_neg (bi_neg (by omega))]
 by_cases h5 : a.Body.length = b.Body.length
 case neg =>
  rw [show (!eqI (a.Body.length : Int) (b.Body.length : Int)) = true from bi_pos (by omega), jt, sf (fun h => h5 ?_)]
  have := congrArg List.length h.2.2.2.2
  simpa using this
 rw [show (!eqI (a.Body.length : Int) (b.Body.length : Int)) = false by simpa using bi_neg (a := (a.Body.length : Int)) (b := (b.Body.length : Int)) (by omega)]
 simp only [Jm, if_neg Bool.false_ne_true]
 have e3 := both_loop (b := KK a b) a.Body b.Body h5 (fun x y => decide (key3 x = key3 y)) false true (fun j hj => by
  by_cases hj : j < a.Body.length
  ·rw [if_pos hj]
   simp only [KK, XM, KI, ltI, decide_eq_true_eq, Int.toNat_natCast, inrO, wN1 j (by omega)]
   rw [if_pos (by omega), if_pos (by omega), if_pos (by omega)]
   unfold key3
   simp only [Prod.mk.injEq]
   by_cases k1 : (a.Body.getD j default).Kind = (b.Body.getD j default).Kind
   ·rw [if_neg (bi_neg k1)]
    by_cases k2 : (a.Body.getD j default).Text = (b.Body.getD j default).Text
    ·rw [if_neg (show ¬ (!eqS (a.Body.getD j default).Text (b.Body.getD j default).Text) = true by rw [k2]; simp [eqS])]
     by_cases k3 : (a.Body.getD j default).Space = (b.Body.getD j default).Space
     ·rw [if_neg (show ¬ (!eqB (a.Body.getD j default).Space (b.Body.getD j default).Space) = true by rw [k3]; simp [eqB]), if_pos ⟨k1, k2, k3⟩]
     ·rw [if_pos (show (!eqB (a.Body.getD j default).Space (b.Body.getD j default).Space) = true by simpa [eqB, -List.getD_eq_getElem?_getD] using k3), if_neg (fun h => k3 h.2.2)]; rfl
    ·rw [if_pos (show (!eqS (a.Body.getD j default).Text (b.Body.getD j default).Text) = true by simpa [eqS, -List.getD_eq_getElem?_getD] using k2), if_pos trivial, if_neg (fun h => k2 h.2.1)]; rfl
   ·rw [if_pos (bi_pos k1), if_pos trivial, if_neg (fun h => k1 h.1)]; rfl
  ·rw [if_neg hj]
   simp only [KK, ltI, decide_eq_true_eq, inrO]
   rw [if_neg (by omega)]; rfl)
 have e2 := both_loop (b := KH a b) a.Params b.Params h4 (fun x y => decide (x = y)) false (if ((a.Body.zip b.Body).all fun z => decide (key3 z.1 = key3 z.2)) = true then true else false) (fun j hj => by
  by_cases hj : j < a.Params.length
  ·rw [if_pos hj]
   simp only [KH, ltI, eqS, decide_eq_true_eq, Int.toNat_natCast, inrO, wN1 j (by omega)]
   rw [if_pos (by omega), if_pos (by omega), if_pos (by omega)]
   by_cases hq : a.Params.getD j default = b.Params.getD j default
   ·rw [if_neg (bn_neg hq), if_pos hq]
   ·rw [if_pos (bn_pos hq), if_neg hq]; rfl
  ·rw [if_neg hj]
   simp only [KH, ltI, decide_eq_true_eq, inrO]
   rw [if_neg (by omega), e3]; rfl)
 rw [e2]
 congr 1
 have z1 := map_zip_eq id id a.Params b.Params h4
 simp only [id_eq, List.map_id] at z1
 have z2 := map_zip_eq key3 key3 a.Body b.Body h5
 unfold sameV sameP
 by_cases y1 : a.Params = b.Params
 ·rw [if_pos (z1.2 y1)]
  by_cases y2 : a.Body.map key3 = b.Body.map key3
  ·rw [if_pos (z2.2 y2)]; simp [h1, h2, h3, y1, y2]
  ·rw [if_neg (fun h => y2 (z2.1 h))]; simp [h1, h2, h3, y1, y2]
 ·rw [if_neg (fun h => y1 (z1.1 h))]; simp [y1]
def findV (l : List Macro) (nm : List UInt8) : Int := if (l.any fun m => decide (m.Name = nm)) = true then (l.findIdx (fun m => decide (m.Name = nm)) : Nat) else -1
theorem mfind_eq (l : List Macro) (hl : l.length ≤ 1099511627776) (nm : List UInt8) : Jal l nm = some (findV l nm) := by
 unfold Jal Ji
 rw [findi_loop l (fun m => decide (m.Name = nm)) (fun j => (j : Int)) (-1) (fun j hj => ?_)]
 ·rfl
 ·simp only [Jq, Ja4, ltI, eqS, decide_eq_true_eq, Int.toNat_natCast, inrO, Option.map_some, Option.bind_some]
  by_cases h : j < l.length
  ·rw [if_pos (by omega), if_pos (by omega), if_pos h, wN1 j (by omega)]
  ·rw [if_neg (by omega), if_neg h]
theorem rfind_eq (l : List Macro) (hl : l.length ≤ 1099511627776) (nm : List UInt8) : XS l nm = some (findV l nm) := by
 unfold XS
 rw [findi_loop l (fun m => decide (m.Name = nm)) (fun j => (j : Int)) (-1) (fun j hj => ?_)]
 ·rfl
 ·simp only [JaM, ltI, eqS, decide_eq_true_eq, Int.toNat_natCast, inrO, Option.map_some]
  by_cases h : j < l.length
  ·rw [if_pos (by omega), if_pos (by omega), if_pos h, wN1 j (by omega)]
  ·rw [if_neg (by omega), if_neg h]
theorem findV_cases (l : List Macro) (nm : List UInt8) : (findV l nm = -1 ∧ ∀ m ∈ l, m.Name ≠ nm) ∨ ∃ k : Nat, findV l nm = (k : Int) ∧ k < l.length ∧ (l.getD k default).Name = nm := by
 unfold findV
 by_cases h : (l.any fun m => decide (m.Name = nm)) = true
 ·rw [if_pos h]
  right
  have h1 : l.findIdx (fun m => decide (m.Name = nm)) < l.length := by rw [List.findIdx_lt_length]; simpa using h
  refine ⟨_, rfl, h1, ?_⟩
  have := List.findIdx_getElem (w := h1)
  rw [List.getD_eq_getElem?_getD, List.getElem?_eq_getElem h1]
  simpa using this
 ·rw [if_neg h]
  left
  exact ⟨rfl, fun m hm e => h (List.any_eq_true.2 ⟨m, hm, decide_eq_true e⟩)⟩
def defineV (l : List Macro) (m : Macro) : List Macro × Int :=
 if 0 ≤ findV l m.Name then (if sameV (l.getD (findV l m.Name).toNat default) m = true then (l, 0) else ([], 7))
 else if 30 ≤ l.length then ([], 5) else (l ++ [m], 0)
theorem rdefine_eq (l : List Macro) (hl : l.length ≤ 30) (hs : ∀ x ∈ l, smallM x) (m : Macro) : XQ l m = some (defineV l m) := by
 unfold XQ defineV
 rw [rfind_eq l (by omega)]
 simp only [Option.bind_some, leI, decide_eq_true_eq]
 rcases findV_cases l m.Name with ⟨h, _⟩ | ⟨k, h, hk, _⟩
 ·rw [h, if_neg (show ¬ (0 : Int) ≤ -1 by decide), if_neg (show ¬ (0 : Int) ≤ -1 by decide)]
  simp only [VM, if_neg Bool.false_ne_true, leI, decide_eq_true_eq]
  rw [if_neg (show ¬ (0 : Int) ≤ -1 by decide)]
  by_cases h30 : 30 ≤ l.length
  ·rw [if_pos (by omega), if_pos h30]
  ·rw [if_neg (by omega), if_neg h30]
   simp only [List.nil_append, List.length_cons, List.length_nil]
   rw [if_pos (by omega), if_pos (by omega)]
 ·rw [h, if_pos (by omega), if_pos (by omega), Int.toNat_natCast, if_pos (by omega), rsame_eq _ _ (hs _ (getD_mem l k default hk))]
  simp only [Option.bind_some, VM, leI, decide_eq_true_eq]
  cases hsv : sameV (l.getD k default) m <;> simp
theorem defineV_len (l : List Macro) (m : Macro) (hl : l.length ≤ 30) (h : (defineV l m).2 = 0) : (defineV l m).1.length ≤ 30 ∧ ∀ x ∈ (defineV l m).1, x ∈ l ∨ x = m := by
 revert h
 unfold defineV
 split
 ·split
  ·exact fun _ => ⟨hl, fun x hx => .inl hx⟩
  ·exact fun h => absurd h (by decide)
 ·split
  ·exact fun h => absurd h (by decide)
  ·exact fun _ => ⟨by simp; omega, fun x hx => by simpa using hx⟩
end Go.Proofs.YtjgimofnepechaaGreatDoor
namespace Go.Proofs.YtjgimofnepechaaGreatDoor
open Go.RowKit
def goodM (m : Macro) : Prop := m.Params.length ≤ 6 ∧ m.Body.length ≤ 60 ∧ ∀ t ∈ m.Body, t.Hide = [] ∧ t.Calls = []
theorem goodM.small {m : Macro} (h : goodM m) : smallM m := ⟨by have := h.1; omega, by have := h.2.1; omega⟩
theorem goodM.toks {m : Macro} (h : goodM m) : ∀ t ∈ m.Body, smallT t := fun t ht => by
 obtain ⟨h1, h2⟩ := h.2.2 t ht
 exact ⟨by rw [h1]; simp, by rw [h2]; simp⟩
theorem bodyL_len (l : List Token) : (bodyL l).length = l.length := by cases l <;> simp [bodyL]
theorem bodyL_mem {l : List Token} {t : Token} (h : t ∈ bodyL l) : ∃ sp x, x ∈ l ∧ t = bodyT sp x := by
 cases l with
 | nil => simp [bodyL] at h
 | cons a l =>
  rcases List.mem_cons.1 h with rfl | h
  ·exact ⟨false, a, by simp, rfl⟩
  ·obtain ⟨x, hx, rfl⟩ := List.mem_map.1 h
   exact ⟨true, x, by simp [hx], rfl⟩
theorem mac0_good : goodM mac0 := ⟨by simp [mac0], by simp [mac0], by simp [mac0]⟩
theorem restV_good (l : List Token) (k : Nat) (nm : List UInt8) (call : Bool) (ps : List (List UInt8)) (more : Bool) (hp : ps.length ≤ 6) : goodM (restV l k nm call ps more).1 := by
 unfold restV
 split
 ·exact mac0_good
 ·unfold bodyR
  split
  ·exact mac0_good
  ·refine ⟨hp, ?_, fun t ht => ?_⟩
   ·show (bodyL (l.drop k)).length ≤ 60
    rw [bodyL_len, List.length_drop]; omega
   ·obtain ⟨sp, x, _, rfl⟩ := bodyL_mem ht
    exact ⟨rfl, rfl⟩
theorem parseV_good (l : List Token) : goodM (parseV l).1 := by
 unfold parseV
 split
 ·exact mac0_good
 split
 ·exact mac0_good
 split
 ·rename_i h
  split
  ·exact mac0_good
  ·rename_i hr
   exact restV_good _ _ _ _ _ _ (prmV_ok l (l.length + 1) 2 [] false (by omega) (by omega) (by simp) (Decidable.not_not.1 hr)).2
 ·exact restV_good _ _ _ _ _ _ (by simp)
end Go.Proofs.YtjgimofnepechaaGreatDoor
namespace Go.Proofs.YtjgimofnepechaaGreatDoor
open Go.ChangeShapes Go.WideShapes Go.ChangeAt Go.RowKit
theorem own : ownKnob Tryz.prog.godebug = none := by kernel_rfl
theorem Grows.below {w w' : World} (h : Grows w w') : Below w.heap.size w w' := ⟨h.os, h.tape, h.output, h.size, h.block⟩
theorem post_of_grows {H : Type} {enc : TypeId × Value → H} {P : Program} {f : Func} {s : ChangeSpec} {fresh handsOn again : Bool} {W W' : World} {args : Array Value} {v : Value} {ds gs : List (DataW H)} {before pa pv : List MemPlace}
  (hW : DataW.Whole enc P f.params.toList s.vars false W args.toList ds gs before)
  (hres : ∀ (b : Nat) (sp : Nat → Bool) (hd : Bool), DataW.TrodAll enc P W' b sp hd f.resultTypes.toList (v.resultList f.resultTypes.size) (s.fn H (ds ++ gs)).results [])
  (hargs : ∀ sp : Nat → Bool, (∀ p ∈ before, sp p.block = true) → DataW.TrodAll enc P W' 0 sp true f.params.toList args.toList (s.fn H (ds ++ gs)).args pa)
  (hvars : ∀ sp : Nat → Bool, (∀ p ∈ before, sp p.block = true) → DataW.TrodVars enc P W' sp s.vars (s.fn H (ds ++ gs)).vars pv)
  (hps : before = pa ++ pv) (hg : Grows W W')
  (hok : ∀ (j : Nat) (t : TypeId) (r : Value), f.resultTypes[j]? = some t → (v.resultList f.resultTypes.size)[j]? = some r → Value.okWide P W' .any 0 t r) :
  s.post enc P f false fresh handsOn again W args v W' := by
 have hlt := hW.lt
 refine ⟨ds, gs, before, [], pa, pv, hW, hres _ _ _, hargs _ (fun p hp => by simpa using hlt p hp), hvars _ (fun p hp => by simpa using hlt p hp), World.keptBut_mono (fun p hp => ⟨hp, ?_⟩) (hg.below.frame (· ∈ before)), fun _ => ?_⟩
 ·rw [hps, List.mem_append] at hp
  exact Or.inr hp
 ·obtain ⟨_, _, _, _, _, hz, hn⟩ := hW
  refine ⟨hok, _, _, ([] ++ pa) ++ pv, ⟨[] ++ pa, pv, trodAll_append (hargs _ (fun _ _ => rfl)) (hres _ _ _), hvars _ (fun _ _ => rfl), rfl, ?_, ?_⟩, ?_⟩
  ·intro b off hp
   have hm : MemPlace.cell b off ∈ before := by rw [hps]; simpa using hp
   have h1 := hz b off hm
   rw [hg.below.frozen (hlt _ hm)]
   exact h1
  ·intro ha; cases ha
  ·intro p hp _
   rw [hps]
   simpa using hp
def lst : List (String × DataW Unit) := [("math/bits.deBruijn32tab", Rows.laid_math_bits_deBruijn32tab), ("math/bits.deBruijn64tab", Rows.laid_math_bits_deBruijn64tab), ("internal/strconv.uint64pow10", Rows.laid_internal_strconv_uint64pow10)]
theorem laid_place {P : Program} {w : World} : ∀ {l : List (String × DataW Unit)} {ps : List MemPlace}, DataW.LaidVars P w l ps → ∀ n d, (n, d) ∈ l →
  ∃ g t cs fuel p, P.globalNamed n = some g ∧ (P.globals[g]?).map (·.type) = some t ∧ w.var? P n = some cs ∧ DataW.trod (fun _ => ()) P w 0 (fun _ => true) false fuel t cs.toList = some (d, p) ∧ ∀ x ∈ MemPlace.row ⟨g, 0, none⟩ cs.size, x ∈ ps
 | [], _, _, _, _, hm => by cases hm
 | (n', d') :: r, ps, h, n, d, hm => by
  obtain ⟨g, t, cs, fuel, p, q, h1, h2, h3, h4, h5, rfl⟩ := h
  rcases List.mem_cons.1 hm with e | e
  ·cases e
   exact ⟨g, t, cs, fuel, p, h1, h2, h3, h4, fun x hx => by simp [hx]⟩
  ·obtain ⟨g', t', cs', fuel', p', k1, k2, k3, k4, k5⟩ := laid_place h5 n d e
   exact ⟨g', t', cs', fuel', p', k1, k2, k3, k4, fun x hx => by simp [k5 x hx]⟩
theorem laid_block {w : World} (h : laidMet Tryz.prog lst w) (n : String) (d : DataW Unit) (hm : (n, d) ∈ lst) (g : Nat) (t : TypeId) (hg : Tryz.prog.globalNamed n = some g) (ht : (Tryz.prog.globals[g]?).map (·.type) = some t) :
  ∃ cs fuel p, DataW.trod (fun _ => ()) Tryz.prog w 0 (fun _ => true) false fuel t cs.toList = some (d, p) ∧ (0 < cs.size → ∃ ty, w.heap[g]? = some (.cells cs ty (0, 0))) := by
 obtain ⟨ps, hv, _, hc⟩ := h
 obtain ⟨g', t', cs, fuel, p, k1, k2, k3, k4, k5⟩ := laid_place hv n d hm
 obtain rfl := Option.some.inj (hg.symm.trans k1)
 obtain rfl := Option.some.inj (ht.symm.trans k2)
 refine ⟨cs, fuel, p, k4, fun h0 => ?_⟩
 obtain ⟨⟨c, ty, e1⟩, _⟩ := hc g 0 (k5 _ (List.mem_map.2 ⟨0, List.mem_range.2 h0, rfl⟩))
 unfold World.var? at k3
 rw [hg] at k3
 simp only [Option.bind_some, e1, Option.some.injEq] at k3
 subst k3
 exact ⟨ty, e1⟩
theorem gw_of_laid {w : World} (h : laidMetH Tryz.prog lst w) : GW w (fun _ _ => False) := by
 rw [MakeChecks.laidMetH_plain _ _ _ (by kernel_rfl)] at h
 intro q hq
 have hq : q ∈ gblocks := hq
 unfold gblocks at hq
 rcases List.mem_cons.1 hq with rfl | hq
 ·obtain ⟨cs, fuel, p, k1, k2⟩ := laid_block h "internal/strconv.uint64pow10" _ (List.mem_cons_of_mem _ (List.mem_cons_of_mem _ (List.mem_cons_self ..))) 0 166 (by kernel_rfl) (by kernel_rfl)
  have e1 := Lib.cells_of_tab (k := .u64) (zs := Lib.pow10Tab) Tryz.underlying166 Tryz.underlying147 (by kernel_rfl) (by kernel_rfl) k1
  have e2 : cs = ⟨Lib.pow10Tab.map fun z => Value.int .u64 z⟩ := by rw [← e1]
  have hs : cs.size = 20 := by rw [e2]; rfl
  obtain ⟨ty, e3⟩ := k2 (by omega)
  refine ⟨cs, ty, e3, ?_, by omega, fun _ _ h => h⟩
  show cs = _
  rw [e2]; rfl
 ·cases hq
end Go.Proofs.YtjgimofnepechaaGreatDoor
namespace Go.Proofs.YtjgimofnepechaaGreatDoor
open Go.ChangeShapes Go.WideShapes Go.ChangeAt Go.RowKit
structure Opn (t : TypeId) {α : Type} (e : α → D) (b : α → Nat) (ok : α → Prop) : Prop where
 go : ∀ (H : Type) (enc : TypeId × Value → H) (W : World) (hd : Bool) (n : Nat) (cs : List Value) (x : DataW H × List MemPlace),
  DataW.trod enc Tryz.prog W 0 (fun _ => true) hd n t cs = some x → ∃ a, Rn W (fun _ _ => False) (e a).cells cs ∧ b a ≤ Rows.uptoBulk x.1 ∧ ok a
def bkS (l : List UInt8) : Nat := l.length + 1
def bk1 {α : Type} (_ : α) : Nat := 1
def bkL {α : Type} (b : α → Nat) (l : List α) : Nat := (l.map b).sum + 1
def okI (n : Int) : Prop := -9223372036854775808 ≤ n ∧ n ≤ 9223372036854775807
def okT {α : Type} (_ : α) : Prop := True
def okL {α : Type} (ok : α → Prop) (l : List α) : Prop := ∀ a ∈ l, ok a
theorem Opn.str {t : TypeId} (ht : Tryz.prog.underlying t = some .string) : Opn t dS bkS okT := ⟨fun H enc W hd n cs x h => by
 obtain ⟨s, rfl, rfl, _⟩ := DataW.trod_string ht h
 refine ⟨bl s, ?_, ?_, trivial⟩
 ·show Rn _ _ [.v (Proofs.YtjgimofnepechaaGreatDoor.str (bl s))] _
  rw [str_bl]
  exact .acons _ _ _ _ (.v _) .anil
 ·exact Nat.le_refl _⟩
theorem Opn.int {t : TypeId} (ht : Tryz.prog.underlying t = some (.int .i64)) : Opn t dI bk1 okI := ⟨fun H enc W hd n cs x h => by
 obtain ⟨m, rfl, rfl, hw⟩ := DataW.trod_int ht h
 refine ⟨m, ?_, Nat.le_refl _, ?_⟩
 ·exact .acons _ _ _ _ (.v _) .anil
 ·simpa [okI, Lit.wf, IntKind.min, IntKind.max, IntKind.signed, IntKind.bits] using hw⟩
theorem Opn.bool {t : TypeId} (ht : Tryz.prog.underlying t = some .bool) : Opn t dB bk1 okT := ⟨fun H enc W hd n cs x h => by
 obtain ⟨m, rfl, rfl⟩ := DataW.trod_bool ht h
 exact ⟨m, .acons _ _ _ _ (.v _) .anil, Nat.le_refl _, trivial⟩⟩
theorem addr_plain {w : World} {a : Addr} {x : Value} (j : Nat) (h : w.cell? (a.add j) = some x) : (j = 0 → a.spot = none) ∧ w.cell? ⟨a.block, a.off + j, none⟩ = some x := by
 have hspot : (a.add j).spot = none := by
  cases hsp : (a.add j).spot with
  | none => rfl
  | some s =>
   simp only [World.cell?] at h
   split at h
   ·simp [hsp] at h
   ·cases h
 unfold Addr.add at hspot h
 by_cases h0 : j = 0
 ·subst h0
  rw [if_pos rfl] at h hspot
  refine ⟨fun _ => hspot, ?_⟩
  cases a
  simp_all
 ·rw [if_neg h0] at h
  exact ⟨fun h => absurd h h0, h⟩
theorem bulkAll_append {H : Type} : ∀ (l m : List (DataW H)), Rows.uptoBulkAll (l ++ m) = Rows.uptoBulkAll l + Rows.uptoBulkAll m
 | [], m => by simp [Rows.uptoBulkAll]
 | d :: l, m => by simp only [List.cons_append, Rows.uptoBulkAll, bulkAll_append l m]; omega
theorem Opn.slice {t el : TypeId} {α : Type} {e : α → D} {b : α → Nat} {ok : α → Prop} {sz : Nat} (ht : Tryz.prog.underlying t = some (.slice el)) (hz : Tryz.prog.cellsOf el = sz) (h0 : 0 < sz)
  (he : Opn el e b ok) (hc : ∀ a, (e a).cells.length = sz) : Opn t (dL sz e) (bkL b) (okL ok) := ⟨fun H enc W hd n cs x h => by
 rcases DataW.trod_slice ht h with ⟨rfl, rfl⟩ | ⟨a, len, cap, elems, rest, m, _, rfl, rfl, _, hlc, _, hlen, hel, hsp, _⟩
 ·exact ⟨[], .acons _ _ _ _ (.slnil sz none) .anil, Nat.le_refl _, fun _ h => by cases h⟩
 ·rw [hz] at hel hsp
  obtain ⟨hrl, hr⟩ := hsp rfl
  by_cases hc0 : cap = 0
  ·have hl0 : len = 0 := by omega
   subst hl0; subst hc0
   refine ⟨[], .acons _ _ _ _ (.slnil sz (some a)) .anil, ?_, fun _ h => by cases h⟩
   simp [bkL, Rows.uptoBulk]
  ·have hspot : a.spot = none := by
    have : ∃ (q : List Value → Option (DataW H × List MemPlace)) (y : DataW H × List MemPlace), (W.cells? 0 (a.add (0 * sz)) sz).bind q = some y := by
     by_cases hl : 0 < len
     ·have := hel 0 hl
      rw [List.getElem?_eq_getElem (by omega)] at this
      exact ⟨_, _, this⟩
     ·have := hr 0 (by omega)
      rw [List.getElem?_eq_getElem (by omega), show len + 0 = 0 by omega] at this
      exact ⟨_, _, this⟩
    obtain ⟨q, y, hy⟩ := this
    obtain ⟨cs', h1, _⟩ := Option.bind_eq_some_iff.1 hy
    obtain ⟨_, h2, h3⟩ := World.cells?_some h1
    have h4 := h3 0 h0
    rw [List.getElem?_eq_getElem (by omega), Nat.zero_mul, Deep.add_add] at h4
    exact (addr_plain _ h4).1 rfl
   have key : ∀ k, k ≤ len → ∃ (l : List α) (vs : List Value), l.length = k ∧ vs.length = k * sz ∧ Rn W (fun _ _ => False) ((l.map e).flatMap D.cells) vs ∧
     (∀ j y, vs[j]? = some y → W.cell? ⟨a.block, a.off + j, none⟩ = some y) ∧ (l.map b).sum ≤ Rows.uptoBulkAll ((elems.take k).map (·.1)) ∧ ∀ z ∈ l, ok z := by
    intro k
    induction k with
    | zero => exact fun _ => ⟨[], [], rfl, by simp, .anil, fun j y hj => by simp at hj, by simp [Rows.uptoBulkAll], fun _ h => by cases h⟩
    | succ k ih =>
     intro hk
     obtain ⟨l, vs, l1, l2, l3, l4, l5, l6⟩ := ih (by omega)
     have hk' : k < elems.length := by omega
     have h1 := hel k (by omega)
     rw [List.getElem?_eq_getElem hk'] at h1
     obtain ⟨cs', h1, h2⟩ := Option.bind_eq_some_iff.1 h1
     obtain ⟨_, h3, h4⟩ := World.cells?_some h1
     obtain ⟨z, r1, r2, r3⟩ := he.go H enc W hd m cs' _ h2
     refine ⟨l ++ [z], vs ++ cs', by simp [l1], by rw [List.length_append, l2, h3, Nat.add_mul]; omega, ?_, fun j y hj => ?_, ?_, ?_⟩
     ·rw [List.map_append, List.flatMap_append]
      refine l3.append ?_
      simpa using r1
     ·by_cases hjv : j < vs.length
      ·rw [List.getElem?_append_left hjv] at hj
       exact l4 j y hj
      ·rw [List.getElem?_append_right (by omega)] at hj
       have hj' : j - vs.length < sz := by
        rcases Nat.lt_or_ge (j - vs.length) sz with h | h
        ·exact h
        ·rw [List.getElem?_eq_none (by omega)] at hj; cases hj
       have := h4 _ hj'
       rw [hj, Deep.add_add] at this
       have := (addr_plain _ this).2
       rwa [show k * sz + (j - vs.length) = j by omega] at this
     ·rw [List.take_add_one, List.getElem?_eq_getElem hk', List.map_append, List.map_append, bulkAll_append, List.sum_append]
      have : Rows.uptoBulkAll ((some elems[k]).toList.map (·.1)) = Rows.uptoBulk elems[k].1 := by simp [Rows.uptoBulkAll]
      rw [this]
      simp only [List.map_cons, List.map_nil, List.sum_cons, List.sum_nil]
      omega
     ·intro w hw
      rcases List.mem_append.1 hw with hw | hw
      ·exact l6 w hw
      ·rw [List.mem_singleton] at hw
       exact hw ▸ r3
   obtain ⟨l, vs, l1, l2, l3, l4, l5, l6⟩ := key len (Nat.le_refl _)
   refine ⟨l, ?_, ?_, l6⟩
   ·have := RD.sl (w := W) (S := fun _ _ => False) sz (l.map e) vs a.block a.off cap l3 (fun i y hi => ⟨l4 i y hi, fun h => h⟩) (fun d hd' => by
     obtain ⟨z, _, rfl⟩ := List.mem_map.1 hd'
     exact hc z) (by rw [List.length_map]; omega)
    rw [List.length_map, l1] at this
    have ha : a = ⟨a.block, a.off, none⟩ := by cases a; simp at hspot; subst hspot; rfl
    rw [← ha] at this
    exact .acons _ _ _ _ this .anil
   ·rw [List.take_of_length_le (by omega)] at l5
    simp only [bkL, Rows.uptoBulk]
    omega⟩
theorem Opn.top {t : TypeId} {α : Type} {e : α → D} {b : α → Nat} {ok : α → Prop} (he : Opn t e b ok) {H : Type} {enc : TypeId × Value → H} {W : World} {v : Value} {d : DataW H} {p : List MemPlace}
  (hv : v.cells = #[v]) (h1 : (fun a => (e a).cells) = fun a => [e a]) (h : DataW.Trod enc Tryz.prog W 0 (fun _ => true) true t v d p) : ∃ a, R1 W (fun _ _ => False) (e a) v ∧ b a ≤ Rows.uptoBulk d ∧ ok a := by
 obtain ⟨n, hn⟩ := h
 rw [hv] at hn
 obtain ⟨a, r1, r2, r3⟩ := he.go H enc W true n _ _ hn
 rw [show (e a).cells = [e a] from congrFun h1 a] at r1
 refine ⟨a, ?_, r2, r3⟩
 cases r1 with | acons _ _ _ _ h1 h2 => exact h1
theorem slice_cells {W : World} {base : Nat} {t el : TypeId} {v : Value} (ht : Tryz.prog.underlying t = some (.slice el)) (hv : Value.okWide Tryz.prog W .any base t v) : v.cells = #[v] := by
 obtain ⟨a, len, cap, rfl⟩ := okWide_slice ht hv
 rfl
theorem stays {H : Type} {enc : TypeId × Value → H} {W W' : World} {t : TypeId} {v : Value} {d : DataW H} {ps : List MemPlace} {sp : Nat → Bool} (hl : laidOutB Tryz.prog = true) (hr : Tryz.prog.readableRec t = true) (hrow : t < Tryz.prog.types.size)
  (h : DataW.Trod enc Tryz.prog W 0 (fun _ => true) true t v d ps) (hg : Grows W W') (hlt : ∀ x ∈ ps, x.block < W.heap.size) (hs : ∀ x ∈ ps, sp x.block = true) :
  DataW.Trod enc Tryz.prog W' 0 sp true t v d ps :=
 WideElems.Trod_stays hl hr hrow h (fun x hx => hg.below.same (hlt x hx)) hs
theorem slice_len {H : Type} {enc : TypeId × Value → H} {W : World} {t el : TypeId} {v : Value} {d : DataW H} {p : List MemPlace} {S : Nat → Nat → Prop} {sz : Nat} {l : List D} (ht : Tryz.prog.underlying t = some (.slice el)) (hv : v.cells = #[v])
  (h : DataW.Trod enc Tryz.prog W 0 (fun _ => true) true t v d p) (hr : R1 W S (.sl sz l) v) : l.length ≤ 9223372036854775807 := by
 obtain ⟨n, hn⟩ := h
 rw [hv] at hn
 rcases DataW.trod_slice ht hn with ⟨h1, _⟩ | ⟨a, len, cap, elems, rest, m, _, h1, _, _, h2, h3, _⟩
 ·obtain rfl : v = .slice none 0 0 := by simpa using h1
  cases hr with | slnil => simp
 ·obtain rfl : v = .slice (some a) len cap := by simpa using h1
  have h3 : cap ≤ 2 ^ 63 - 1 := h3
  cases hr with
  | slnil => simp
  | sl => omega
end Go.Proofs.YtjgimofnepechaaGreatDoor
