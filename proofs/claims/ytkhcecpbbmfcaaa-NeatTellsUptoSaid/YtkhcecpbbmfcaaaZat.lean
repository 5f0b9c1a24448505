/- From a function of data to a row of the statements. -/
import Derived.Test.YtkhcecpbbmfcaaaZae
import Derived.Test.YtkhcecpbbmfcaaaZak
import Derived.Test.YtkhcecpbbmfcaaaZao
import Derived.Test.YtkhcecpbbmfcaaaZap
import Derived.Test.YtkhcecpbbmfcaaaZaq
import Derived.Test.YtkhcecpbbmfcaaaZas
import Derived.Test.YtkhcecpbbmfcaaaRows
import Derived.WalkKit
import Derived.ProofKit
import Derived.OpenShut
import Derived.JoinedCond
import Derived.ShutString
set_option linter.unusedVariables false
set_option linter.unusedSimpArgs false
namespace Go.Proofs.Ytkhcecpbbmfcaaa
open Go.ChangeShapes Go.WideShapes Go.ChangeAt Go.RowKit
theorem own : ownKnob Try.prog.godebug = none := by kernel_rfl
theorem Grows.below {w w' : World} (h : Grows w w') : Below w.heap.size w w' := ⟨h.os, h.tape, h.output, h.size, h.block⟩
theorem post_of_grows {H : Type} {enc : TypeId × Value → H} {P : Program} {f : Func} {s : ChangeSpec} {fresh handsOn again : Bool} {W W' : World} {args : Array Value} {v : Value} {ds gs : List (DataW H)} {before pa pv : List MemPlace}
    (hW : DataW.Whole enc P f.params.toList s.vars false W args.toList ds gs before)
    (hres : ∀ (b : Nat) (sp : Nat → Bool) (hd : Bool), DataW.TrodAll enc P W' b sp hd f.resultTypes.toList (v.resultList f.resultTypes.size) (s.fn H (ds ++ gs)).results [])
    (hargs : ∀ sp : Nat → Bool, (∀ p ∈ before, sp p.block = true) → DataW.TrodAll enc P W' 0 sp true f.params.toList args.toList (s.fn H (ds ++ gs)).args pa)
    (hvars : ∀ sp : Nat → Bool, (∀ p ∈ before, sp p.block = true) → DataW.TrodVars enc P W' sp s.vars (s.fn H (ds ++ gs)).vars pv)
    (hps : before = pa ++ pv) (hg : Grows W W')
    (hok : ∀ (j : Nat) (t : TypeId) (r : Value), f.resultTypes[j]? = some t → (v.resultList f.resultTypes.size)[j]? = some r → Value.okWide P W' .any 0 t r) :
    s.post enc P f false fresh handsOn again W args v W' := by
  have hlt := hW.lt
  refine ⟨ds, gs, before, [], pa, pv, hW, hres _ _ _, hargs _ (fun p hp => by simpa using hlt p hp), hvars _ (fun p hp => by simpa using hlt p hp), World.keptBut_mono (fun p hp => ⟨hp, ?_⟩) (hg.below.frame (· ∈ before)), fun _ => ?_⟩
  · rw [hps, List.mem_append] at hp
    exact Or.inr hp
  · obtain ⟨_, _, _, _, _, hz, hn⟩ := hW
    refine ⟨hok, _, _, ([] ++ pa) ++ pv, ⟨[] ++ pa, pv, trodAll_append (hargs _ (fun _ _ => rfl)) (hres _ _ _), hvars _ (fun _ _ => rfl), rfl, ?_, ?_⟩, ?_⟩
    · intro b off hp
      have hm : MemPlace.cell b off ∈ before := by rw [hps]; simpa using hp
      have h1 := hz b off hm
      rw [hg.below.frozen (hlt _ hm)]
      exact h1
    · intro ha; cases ha
    · intro p hp _
      rw [hps]
      simpa using hp
end Go.Proofs.Ytkhcecpbbmfcaaa
namespace Go.Proofs.Ytkhcecpbbmfcaaa
open Go.RowKit
def sticksV (a b : List UInt8) : Bool :=
  !(decide ((toksV 0 (a ++ b)).2.Err = 0) && (decide ((toksV 0 (a ++ b)).1.length = 2) && (decide (((toksV 0 (a ++ b)).1.getD 0 default).Text = a) && decide (((toksV 0 (a ++ b)).1.getD 1 default).Text = b))))
theorem lsticks_eq (a b : List UInt8) (h : a.length + b.length ≤ 1099511627776) : lex_Sticks a b = some (sticksV a b) := by
  unfold lex_Sticks sticksV
  rw [if_pos (by omega), ltokens_eq _ _ (by simp; omega)]
  generalize toksV 0 (a ++ b) = r
  simp only [Option.bind_some, lex_Sticks_j1, eqI, eqS]
  by_cases h1 : r.2.Err = 0
  · by_cases h2 : r.1.length = 2
    · have h2' : (r.1.length : Int) = 2 := by omega
      by_cases h3 : (r.1.getD 0 default).Text = a
      · simp only [h1, h2, h3]; rfl
      · simp only [h1, h2, h3]; rfl
    · have h2' : ¬ (r.1.length : Int) = 2 := by omega
      simp [h1, h2, h2']
  · simp [h1]
theorem rsticks_eq (a b : List UInt8) (h : a.length + b.length ≤ 1099511627776) : preref1_Sticks a b = some (sticksV a b) := by
  unfold preref1_Sticks sticksV
  rw [if_pos (by omega), rtokens_eq _ _ (by simp; omega)]
  generalize toksV 0 (a ++ b) = r
  simp only [Option.bind_some, preref1_Sticks_j1, eqI, eqS]
  by_cases h1 : r.2.Err = 0
  · by_cases h2 : r.1.length = 2
    · have h2' : (r.1.length : Int) = 2 := by omega
      by_cases h3 : (r.1.getD 0 default).Text = a
      · simp only [h1, h2, h3]; rfl
      · simp only [h1, h2, h3]; rfl
    · have h2' : ¬ (r.1.length : Int) = 2 := by omega
      simp [h1, h2, h2']
  · simp [h1]
def gapV (p : Option Token) (t : Token) : List UInt8 := if (p.map fun p => t.Space || sticksV p.Text t.Text).getD false = true then [32] else []
def joinG : Option Token → List Token → List UInt8
  | _, [] => []
  | p, t :: r => gapV p t ++ t.Text ++ joinG (some t) r
def joinV (l : List Token) : List UInt8 := joinG none l
def before (l : List Token) (k : Nat) : Option Token := if k = 0 then none else some (l.getD (k - 1) default)
theorem tok_drop (l : List Token) (k : Nat) (h : k < l.length) : l.drop k = l.getD k default :: l.drop (k + 1) := by
  rw [List.drop_eq_getElem_cons h]; simp [List.getD_eq_getElem?_getD, List.getElem?_eq_getElem h]
theorem join_loop {b : (List UInt8 × Int × Int) → Option ((List UInt8 × Int × Int) ⊕ List UInt8)} (l : List Token) (hl : ∀ t ∈ l, t.Text.length ≤ 1048576)
    (hb : ∀ (x : List UInt8) (k : Nat), k ≤ l.length → x.length ≤ 4611686018427387904 → b (x, (l.length : Int), (k : Int)) = if k < l.length then some (.inl (x ++ (gapV (before l k) (l.getD k default) ++ (l.getD k default).Text), (l.length : Int), ((k + 1 : Nat) : Int))) else some (.inr x)) :
    ∀ (n k : Nat) (x : List UInt8), k ≤ l.length → l.length - k ≤ n → x.length + (l.length - k) * 1048577 ≤ 4611686018427387904 → loopO b (x, (l.length : Int), (k : Int)) = some (x ++ joinG (before l k) (l.drop k))
  | n, k, x, hk, hn, hx => by
    rw [loopO_step, hb x k hk (by omega)]
    by_cases h : k < l.length
    · rw [if_pos h, tok_drop l k h]
      cases n with
      | zero => omega
      | succ n =>
        simp only [stepO]
        have ht := hl (l.getD k default) (by rw [List.getD_eq_getElem?_getD, List.getElem?_eq_getElem h]; exact List.getElem_mem h)
        have hg : (gapV (before l k) (l.getD k default)).length ≤ 1 := by unfold gapV; split <;> simp
        have hm : (l.length - k) * 1048577 = (l.length - (k + 1)) * 1048577 + 1048577 := by
          rw [show l.length - k = l.length - (k + 1) + 1 by omega, Nat.add_mul]
        rw [join_loop l hl hb n (k + 1) _ (by omega) (by omega) (by rw [List.length_append, List.length_append]; omega)]
        have : before l (k + 1) = some (l.getD k default) := by unfold before; rw [if_neg (by omega)]; rfl
        rw [this]
        simp only [joinG, List.append_assoc]
    · rw [if_neg h, List.drop_of_length_le (by omega)]
      simp [stepO, joinG]
theorem ljoin_eq (l : List Token) (hn : l.length ≤ 1099511627776) (hl : ∀ t ∈ l, t.Text.length ≤ 1048576) : lex_Join l = some (joinV l) := by
  unfold lex_Join
  have := join_loop (b := lex_Join_b1 l) l hl (fun x k hk hx => ?_) _ 0 [] (Nat.zero_le _) (Nat.le_refl _) (by rw [List.length_nil]; omega)
  · rw [show (0 : Int) = ((0 : Nat) : Int) from rfl, this]; rfl
  · by_cases h : k < l.length
    · have ht := hl (l.getD k default) (by rw [List.getD_eq_getElem?_getD, List.getElem?_eq_getElem h]; exact List.getElem_mem h)
      have hj3 : ∀ b, gapV (before l k) (l.getD k default) = (if b = true then [32] else []) → lex_Join_j3 x (l.length : Int) (k : Int) (b, (l.getD k default).Kind, (l.getD k default).Text, (l.getD k default).Space, (l.getD k default).First, (l.getD k default).File, (l.getD k default).At, (l.getD k default).End, (l.getD k default).Line, (l.getD k default).Hide, (l.getD k default).Calls, (l.getD k default).Made) = some (.inl (x ++ (gapV (before l k) (l.getD k default) ++ (l.getD k default).Text), (l.length : Int), ((k + 1 : Nat) : Int))) := fun b hb => by
        simp only [lex_Join_j3, lex_Join_j2]
        rw [hb, wN1 k (by omega)]
        cases b
        · rw [if_neg (by decide), if_pos (by omega)]; simp
        · rw [if_pos rfl, if_pos (by omega), if_pos (by rw [List.length_append, List.length_singleton]; omega)]; simp
      have h1 : (0 : Int) ≤ k ∧ k < l.length := by omega
      simp only [lex_Join_b1, ltI, decide_eq_true_eq, Int.toNat_natCast]
      rw [if_pos (show (k : Int) < l.length by omega), if_pos h1, if_pos h]
      by_cases h0 : k = 0
      · subst h0
        rw [if_neg (by omega)]
        exact hj3 false rfl
      · rw [if_pos (show (0 : Int) < (k : Int) by omega)]
        have hbf : before l k = some (l.getD (k - 1) default) := by unfold before; rw [if_neg h0]
        by_cases hs : (l.getD k default).Space = true
        · rw [if_pos hs]
          exact hj3 true (by rw [hbf]; simp only [gapV, Option.map_some, hs]; rfl)
        · rw [if_neg hs, wNm k (by omega)]
          simp only [Int.toNat_natCast]
          have hp := hl (l.getD (k - 1) default) (by rw [List.getD_eq_getElem?_getD, List.getElem?_eq_getElem (by omega)]; exact List.getElem_mem _)
          rw [if_pos (by omega), lsticks_eq _ _ (by omega)]
          simp only [Option.bind_some]
          have hs : (l.getD k default).Space = false := by simpa using hs
          exact hj3 _ (by rw [hbf]; simp only [gapV, Option.map_some, Option.getD_some, hs, Bool.false_or])
    · simp only [lex_Join_b1, ltI, decide_eq_true_eq, inrO]
      rw [if_neg (by omega), if_neg h]
      rfl
theorem rjoin_eq (l : List Token) (hn : l.length ≤ 1099511627776) (hl : ∀ t ∈ l, t.Text.length ≤ 1048576) : preref1_Join l = some (joinV l) := by
  unfold preref1_Join
  have := join_loop (b := preref1_Join_b1 l) l hl (fun x k hk hx => ?_) _ 0 [] (Nat.zero_le _) (Nat.le_refl _) (by rw [List.length_nil]; omega)
  · rw [show (0 : Int) = ((0 : Nat) : Int) from rfl, this]; rfl
  · by_cases h : k < l.length
    · have ht := hl (l.getD k default) (by rw [List.getD_eq_getElem?_getD, List.getElem?_eq_getElem h]; exact List.getElem_mem h)
      have hj3 : ∀ b, gapV (before l k) (l.getD k default) = (if b = true then [32] else []) → preref1_Join_j3 x (l.length : Int) (k : Int) (b, (l.getD k default).Kind, (l.getD k default).Text, (l.getD k default).Space, (l.getD k default).First, (l.getD k default).File, (l.getD k default).At, (l.getD k default).End, (l.getD k default).Line, (l.getD k default).Hide, (l.getD k default).Calls, (l.getD k default).Made) = some (.inl (x ++ (gapV (before l k) (l.getD k default) ++ (l.getD k default).Text), (l.length : Int), ((k + 1 : Nat) : Int))) := fun b hb => by
        simp only [preref1_Join_j3, preref1_Join_j2]
        rw [hb, wN1 k (by omega)]
        cases b
        · rw [if_neg (by decide), if_pos (by omega)]; simp
        · rw [if_pos rfl, if_pos (by omega), if_pos (by rw [List.length_append, List.length_singleton]; omega)]; simp
      have h1 : (0 : Int) ≤ k ∧ k < l.length := by omega
      simp only [preref1_Join_b1, ltI, decide_eq_true_eq, Int.toNat_natCast]
      rw [if_pos (show (k : Int) < l.length by omega), if_pos h1, if_pos h]
      by_cases h0 : k = 0
      · subst h0
        rw [if_neg (by omega)]
        exact hj3 false rfl
      · rw [if_pos (show (0 : Int) < (k : Int) by omega)]
        have hbf : before l k = some (l.getD (k - 1) default) := by unfold before; rw [if_neg h0]
        by_cases hs : (l.getD k default).Space = true
        · rw [if_pos hs]
          exact hj3 true (by rw [hbf]; simp only [gapV, Option.map_some, hs]; rfl)
        · rw [if_neg hs, wNm k (by omega)]
          simp only [Int.toNat_natCast]
          have hp := hl (l.getD (k - 1) default) (by rw [List.getD_eq_getElem?_getD, List.getElem?_eq_getElem (by omega)]; exact List.getElem_mem _)
          rw [if_pos (by omega), rsticks_eq _ _ (by omega)]
          simp only [Option.bind_some]
          have hs : (l.getD k default).Space = false := by simpa using hs
          exact hj3 _ (by rw [hbf]; simp only [gapV, Option.map_some, Option.getD_some, hs, Bool.false_or])
    · simp only [preref1_Join_b1, ltI, decide_eq_true_eq, inrO]
      rw [if_neg (by omega), if_neg h]
      rfl
def linesG : List Token → List Token → List (List Token)
  | m, [] => [m]
  | m, t :: r => if t.First = true then m :: linesG [t] r else linesG (m ++ [t]) r
def linesV : List Token → List (List Token)
  | [] => []
  | t :: r => linesG [t] r
theorem lines_j2 (l : List Token) (n : Int) (k : Nat) (x : List (List Token)) (m : List Token) (hx : x.length ≤ 1048577) (hm : m.length ≤ 1048577) (hk : k ≤ 1048576) :
    lex_Lines_j2 l n (k : Int) (some (x, m)) = some (.inl (some (x, m ++ [l.getD k default]), n, ((k + 1 : Nat) : Int))) := by
  unfold lex_Lines_j2
  show (if _ then (if _ then _ else _) else _) = _
  rw [if_pos (show x.length < 4611686018427387904 from Nat.lt_of_le_of_lt hx (by decide)), Int.toNat_natCast, List.length_singleton, if_pos (show (m.length + 1) * 120 ≤ 140737488355328 by omega), wN1 k (by omega)]
theorem lines_j3t (l : List Token) (n : Int) (k : Nat) (s : LinesS) (hs : linesLen s ≤ 1048577) : lex_Lines_j3 l n (k : Int) s true = lex_Lines_j2 l n (k : Int) (some (linesOut s, [])) := by
  unfold lex_Lines_j3
  show (if _ then _ else _) = _
  rw [if_pos rfl, if_pos (show (linesLen s + 1) * 24 ≤ 140737488355328 by omega)]
theorem lines_j3f (l : List Token) (n : Int) (k : Nat) (s : LinesS) : lex_Lines_j3 l n (k : Int) s false = lex_Lines_j2 l n (k : Int) s := by
  unfold lex_Lines_j3
  show (if _ then _ else _) = _
  rw [if_neg (by decide)]
theorem lines_b1 (l : List Token) (k : Nat) (s : LinesS) : lex_Lines_b1 l (s, (l.length : Int), (k : Int)) = if k < l.length then lex_Lines_j3 l (l.length : Int) (k : Int) s ((l.getD k default).First || decide (k = 0)) else some (.inr (linesOut s)) := by
  unfold lex_Lines_b1
  show (if _ then _ else _) = _
  rw [ltI_iff, Int.toNat_natCast]
  by_cases h : k < l.length
  · rw [if_pos (decide_eq_true (show (k : Int) < l.length by omega)), if_pos (show (0 : Int) ≤ k ∧ k < l.length by omega), if_pos h]
    cases hf : (l.getD k default).First
    · rw [if_neg (by decide), eqI_iff]
      congr 1
      rw [Bool.false_or]
      congr 1
      apply propext; omega
    · rw [if_pos rfl]; rfl
  · rw [if_neg (by simp; omega), if_neg h]; rfl
theorem lines_loop (l : List Token) (hl : l.length ≤ 1048576) : ∀ (n k : Nat) (x : List (List Token)) (m : List Token), 0 < k → k ≤ l.length → l.length - k ≤ n → x.length ≤ k → m.length ≤ k → loopO (lex_Lines_b1 l) (some (x, m), (l.length : Int), (k : Int)) = some (x ++ linesG m (l.drop k))
  | n, k, x, m, h0, hk, hn, hx, hm => by
    rw [loopO_step, lines_b1]
    by_cases h : k < l.length
    · rw [if_pos h, tok_drop l k h, decide_eq_false (show ¬ k = 0 by omega), Bool.or_false]
      cases n with
      | zero => omega
      | succ n =>
        cases hf : (l.getD k default).First
        · rw [lines_j3f, lines_j2 l _ k x m (by omega) (by omega) (by omega)]
          show loopO _ _ = _
          rw [lines_loop l hl n (k + 1) _ _ (by omega) (by omega) (by omega) (by omega) (by rw [List.length_append, List.length_singleton]; omega)]
          simp only [linesG, hf, if_false, Bool.false_eq_true]
        · rw [lines_j3t l _ k _ (by show x.length + 1 ≤ _; omega)]
          show stepO _ (lex_Lines_j2 l _ _ (some (x ++ [m], []))) = _
          rw [lines_j2 l _ k _ _ (by rw [List.length_append, List.length_singleton]; omega) (by simp) (by omega)]
          show loopO _ _ = _
          rw [List.nil_append, lines_loop l hl n (k + 1) _ _ (by omega) (by omega) (by omega) (by rw [List.length_append, List.length_singleton]; omega) (by rw [List.length_singleton]; omega)]
          simp only [linesG, hf, if_true, List.append_assoc, List.singleton_append]
    · rw [if_neg h, List.drop_of_length_le (by omega)]
      rfl
theorem lines_eqV (l : List Token) (hl : l.length ≤ 1048576) : lex_Lines l = some (linesV l) := by
  unfold lex_Lines
  rw [loopO_step]
  have := lines_b1 l 0 none
  rw [show ((0 : Nat) : Int) = 0 from rfl] at this
  rw [this]
  cases l with
  | nil => rfl
  | cons t r =>
    have e0 : (t :: r).getD 0 default = t := rfl
    have j3 := lines_j3t (t :: r) ((t :: r).length : Int) 0 none (by decide)
    rw [show ((0 : Nat) : Int) = 0 from rfl] at j3
    have j2 := lines_j2 (t :: r) ((t :: r).length : Int) 0 [] [] (by simp) (by simp) (by omega)
    rw [show ((0 : Nat) : Int) = 0 from rfl] at j2
    rw [if_pos (by simp), decide_eq_true rfl, Bool.or_true, j3]
    show stepO _ (lex_Lines_j2 _ _ _ (some ([], []))) = _
    rw [j2]
    show loopO _ _ = _
    have := lines_loop (t :: r) hl _ 1 [] [t] (by omega) (by simp) (Nat.le_refl _) (by simp) (by simp)
    rw [e0, List.nil_append, this]
    rfl
def lineOk (m : List Token) : Prop := ∃ t r, m = t :: r ∧ t.First = true ∧ ∀ x ∈ r, x.First = false
theorem linesG_ok : ∀ (r m : List Token), lineOk m → (linesG m r).flatten = m ++ r ∧ ∀ x ∈ linesG m r, lineOk x
  | [], m, h => by simp [linesG, h]
  | t :: r, m, h => by
    simp only [linesG]
    by_cases hf : t.First = true
    · rw [if_pos hf]
      obtain ⟨h1, h2⟩ := linesG_ok r [t] ⟨t, [], rfl, hf, by simp⟩
      refine ⟨by simp [h1], fun x hx => ?_⟩
      rcases List.mem_cons.1 hx with rfl | hx
      · exact h
      · exact h2 x hx
    · rw [if_neg hf]
      have hm : lineOk (m ++ [t]) := by
        obtain ⟨a, s, rfl, h1, h2⟩ := h
        refine ⟨a, s ++ [t], rfl, h1, fun x hx => ?_⟩
        rcases List.mem_append.1 hx with hx | hx
        · exact h2 x hx
        · rw [List.mem_singleton.1 hx]; simpa using hf
      obtain ⟨h1, h2⟩ := linesG_ok r (m ++ [t]) hm
      exact ⟨by simp [h1], h2⟩
theorem linesV_ok (l : List Token) (h : ∀ t r, l = t :: r → t.First = true) : (linesV l).flatten = l ∧ ∀ x ∈ linesV l, lineOk x := by
  cases l with
  | nil => simp [linesV]
  | cons t r => exact linesG_ok r [t] ⟨t, [], rfl, h t r rfl, by simp⟩
end Go.Proofs.Ytkhcecpbbmfcaaa
namespace Go.Proofs.Ytkhcecpbbmfcaaa
open Go.RowKit
theorem lxF_small : ∀ (n : Nat) (l : List UInt8) (i st : Nat) (f : Bool), (lxF n l i st f).1.length ≤ l.length ∧ ∀ t ∈ (lxF n l i st f).1, t.txt.length ≤ l.length
  | 0, l, i, st, f => by simp [lxF]
  | n + 1, l, i, st, f => by
    unfold lxF
    split
    · simp
    split
    · simp
    split
    · simp
    · rename_i kind m hp
      have hm := piece_le hp
      have hd : (l.drop (skip l).1).length ≤ l.length := by simp
      obtain ⟨h1, h2⟩ := lxF_small n ((l.drop (skip l).1).drop m) (i + (skip l).1 + m) (nextP st ((l.drop (skip l).1).take m) (f || (skip l).2.1)) false
      rw [List.length_drop] at h1 h2
      refine ⟨?_, fun t ht => ?_⟩
      · simp only [List.length_cons]; omega
      · rcases List.mem_cons.1 ht with rfl | ht
        · simp only [List.length_take]; omega
        · have := h2 t ht; omega
theorem lxF_first (n : Nat) (l : List UInt8) (i st : Nat) (t : Raw) (r : List Raw) (h : (lxF n l i st true).1 = t :: r) : t.fst = true := by
  cases n with
  | zero => simp [lxF] at h
  | succ n =>
    unfold lxF at h
    split at h
    · simp at h
    split at h
    · simp at h
    split at h
    · simp at h
    · simp only [List.cons.injEq] at h
      rw [← h.1]; rfl
theorem toksV_small (file : Int) (text : List UInt8) : (toksV file text).1.length ≤ 3000 ∧ (∀ t ∈ (toksV file text).1, t.Text.length ≤ 3000 ∧ t.Hide = [] ∧ t.Calls = []) ∧ ∀ t r, (toksV file text).1 = t :: r → t.First = true := by
  unfold toksV
  split
  · simp
  · rename_i h
    have hl := spText_length text
    obtain ⟨h1, h2⟩ := lxF_small ((spText text).length + 1) (spText text) 0 0 true
    have h3 := lxF_first ((spText text).length + 1) (spText text) 0 0
    unfold raws
    generalize lxF ((spText text).length + 1) (spText text) 0 0 true = z at *
    obtain ⟨ts, o⟩ := z
    cases o with
    | none =>
      refine ⟨by simp only [List.length_map]; simp only at h1; omega, fun t ht => ?_, fun t r e => ?_⟩
      · obtain ⟨a, ha, rfl⟩ := List.mem_map.1 ht
        exact ⟨by have := h2 a ha; show a.txt.length ≤ 3000; omega, rfl, rfl⟩
      · cases ts with
        | nil => simp at e
        | cons a s =>
          simp only [List.map_cons, List.cons.injEq] at e
          rw [← e.1]
          exact h3 a s rfl
    | some p => simp
theorem lxF_piece : ∀ (n : Nat) (l : List UInt8) (i st : Nat) (f : Bool), ∀ t ∈ (lxF n l i st f).1, ∃ u path, piece u path = (t.kind, some t.len) ∧ t.txt = u.take t.len
  | 0, l, i, st, f => by simp [lxF]
  | n + 1, l, i, st, f => by
    unfold lxF
    split
    · simp
    split
    · simp
    split
    · simp
    · rename_i kind m hp
      intro t ht
      rcases List.mem_cons.1 ht with rfl | ht
      · exact ⟨_, _, hp, rfl⟩
      · exact lxF_piece n _ _ _ _ t ht
theorem toksV_piece (file : Int) (text : List UInt8) : ∀ t ∈ (toksV file text).1, ∃ u path n, piece u path = (t.Kind, some n) ∧ t.Text = u.take n := by
  unfold toksV
  split
  · simp
  · have h := lxF_piece ((spText text).length + 1) (spText text) 0 0 true
    unfold raws
    generalize lxF ((spText text).length + 1) (spText text) 0 0 true = z at *
    obtain ⟨ts, o⟩ := z
    cases o with
    | none =>
      intro t ht
      obtain ⟨a, ha, rfl⟩ := List.mem_map.1 ht
      obtain ⟨u, p, h1, h2⟩ := h a ha
      exact ⟨u, p, _, h1, h2⟩
    | some p => simp
theorem piece_name {u : List UInt8} {p : Bool} {n : Nat} (h : piece u p = (1, some n)) : ∃ c r, u = c :: r ∧ isLet c = true ∧ n = runN isWd u := by
  unfold piece at h
  split at h
  · cases h
  · rename_i c r
    split at h
    · rename_i hc
      exact ⟨c, r, rfl, hc, by cases h; rfl⟩
    all_goals (repeat' (split at h)) <;> (simp only [Prod.mk.injEq] at h; exact absurd h.1 (by decide))
def nameOk (l : List Token) : Prop := ∀ t ∈ l, t.Kind = 1 → t.Text ≠ [44] ∧ t.Text ≠ [41]
theorem toks_nameOk (file : Int) (text : List UInt8) : nameOk (toksV file text).1 := fun t ht hk => by
  obtain ⟨u, p, n, h1, h2⟩ := toksV_piece file text t ht
  rw [hk] at h1
  obtain ⟨c, r, rfl, hc, rfl⟩ := piece_name h1
  have hn : 0 < runN isWd (c :: r) := by simp [runN, List.takeWhile_cons, isWd, hc]
  obtain ⟨m, hm⟩ : ∃ m, runN isWd (c :: r) = m + 1 := ⟨runN isWd (c :: r) - 1, by omega⟩
  rw [h2, hm, List.take_succ_cons]
  constructor <;> intro h <;> (injection h with h _; rw [h] at hc; exact absurd hc (by decide))
end Go.Proofs.Ytkhcecpbbmfcaaa
namespace Go.Proofs.Ytkhcecpbbmfcaaa
open Go.RowKit
theorem dec_and {p q : Prop} [Decidable p] [Decidable q] (h : q) : decide p = decide (p ∧ q) := by simp [h]
def isC (t : Token) (c : List UInt8) : Bool := decide (t.Kind = 5 ∧ t.Text = c)
def stepD (d : Nat) (t : Token) : Nat := if isC t [123] = true then d + 1 else if isC t [125] = true then d - 1 else d
def lineN' (deep : Nat) (x : List Token) : Nat := if isC (x.getD 0 default) [35] = true then 0 else if isC (x.getD 0 default) [125] = true then deep - 1 else deep
def lineD (deep : Nat) (x : List Token) : Nat := if isC (x.getD 0 default) [35] = true then deep else x.foldl stepD deep
def lastSp (x : List Token) : List UInt8 := if (x.getD (x.length - 1) default).Text = [92] then [32] else []
def lineT (deep : Nat) (x : List Token) : List UInt8 := Lib.repeatL [32, 32] (lineN' deep x) ++ joinV x ++ lastSp x ++ [10]
def formV : Nat → List (List Token) → List UInt8
  | _, [] => []
  | d, x :: r => lineT d x ++ formV (lineD d x) r
def formR (s : List UInt8) : List UInt8 × Fault := if 3000 < s.length then ([], ⟨4, 0, 0⟩) else (s, ⟨0, -1, 0⟩)
def neatV (s : List UInt8) : List UInt8 × Fault := if (toksV 0 s).2.Err ≠ 0 then ([], (toksV 0 s).2) else formR (formV 0 (linesV (toksV 0 s).1))
theorem stepD_le (d : Nat) (t : Token) : stepD d t ≤ d + 1 := by unfold stepD; split; omega; split <;> omega
theorem foldD_le : ∀ (x : List Token) (d : Nat), x.foldl stepD d ≤ d + x.length
  | [], d => by simp
  | t :: x, d => by
    have h1 := foldD_le x (stepD d t)
    have h2 := stepD_le d t
    rw [List.foldl_cons, List.length_cons]; omega
theorem lineD_le (d : Nat) (x : List Token) : lineD d x ≤ d + x.length := by unfold lineD; split; omega; exact foldD_le x d
theorem lineN_le' (d : Nat) (x : List Token) : lineN' d x ≤ d := by unfold lineN'; split; omega; split <;> omega
def smallL (x : List Token) : Prop := 0 < x.length ∧ x.length ≤ 3000 ∧ ∀ t ∈ x, t.Text.length ≤ 3000
theorem joinG_len : ∀ (x : List Token) (p : Option Token), (∀ t ∈ x, t.Text.length ≤ 3000) → (joinG p x).length ≤ x.length * 3001
  | [], _, _ => by simp [joinG]
  | t :: x, p, h => by
    have h1 := joinG_len x (some t) fun y hy => h y (by simp [hy])
    have h2 := h t (by simp)
    have h3 : (gapV p t).length ≤ 1 := by unfold gapV; split <;> simp
    simp only [joinG, List.length_append, List.length_cons]; omega
theorem joinV_len {x : List Token} (h : smallL x) : (joinV x).length ≤ 9003000 := by
  have := joinG_len x none h.2.2
  have := h.2.1
  unfold joinV; omega
theorem lineT_len (d : Nat) {x : List Token} (h : smallL x) : (lineT d x).length ≤ 2 * d + 9003002 := by
  have h1 := joinV_len h
  have h2 := lineN_le' d x
  have h3 : (lastSp x).length ≤ 1 := by unfold lastSp; split <;> simp
  unfold lineT
  simp only [List.length_append, Lib.repeatL_length, List.length_cons, List.length_nil]; omega
theorem lineT_ne (d : Nat) (x : List Token) : lineT d x ≠ [] := by unfold lineT; simp
theorem wM1 (d : Nat) (h : d ≤ 4611686018427387904) : (if (0 : Int) > IntKind.i64.wrap ((d : Int) - 1) then (0 : Int) else IntKind.i64.wrap ((d : Int) - 1)) = ((d - 1 : Nat) : Int) := by
  rw [wr _ (by omega)]
  split <;> omega
theorem repeat_eq (n : Nat) (h : n ≤ 1099511627776) : strings_Repeat [32, 32] (n : Int) = some (Lib.repeatL [32, 32] n) := by
  unfold strings_Repeat
  rw [Int.toNat_natCast, if_pos]
  simp only [List.length_cons, List.length_nil]; omega
theorem wbyteN (c : UInt8) (b : Bool) (s : List UInt8) (h : s.length + 1 ≤ 140737488355328) : strings_Builder_WriteByte c b s = some (s ++ [c]) := by
  simp only [strings_Builder_WriteByte, strings_Builder_copyCheck, Option.bind_some]
  rw [if_pos h]
theorem wstring (x : List UInt8) (b : Bool) (s : List UInt8) (h : s.length + x.length ≤ 140737488355328) : strings_Builder_WriteString x b s = some ((x.length : Int), s ++ x) := by
  simp only [strings_Builder_WriteString, strings_Builder_copyCheck, Option.bind_some]
  rw [if_pos h]
theorem neat_line (n : Int) (deep i : Nat) (p : Bool) (s : List UInt8) (x : List Token) (hx : smallL x) (hd : deep ≤ 9000000) (hs : s.length ≤ 1099511627776) (hi : i ≤ 1099511627776) :
    loopO (neat_Text_b3 (deep : Int) n (i : Int) p s) ((deep : Int), x, x, (x.length : Int), 0) = some (.inl ((lineD deep x : Nat), n, ((i + 1 : Nat) : Int), true, s ++ lineT deep x)) := by
  obtain ⟨h0, h1, h2⟩ := hx
  have hj := ljoin_eq x (by omega) (fun t ht => by have := h2 t ht; omega)
  have hjl := joinV_len ⟨h0, h1, h2⟩
  have j5 : ∀ (d' k : Nat), k ≤ 9000000 → neat_Text_j5 n (i : Int) p s x ((d' : Int), (k : Int)) = some (.inl ((d' : Int), n, ((i + 1 : Nat) : Int), true, s ++ (Lib.repeatL [32, 32] k ++ joinV x ++ lastSp x ++ [10]))) := fun d' k hk => by
    have hrl : (Lib.repeatL [32, 32] k).length = k * 2 := Lib.repeatL_length _ _
    simp only [neat_Text_j5, repeat_eq k (by omega), hj, Option.bind_some]
    rw [if_pos (by omega), wstring _ _ _ (by rw [List.length_append]; omega), wNm _ (by omega)]
    simp only [Option.bind_some, Int.toNat_natCast, eqS, decide_eq_true_eq, neat_Text_j6, wN1 i (by omega)]
    rw [if_pos (by omega)]
    unfold lastSp
    by_cases hl : (x.getD (x.length - 1) default).Text = [92]
    · rw [if_pos hl, if_pos hl, wbyteN _ _ _ (by simp only [List.length_append]; omega)]
      simp only [Option.bind_some]
      rw [wbyteN _ _ _ (by simp only [List.length_append, List.length_cons, List.length_nil]; omega)]
      simp only [Option.bind_some, List.append_assoc]
    · rw [if_neg hl, if_neg hl, wbyteN _ _ _ (by simp only [List.length_append]; omega)]
      simp only [Option.bind_some, List.append_assoc, List.nil_append]
  have e := each_loop0 (b := neat_Text_b3 (deep : Int) n (i : Int) p s) x (fun k (d : Nat) => ((d : Int), x, x, (x.length : Int), (k : Int))) (fun d t => .inl (stepD d t))
    (fun d => .inl ((if isC (x.getD 0 default) [35] = true then deep else d : Nat), n, ((i + 1 : Nat) : Int), true, s ++ lineT deep x)) (fun k d => d ≤ deep + k) ?_ ?_ ?_ deep (by omega)
  · rw [show ((0 : Nat) : Int) = 0 from rfl] at e
    rw [e]
    congr 1
    have key : ∀ (l : List Token) (d : Nat), eachR (R := (Int × Int × Int × Bool × List UInt8) ⊕ (List UInt8 × Fault)) (fun d t => .inl (stepD d t)) (fun d => .inl ((if isC (x.getD 0 default) [35] = true then deep else d : Nat), n, ((i + 1 : Nat) : Int), true, s ++ lineT deep x)) d l =
        .inl ((if isC (x.getD 0 default) [35] = true then deep else l.foldl stepD d : Nat), n, ((i + 1 : Nat) : Int), true, s ++ lineT deep x) := by
      intro l
      induction l with
      | nil => intro d; rfl
      | cons t l ih => intro d; rw [eachR]; simp only; rw [ih, List.foldl_cons]
    rw [key]
    rfl
  · intro k d hdk hk
    simp only [neat_Text_b3, neat_Text_j4, ltI, eqS, decide_eq_true_eq, Int.toNat_natCast, wN1 k (by omega), wN1 d (by omega), wM1 d (by omega), nextS, stepD, isC]
    rw [if_pos (by omega), if_pos (by omega)]
    by_cases hk5 : (x.getD k default).Kind = 5
    · rw [if_neg (bi_neg hk5)]
      by_cases c1 : (x.getD k default).Text = [123]
      · rw [if_pos c1, if_pos ⟨hk5, c1⟩]
      · rw [if_neg c1, if_neg (show ¬ ((x.getD k default).Kind = 5 ∧ (x.getD k default).Text = [123]) from fun h => c1 h.2)]
        by_cases c2 : (x.getD k default).Text = [125]
        · rw [if_pos c2, if_pos ⟨hk5, c2⟩]
        · rw [if_neg c2, if_neg (fun h => c2 h.2)]
    · rw [if_pos (bi_pos hk5), if_neg (show ¬ ((x.getD k default).Kind = 5 ∧ (x.getD k default).Text = [123]) from fun h => hk5 h.1), if_neg (fun h => hk5 h.1)]
  · intro k d d' hdk hk h
    obtain rfl := Sum.inl.inj h
    have := stepD_le d (x.getD k default)
    omega
  · intro d hd'
    simp only [neat_Text_b3, ltI, decide_eq_true_eq, eqS]
    rw [if_neg (by omega), if_pos h0]
    have e8 : ∀ b : Bool, b = isC (x.getD 0 default) [125] → isC (x.getD 0 default) [35] = false → neat_Text_j8 (deep : Int) n (i : Int) p s (d : Int) x b = some (.inl ((d : Nat), n, ((i + 1 : Nat) : Int), true, s ++ lineT deep x)) := fun b hb hh => by
      have hln : lineN' deep x = if b = true then deep - 1 else deep := by unfold lineN'; rw [hh, hb, if_neg Bool.false_ne_true]
      unfold lineT
      rw [hln]
      simp only [neat_Text_j8, wM1 deep (by omega)]
      cases b with
      | true => rw [if_pos rfl, if_pos rfl, j5 d (deep - 1) (by omega)]
      | false => rw [if_neg Bool.false_ne_true, if_neg Bool.false_ne_true, j5 d deep (by omega)]
    have e7 : ∀ b : Bool, b = isC (x.getD 0 default) [35] → inrO (neat_Text_j7 (deep : Int) n (i : Int) p s (d : Int) x b) = some (.inr (.inl ((if isC (x.getD 0 default) [35] = true then deep else d : Nat), n, ((i + 1 : Nat) : Int), true, s ++ lineT deep x)) : (Int × List Token × List Token × Int × Int) ⊕ _) := fun b hb => by
      simp only [neat_Text_j7, eqS, decide_eq_true_eq]
      cases hbb : b with
      | true =>
        rw [hbb] at hb
        rw [if_pos rfl, ← hb, if_pos rfl]
        have := j5 deep 0 (by omega)
        rw [show ((0 : Nat) : Int) = 0 from rfl] at this
        rw [this]
        unfold lineT lineN'
        rw [← hb, if_pos rfl]; rfl
      | false =>
        rw [hbb] at hb
        rw [if_neg Bool.false_ne_true, if_pos h0, ← hb, if_neg Bool.false_ne_true]
        by_cases c2 : (x.getD 0 default).Text = [125]
        · rw [if_pos c2, if_pos h0, e8 (eqI (x.getD 0 default).Kind 5) (dec_and c2) hb.symm]; rfl
        · rw [if_neg c2, e8 _ (by unfold isC; exact (decide_eq_false fun h => c2 h.2).symm) hb.symm]; rfl
    by_cases c1 : (x.getD 0 default).Text = [35]
    · rw [if_pos c1, if_pos h0]
      exact e7 (eqI (x.getD 0 default).Kind 5) (dec_and c1)
    · rw [if_neg c1]
      exact e7 _ (by unfold isC; exact (decide_eq_false fun h => c1 h.2).symm)
theorem neat_end (r : List (List Token)) (i deep : Nat) (p : Bool) (s : List UInt8) (hi : i ≤ r.length) (h : ¬ i < r.length) (hs0 : s ≠ []) :
    loopO (neat_Text_b2 r) ((deep : Int), (r.length : Int), (i : Int), p, s) = some (formR (s ++ formV deep (r.drop i))) := by
  rw [loopO_step]
  simp only [neat_Text_b2, ltI, decide_eq_true_eq, strings_Builder_Len, Option.bind_some, strings_Builder_String]
  rw [if_neg (by omega), List.drop_of_length_le (by omega)]
  simp only [formV, List.append_nil, formR]
  by_cases h3 : 3000 < s.length
  · rw [if_pos (by omega), if_pos h3]; rfl
  · rw [if_neg (by omega), if_neg h3, if_neg (show ¬ s.isEmpty = true by simpa using hs0)]; rfl
theorem neat_step (r : List (List Token)) (hs : ∀ x ∈ r, smallL x) (i deep : Nat) (p : Bool) (s : List UInt8) (h : i < r.length) (hi : i ≤ 3000) (hd : deep ≤ 9000000) (hl : s.length ≤ 1099511627776) :
    neat_Text_b2 r ((deep : Int), (r.length : Int), (i : Int), p, s) = some (.inl (((lineD deep (r.getD i default) : Nat) : Int), (r.length : Int), ((i + 1 : Nat) : Int), true, s ++ lineT deep (r.getD i default))) := by
  have hx := hs _ (getD_mem r i default h)
  simp only [neat_Text_b2, ltI, decide_eq_true_eq, Int.toNat_natCast]
  rw [if_pos (by omega), if_pos (by omega), neat_line _ deep i p s _ hx hd hl (by omega)]
theorem neat_loop (r : List (List Token)) (hr : r.length ≤ 3000) (hs : ∀ x ∈ r, smallL x) : ∀ (n i deep : Nat) (p : Bool) (s : List UInt8), i ≤ r.length → r.length - i ≤ n → deep ≤ i * 3000 → s.length ≤ i * 30000000 → (s ≠ [] ∨ i < r.length) →
    loopO (neat_Text_b2 r) ((deep : Int), (r.length : Int), (i : Int), p, s) = some (formR (s ++ formV deep (r.drop i))) := by
  intro n
  induction n with
  | zero => exact fun i deep p s hi hn hd hl hne => neat_end r i deep p s hi (by omega) (hne.resolve_right (by omega))
  | succ n ih =>
    intro i deep p s hi hn hd hl hne
    by_cases h : i < r.length
    · have hx := hs _ (getD_mem r i default h)
      have h1 := lineD_le deep (r.getD i default)
      have h2 := lineT_len deep hx
      have h3 := hx.2.1
      rw [loopO_step, neat_step r hs i deep p s h (by omega) (by omega) (by omega), getD_drop r i default h]
      simp only [stepO]
      have hl2 : (s ++ lineT deep (r.getD i default)).length ≤ (i + 1) * 30000000 := by rw [List.length_append]; omega
      rw [ih (i + 1) (lineD deep (r.getD i default)) true (s ++ lineT deep (r.getD i default)) (by omega) (by omega) (by omega) hl2 (.inl fun e => lineT_ne deep (r.getD i default) (List.append_eq_nil_iff.1 e).2)]
      simp only [formV, List.append_assoc]
    · exact neat_end r i deep p s hi h (hne.resolve_right h)
theorem neat_first (r : List (List Token)) (h : 0 < r.length) : neat_Text_p1 r (r.length : Int) = neat_Text_b2 r (0, (r.length : Int), 0, false, []) := by
  have e : neat_Text_b9 (r.length : Int) = neat_Text_b3 0 (r.length : Int) 0 false [] := by
    funext ⟨a, b, c, d, e⟩
    rfl
  simp only [neat_Text_p1, neat_Text_b2, ltI, decide_eq_true_eq]
  rw [if_pos (by omega), if_pos h, if_pos (by omega), if_pos (by simpa using h), e]
  rfl
theorem lines_small (s : List UInt8) : (linesV (toksV 0 s).1).length ≤ 3000 ∧ ∀ x ∈ linesV (toksV 0 s).1, smallL x := by
  obtain ⟨h1, h2, h3⟩ := toksV_small 0 s
  obtain ⟨g1, g2⟩ := linesV_ok _ h3
  generalize (toksV 0 s).1 = l at *
  have key : ∀ L : List (List Token), (∀ x ∈ L, lineOk x) → L.length ≤ L.flatten.length ∧ ∀ x ∈ L, x.length ≤ L.flatten.length := by
    intro L
    induction L with
    | nil => simp
    | cons x L ih =>
      intro hL
      obtain ⟨i1, i2⟩ := ih fun y hy => hL y (by simp [hy])
      obtain ⟨t, r, rfl, _⟩ := hL x (by simp)
      simp only [List.flatten_cons, List.length_append, List.length_cons]
      refine ⟨by omega, fun y hy => ?_⟩
      rcases List.mem_cons.1 hy with rfl | hy
      · simp only [List.length_cons]; omega
      · have := i2 y hy; omega
  obtain ⟨k1, k2⟩ := key _ g2
  rw [g1] at k1 k2
  refine ⟨by omega, fun x hx => ?_⟩
  obtain ⟨t, r, rfl, _⟩ := g2 x hx
  refine ⟨by simp, by have := k2 _ hx; omega, fun y hy => (h2 y ?_).1⟩
  rw [← g1]
  exact List.mem_flatten.2 ⟨_, hx, hy⟩
theorem neat_eq (s : List UInt8) (hs : s.length ≤ 1099511627776) : neat_Text s = some (neatV s) := by
  unfold neat_Text neatV
  rw [ltokens_eq 0 s hs]
  simp only [Option.bind_some]
  obtain ⟨h1, _, _⟩ := toksV_small 0 s
  obtain ⟨l1, l2⟩ := lines_small s
  by_cases h : (toksV 0 s).2.Err = 0
  · rw [if_neg (bi_neg h), if_neg (fun h' => h' h), lines_eqV _ (by omega)]
    simp only [Option.bind_some]
    generalize linesV (toksV 0 s).1 = r at *
    cases r with
    | nil => rfl
    | cons x r =>
      rw [neat_first _ (by simp)]
      have e := neat_loop (x :: r) l1 l2 _ 0 0 false [] (by simp) (Nat.le_refl _) (by omega) (by simp) (.inr (by simp))
      rw [loopO_step] at e
      rw [show ((0 : Nat) : Int) = 0 from rfl, List.drop_zero, List.nil_append] at e
      rw [← e]
      cases neat_Text_b2 (x :: r) (0, ((x :: r).length : Int), 0, false, []) with
      | none => rfl
      | some o => cases o <;> rfl
  · rw [if_pos (bi_pos h), if_pos h]
end Go.Proofs.Ytkhcecpbbmfcaaa
namespace Go.Proofs.Ytkhcecpbbmfcaaa
open Go.RowKit
theorem rep_loop (n : Nat) (hn : n ≤ 9000000) {R : Type} {b : List UInt8 × Int → Option ((List UInt8 × Int) ⊕ R)} (s : List UInt8) (hs : s.length ≤ 1099511627776) (f : List UInt8 → R)
    (hb : ∀ (k : Nat), k ≤ n → b (s ++ Lib.repeatL [32, 32] k, (k : Int)) = if k < n then some (.inl (s ++ Lib.repeatL [32, 32] k ++ [32, 32], ((k + 1 : Nat) : Int))) else some (.inr (f (s ++ Lib.repeatL [32, 32] n)))) :
    loopO b (s, 0) = some (f (s ++ Lib.repeatL [32, 32] n)) := by
  have key : ∀ m k, k ≤ n → n - k ≤ m → loopO b (s ++ Lib.repeatL [32, 32] k, (k : Int)) = some (f (s ++ Lib.repeatL [32, 32] n)) := fun m => by
    induction m with
    | zero =>
      intro k hk hm
      rw [loopO_step, hb k hk, if_neg (by omega)]; rfl
    | succ m ih =>
      intro k hk hm
      rw [loopO_step, hb k hk]
      by_cases h : k < n
      · rw [if_pos h]
        simp only [stepO]
        have e : s ++ Lib.repeatL [32, 32] k ++ [32, 32] = s ++ Lib.repeatL [32, 32] (k + 1) := by rw [Lib.repeatL_add, Lib.repeatL_one, List.append_assoc]
        rw [e, ih (k + 1) (by omega) (by omega)]
      · rw [if_neg h]; rfl
  have := key n 0 (Nat.zero_le _) (by omega)
  rwa [show Lib.repeatL [32, 32] 0 = [] from rfl, List.append_nil] at this
theorem skip_loop {S R : Type} {b : Int → Option (Int ⊕ R)} : ∀ (n k : Nat), (∀ m, k ≤ m → m < k + n → b (m : Int) = some (.inl ((m + 1 : Nat) : Int))) → loopO b (k : Int) = loopO b ((k + n : Nat) : Int)
  | 0, k, _ => rfl
  | n + 1, k, h => by
    rw [loopO_step, h k (Nat.le_refl _) (by omega)]
    show loopO b ((k + 1 : Nat) : Int) = _
    rw [skip_loop (S := S) n (k + 1) fun m h1 h2 => h m (by omega) (by omega), show k + 1 + n = k + (n + 1) by omega]
theorem fmt_line (s : List UInt8) (deep j : Nat) (x : List Token) (hx : smallL x) (hd : deep ≤ 9000000) (hs : s.length ≤ 1099511627776) :
    loopO (preref9_Format_b4 s (deep : Int) (j : Int)) (x, (deep : Int), x, (x.length : Int), 0) = some (.inl (s ++ lineT deep x, ((lineD deep x : Nat) : Int), (j : Int))) := by
  obtain ⟨h0, h1, h2⟩ := hx
  have hj := rjoin_eq x (by omega) (fun t ht => by have := h2 t ht; omega)
  have hjl := joinV_len ⟨h0, h1, h2⟩
  have j9 : ∀ (k d' : Nat), k ≤ 9000000 → preref9_Format_j9 s (j : Int) x ((k : Int), (d' : Int)) = some (.inl (s ++ (Lib.repeatL [32, 32] k ++ joinV x ++ lastSp x ++ [10]), (d' : Int), (j : Int))) := fun k d' hk => by
    simp only [preref9_Format_j9]
    refine rep_loop k hk s hs (fun u => .inl (u ++ joinV x ++ lastSp x ++ [10], (d' : Int), (j : Int))) (fun m hm => ?_) |>.trans (by simp only [List.append_assoc])
    have hrl : (Lib.repeatL [32, 32] m).length = m * 2 := Lib.repeatL_length _ _
    simp only [preref9_Format_b10, preref9_Format_j11, ltI, eqS, decide_eq_true_eq, wN1 m (by omega), hj, Option.bind_some]
    by_cases h : m < k
    · rw [if_pos (by omega), if_pos (by rw [List.length_append]; omega), if_pos h]
    · have e : m = k := by omega
      subst e
      rw [if_neg (by omega), if_neg h, if_pos (by rw [List.length_append]; omega), wNm _ (by omega)]
      simp only [Int.toNat_natCast]
      rw [if_pos (by omega)]
      unfold lastSp
      by_cases hl : (x.getD (x.length - 1) default).Text = [92]
      · rw [if_pos hl, if_pos hl, if_pos (by simp only [List.length_append]; omega), if_pos (by simp only [List.length_append, List.length_cons, List.length_nil]; omega)]
        rfl
      · rw [if_neg hl, if_neg hl, if_pos (by simp only [List.length_append]; omega), List.append_nil]
        rfl
  have e := each_loop0 (b := preref9_Format_b4 s (deep : Int) (j : Int)) x (fun k (d : Nat) => (x, (d : Int), x, (x.length : Int), (k : Int))) (fun d t => .inl (stepD d t))
    (fun d => .inl (s ++ lineT deep x, ((if isC (x.getD 0 default) [35] = true then deep else d : Nat) : Int), (j : Int))) (fun k d => d ≤ deep + k) ?_ ?_ ?_ deep (by omega)
  · rw [show ((0 : Nat) : Int) = 0 from rfl] at e
    rw [e]
    congr 1
    have key : ∀ (l : List Token) (d : Nat), eachR (R := (List UInt8 × Int × Int) ⊕ (List UInt8 × Fault)) (fun d t => .inl (stepD d t)) (fun d => .inl (s ++ lineT deep x, ((if isC (x.getD 0 default) [35] = true then deep else d : Nat) : Int), (j : Int))) d l =
        .inl (s ++ lineT deep x, ((if isC (x.getD 0 default) [35] = true then deep else l.foldl stepD d : Nat) : Int), (j : Int)) := by
      intro l
      induction l with
      | nil => intro d; rfl
      | cons t l ih => intro d; rw [eachR]; simp only; rw [ih, List.foldl_cons]
    rw [key]
    rfl
  · intro k d hdk hk
    simp only [preref9_Format_b4, preref9_Format_j5, preref9_Format_j6, preref9_Format_j7, preref9_Format_j8, ltI, eqS, eqI, decide_eq_true_eq, Int.toNat_natCast, wN1 k (by omega), wN1 d (by omega), nextS, stepD, isC]
    rw [if_pos (by omega), if_pos (by omega)]
    by_cases hk5 : (x.getD k default).Kind = 5
    · rw [if_pos hk5]
      by_cases c1 : (x.getD k default).Text = [123]
      · rw [if_pos c1, if_pos hk5, if_neg (show ¬ (x.getD k default).Text = [125] from fun h => absurd (c1.symm.trans h) (by decide)), if_neg Bool.false_ne_true, if_pos (show ((x.getD k default).Kind = 5 ∧ (x.getD k default).Text = [123]) from ⟨hk5, c1⟩)]
      · rw [if_neg c1, if_pos hk5, if_neg (show ¬ ((x.getD k default).Kind = 5 ∧ (x.getD k default).Text = [123]) from fun h => c1 h.2)]
        by_cases c2 : (x.getD k default).Text = [125]
        · rw [if_pos c2, if_pos (show ((x.getD k default).Kind = 5 ∧ (x.getD k default).Text = [125]) from ⟨hk5, c2⟩)]
          by_cases hd0 : 0 < d
          · rw [if_pos (by omega), wNm d (by omega)]
          · rw [if_neg (by omega), show d - 1 = d by omega]
        · rw [if_neg c2, if_neg Bool.false_ne_true, if_neg (show ¬ ((x.getD k default).Kind = 5 ∧ (x.getD k default).Text = [125]) from fun h => c2 h.2)]
    · rw [if_neg hk5, if_neg Bool.false_ne_true, if_neg hk5, if_neg Bool.false_ne_true, if_neg (show ¬ ((x.getD k default).Kind = 5 ∧ (x.getD k default).Text = [123]) from fun h => hk5 h.1), if_neg (show ¬ ((x.getD k default).Kind = 5 ∧ (x.getD k default).Text = [125]) from fun h => hk5 h.1)]
  · intro k d d' hdk hk h
    obtain rfl := Sum.inl.inj h
    have := stepD_le d (x.getD k default)
    omega
  · intro d hd'
    simp only [preref9_Format_b4, ltI, decide_eq_true_eq, eqS, eqI]
    rw [if_neg (by omega), if_pos h0]
    have e13 : ∀ b : Bool, b = decide ((x.getD 0 default).Kind = 5 ∧ (x.getD 0 default).Text = [125] ∧ 0 < deep) → isC (x.getD 0 default) [35] = false → preref9_Format_j13 s (deep : Int) (j : Int) x (d : Int) b = some (.inl (s ++ lineT deep x, ((d : Nat) : Int), (j : Int))) := fun b hb hh => by
      have hln : lineN' deep x = if b = true then deep - 1 else deep := by
        unfold lineN'
        rw [hh, if_neg Bool.false_ne_true, hb]
        unfold isC
        by_cases g1 : (x.getD 0 default).Kind = 5 ∧ (x.getD 0 default).Text = [125]
        · rw [if_pos (decide_eq_true g1)]
          by_cases g2 : 0 < deep
          · rw [if_pos (decide_eq_true ⟨g1.1, g1.2, g2⟩)]
          · rw [if_neg (by simp only [decide_eq_true_eq]; exact fun h => g2 h.2.2)]; omega
        · rw [if_neg (by simp only [decide_eq_true_eq]; exact g1), if_neg (by simp only [decide_eq_true_eq]; exact fun h => g1 ⟨h.1, h.2.1⟩)]
      unfold lineT
      rw [hln]
      simp only [preref9_Format_j13]
      cases hbb : b with
      | true =>
        rw [hbb] at hb
        have hdp : 0 < deep := (of_decide_eq_true hb.symm).2.2
        rw [if_pos rfl, if_pos rfl, wNm deep (by omega), j9 (deep - 1) d (by omega)]
      | false => rw [if_neg Bool.false_ne_true, if_neg Bool.false_ne_true, j9 deep d (by omega)]
    have e12 : ∀ b : Bool, b = isC (x.getD 0 default) [35] → inrO (preref9_Format_j12 s (deep : Int) (j : Int) x (d : Int) b) = some (.inr (.inl (s ++ lineT deep x, ((if isC (x.getD 0 default) [35] = true then deep else d : Nat) : Int), (j : Int))) : (List Token × Int × List Token × Int × Int) ⊕ _) := fun b hb => by
      simp only [preref9_Format_j12, eqS, eqI, ltI, decide_eq_true_eq]
      cases hbb : b with
      | true =>
        rw [hbb] at hb
        rw [if_pos rfl, ← hb, if_pos rfl]
        have := j9 0 deep (by omega)
        rw [show ((0 : Nat) : Int) = 0 from rfl] at this
        rw [this]
        unfold lineT lineN'
        rw [← hb, if_pos rfl]; rfl
      | false =>
        rw [hbb] at hb
        rw [if_neg Bool.false_ne_true, if_pos h0, ← hb, if_neg Bool.false_ne_true]
        by_cases c5 : (x.getD 0 default).Kind = 5
        · rw [if_pos c5, if_pos h0]
          by_cases c2 : (x.getD 0 default).Text = [125]
          · rw [if_pos c2, e13 _ (by
              congr 1
              exact propext ⟨fun h => ⟨c5, c2, by omega⟩, fun h => by have := h.2.2; omega⟩) hb.symm]; rfl
          · rw [if_neg c2, e13 _ (decide_eq_false fun h => c2 h.2.1).symm hb.symm]; rfl
        · rw [if_neg c5, e13 _ (decide_eq_false fun h => c5 h.1).symm hb.symm]; rfl
    by_cases c5 : (x.getD 0 default).Kind = 5
    · rw [if_pos c5, if_pos h0]
      exact e12 _ (by unfold isC; congr 1; exact propext ⟨fun h => ⟨c5, h⟩, fun h => h.2⟩)
    · rw [if_neg c5]
      exact e12 _ (by unfold isC; exact (decide_eq_false fun h => c5 h.1).symm)
theorem fmt_loop (f : Fault) : ∀ (L : List (List Token)) (pre : List Token) (deep : Nat) (s : List UInt8), (∀ x ∈ L, lineOk x ∧ smallL x) → pre.length + L.flatten.length ≤ 3000 → deep ≤ pre.length → s.length ≤ pre.length * 30000000 →
    loopO (preref9_Format_b1 (pre ++ L.flatten, f)) (s, (deep : Int), (pre.length : Int)) = some (formR (s ++ formV deep L))
  | [], pre, deep, s, _, hl, hd, hs => by
    rw [loopO_step]
    simp only [preref9_Format_b1, ltI, decide_eq_true_eq, List.flatten_nil, List.append_nil, formV, formR, inrO]
    rw [if_neg (by omega)]
    by_cases h3 : 3000 < s.length
    · rw [if_pos (by omega), if_pos h3]; rfl
    · rw [if_neg (by omega), if_neg h3]; rfl
  | x :: L, pre, deep, s, hL, hl, hd, hs => by
    obtain ⟨⟨t, r, hxr, ht, hr⟩, hx⟩ := hL x (by simp)
    have hx0 := hx.1
    have hflat : (x :: L).flatten = x ++ L.flatten := List.flatten_cons
    rw [hflat, List.length_append] at hl
    have hlen : (pre ++ (x :: L).flatten).length = pre.length + x.length + L.flatten.length := by rw [hflat, List.length_append, List.length_append]; omega
    have hin : ∀ m, pre.length < m → m < pre.length + x.length → ((pre ++ (x :: L).flatten).getD m default).First = false := fun m h1 h2 => by
      have e : (pre ++ (x :: L).flatten).getD m default = r.getD (m - pre.length - 1) default := by
        rw [hflat, hxr, List.getD_eq_getElem?_getD, List.getElem?_append_right (by omega), List.getElem?_append_left (by rw [hxr] at h2; omega), List.getD_eq_getElem?_getD]
        obtain ⟨q, hq⟩ : ∃ q, m - pre.length = q + 1 := ⟨m - pre.length - 1, by omega⟩
        rw [hq, List.getElem?_cons_succ]; rfl
      rw [e]
      exact hr _ (getD_mem r _ default (by rw [hxr, List.length_cons] at h2; omega))
    have hend : ∀ h : pre.length + x.length < (pre ++ (x :: L).flatten).length, ((pre ++ (x :: L).flatten).getD (pre.length + x.length) default).First = true := fun h => by
      cases L with
      | nil => rw [hlen] at h; simp at h
      | cons y L =>
        obtain ⟨⟨t', r', hy, ht', _⟩, _⟩ := hL y (by simp)
        have e : (pre ++ (x :: y :: L).flatten).getD (pre.length + x.length) default = t' := by
          rw [List.flatten_cons, List.flatten_cons, hy, List.getD_eq_getElem?_getD, List.getElem?_append_right (by omega), List.getElem?_append_right (by omega), show pre.length + x.length - pre.length - x.length = 0 by omega]
          rfl
        rw [e]; exact ht'
    rw [loopO_step]
    simp only [preref9_Format_b1, ltI, decide_eq_true_eq, wN1 pre.length (by omega)]
    rw [if_pos (by omega)]
    have hskip := skip_loop (S := Unit) (b := preref9_Format_b2 (pre ++ (x :: L).flatten, f) s (deep : Int) (pre.length : Int)) (x.length - 1) (pre.length + 1) (fun m h1 h2 => by
      simp only [preref9_Format_b2, preref9_Format_j3, ltI, decide_eq_true_eq, Int.toNat_natCast]
      rw [if_pos (by omega), if_pos (by omega), hin m (by omega) (by omega), if_pos (by rfl), wN1 m (by omega)])
    rw [hskip, show pre.length + 1 + (x.length - 1) = pre.length + x.length by omega, loopO_step]
    have htake : List.take (pre.length + x.length - pre.length) (List.drop pre.length (pre ++ (x :: L).flatten)) = x := by
      rw [hflat, List.drop_left' rfl, show pre.length + x.length - pre.length = x.length by omega, List.take_left' rfl]
    have j3 : preref9_Format_j3 (pre ++ (x :: L).flatten, f) s (deep : Int) (pre.length : Int) ((pre.length + x.length : Nat) : Int) false = some (.inr (.inl (s ++ lineT deep x, ((lineD deep x : Nat) : Int), ((pre.length + x.length : Nat) : Int)))) := by
      simp only [preref9_Format_j3, if_neg Bool.false_ne_true, Int.toNat_natCast]
      rw [if_pos (by omega), htake, fmt_line s deep (pre.length + x.length) x hx (by omega) (by omega)]
      rfl
    have hb2 : preref9_Format_b2 (pre ++ (x :: L).flatten, f) s (deep : Int) (pre.length : Int) ((pre.length + x.length : Nat) : Int) = some (.inr (.inl (s ++ lineT deep x, ((lineD deep x : Nat) : Int), ((pre.length + x.length : Nat) : Int)))) := by
      simp only [preref9_Format_b2, ltI, decide_eq_true_eq, Int.toNat_natCast]
      by_cases h : pre.length + x.length < (pre ++ (x :: L).flatten).length
      · rw [if_pos (by omega), if_pos (by omega), hend h]
        exact j3
      · rw [if_neg (by omega)]
        exact j3
    rw [hb2]
    show loopO (preref9_Format_b1 (pre ++ (x :: L).flatten, f)) _ = _
    have h1 := lineD_le deep x
    have h2 := lineT_len deep hx
    have e : pre ++ (x :: L).flatten = (pre ++ x) ++ L.flatten := by rw [hflat, List.append_assoc]
    rw [e, show pre.length + x.length = (pre ++ x).length by rw [List.length_append]]
    rw [fmt_loop f L (pre ++ x) (lineD deep x) (s ++ lineT deep x) (fun y hy => hL y (by simp [hy])) (by rw [List.length_append]; omega) (by rw [List.length_append]; omega) (by rw [List.length_append, List.length_append]; omega)]
    simp only [formV, List.append_assoc]
theorem format_eq (s : List UInt8) (hs : s.length ≤ 1099511627776) : preref9_Format s = some (neatV s) := by
  unfold preref9_Format neatV
  rw [rtokens_eq 0 s hs]
  simp only [Option.bind_some]
  obtain ⟨h1, _, h3⟩ := toksV_small 0 s
  obtain ⟨l1, l2⟩ := lines_small s
  obtain ⟨g1, g2⟩ := linesV_ok _ h3
  by_cases h : (toksV 0 s).2.Err = 0
  · rw [if_neg (bi_neg h), if_neg (fun h' => h' h)]
    have := fmt_loop (toksV 0 s).2 (linesV (toksV 0 s).1) [] 0 [] (fun x hx => ⟨g2 x hx, l2 x hx⟩) (by rw [g1]; simpa using h1) (by simp) (by simp)
    rw [g1, List.nil_append, List.nil_append] at this
    exact this
  · rw [if_pos (bi_pos h), if_pos h]
theorem neatTells_eq (s : List UInt8) (hs : s.length ≤ 1048576) : prelaw12_NeatTells s = some true := by
  unfold prelaw12_NeatTells
  rw [neat_eq s (by omega)]
  simp only [Option.bind_some]
  rw [format_eq s (by omega)]
  simp [eqI, eqS, prelaw12_NeatTells_j1]
end Go.Proofs.Ytkhcecpbbmfcaaa
