/- Tokens of a text in parentheses. Plain. -/
import Derived.Test.YtghmojcecefgjaaDoorYax
set_option linter.unusedVariables false
set_option linter.unusedSimpArgs false
namespace Go.Proofs.YtghmojcecefgjaaDoor
open Go.RowKit
def kx (r : Raw) : Int × List UInt8 := (r.kind, r.txt)
def noSl (u : List UInt8) : Prop := ∀ c ∈ u, c ≠ 47 ∧ c ≠ 10
theorem skip_plain : ∀ (u : List UInt8), noSl u → ∃ k, k ≤ u.length ∧ skip u = (k, false, true) ∧ skip (u ++ [41]) = (k, false, true)
  | [], _ => ⟨0, Nat.le_refl _, rfl, by decide⟩
  | c :: r, h => by
    have hc := h c (by simp)
    by_cases hb : isBl c = true
    · obtain ⟨k, h1, h2, h3⟩ := skip_plain r (fun d hd => h d (by simp [hd]))
      refine ⟨k + 1, by simp; omega, ?_, ?_⟩
      · rw [skip_bl hb, h2]; simp [hc.2]
      · rw [List.cons_append, skip_bl hb, h3]; simp [hc.2]
    · refine ⟨0, Nat.zero_le _, ?_, ?_⟩
      · exact skip_stop (by simpa using hb) (fun q => hc.1 q.1) (fun q => hc.1 q.1)
      · rw [List.cons_append]
        exact skip_stop (by simpa using hb) (fun q => hc.1 q.1) (fun q => hc.1 q.1)
theorem runN_snoc (p : UInt8 → Bool) (x : UInt8) (hx : p x = false) : ∀ l : List UInt8, runN p (l ++ [x]) = runN p l
  | [] => by simp [runN, hx]
  | c :: r => by
    have := runN_snoc p x hx r
    unfold runN at this ⊢
    rw [List.cons_append, List.takeWhile_cons, List.takeWhile_cons]
    split
    · simp [this]
    · rfl
theorem inNum41 (pr : UInt8) : inNum pr 41 = false := by
  unfold inNum
  have h1 : decide ((41 : UInt8) = 43) = false := by decide
  have h2 : decide ((41 : UInt8) = 45) = false := by decide
  have h3 : decide ((41 : UInt8) = 46) = false := by decide
  have h4 : isWd 41 = false := by decide
  rw [h1, h2, h3, h4]
  rfl
theorem numN_snoc : ∀ (l : List UInt8) (pr : UInt8), numN pr (l ++ [41]) = numN pr l
  | [], pr => by simp [numN, inNum41]
  | c :: r, pr => by simp only [List.cons_append, numN, numN_snoc r c]
theorem quoN_snoc (q : UInt8) : ∀ (n : Nat) (l : List UInt8), l.length ≤ n → ∀ m, quoN q l = some m → quoN q (l ++ [41]) = some m := by
  intro n
  induction n with
  | zero =>
    intro l h m hm
    obtain rfl : l = [] := List.eq_nil_of_length_eq_zero (by omega)
    cases hm
  | succ n ih =>
    intro l h m hm
    match l with
    | [] => cases hm
    | c :: r =>
      rw [List.cons_append]
      unfold quoN at hm ⊢
      by_cases h1 : c = 10
      · rw [if_pos h1] at hm; cases hm
      rw [if_neg h1] at hm ⊢
      by_cases h2 : c = q
      · rw [if_pos h2] at hm ⊢; exact hm
      rw [if_neg h2] at hm ⊢
      by_cases h3 : c = 92
      · rw [if_pos h3] at hm ⊢
        match r with
        | [] => cases hm
        | d :: r' =>
          rw [List.cons_append]
          simp only at hm ⊢
          by_cases h4 : d = 10
          · rw [if_pos h4] at hm; cases hm
          rw [if_neg h4] at hm ⊢
          cases hq : quoN q r' with
          | none => rw [hq] at hm; cases hm
          | some k =>
            rw [ih r' (by simp at h; omega) k hq]
            rw [hq] at hm
            exact hm
      · rw [if_neg h3] at hm ⊢
        cases hq : quoN q r with
        | none => rw [hq] at hm; cases hm
        | some k =>
          rw [ih r (by simp at h; omega) k hq]
          rw [hq] at hm
          exact hm
theorem signN_snoc (c : UInt8) (r : List UInt8) : signN (c :: (r ++ [41])) = signN (c :: r) := by
  unfold signN
  match r with
  | [] =>
    have e1 : signs3.contains ((c :: ([] ++ [41])).take 3) = false := by simp [signs3]
    have e2 : signs2.contains ((c :: ([] ++ [41])).take 2) = false := by simp [signs2]
    have e3 : signs3.contains ([c].take 3) = false := by simp [signs3]
    have e4 : signs2.contains ([c].take 2) = false := by simp [signs2]
    rw [e1, e2, e3, e4]
    rfl
  | [d] =>
    have e1 : signs3.contains ((c :: ([d] ++ [41])).take 3) = false := by simp [signs3]
    have e3 : signs3.contains ([c, d].take 3) = false := by simp [signs3]
    rw [e1, e3]
    rfl
  | d :: e :: r' => rfl
theorem piece_snoc (c : UInt8) (r : List UInt8) (kd : Int) (m : Nat) (h : piece (c :: r) false = (kd, some m)) : piece (c :: (r ++ [41])) false = (kd, some m) := by
  unfold piece at h ⊢
  have hh : ((r ++ [41]).head?.map isDig).getD false = (r.head?.map isDig).getD false := by
    cases r with
    | nil => rfl
    | cons d r => rfl
  simp only [hh] at h ⊢
  rw [show c :: (r ++ [41]) = (c :: r) ++ [41] from rfl, runN_snoc isWd 41 (by decide) (c :: r), numN_snoc (c :: r) 0]
  by_cases h1 : isLet c = true
  · rw [if_pos h1] at h ⊢; exact h
  rw [if_neg h1] at h ⊢
  by_cases h2 : (isDig c || (decide (c = 46) && (r.head?.map isDig).getD false)) = true
  · rw [if_pos h2] at h ⊢; exact h
  rw [if_neg h2] at h ⊢
  have hq : ∀ q : UInt8, ∀ k : Int, (k, (quoN q r).map (· + 1)) = (kd, some m) → (k, (quoN q (r ++ [41])).map (· + 1)) = (kd, some m) := by
    intro q k hk
    cases hqq : quoN q r with
    | none => rw [hqq] at hk; simp at hk
    | some j => rw [quoN_snoc q r.length r (Nat.le_refl _) j hqq]; rw [hqq] at hk; exact hk
  by_cases h3 : c = 34
  · rw [if_pos h3] at h ⊢; exact hq 34 4 h
  rw [if_neg h3] at h ⊢
  by_cases h4 : c = 39
  · rw [if_pos h4] at h ⊢; exact hq 39 3 h
  rw [if_neg h4] at h ⊢
  have h5 : ∀ x : Bool, ¬ (c = 60 ∧ (false : Bool) = true ∧ x = true) := fun x q => Bool.noConfusion q.2.1
  rw [if_neg (h5 _)] at h ⊢
  rw [show (c :: r) ++ [41] = c :: (r ++ [41]) from rfl, signN_snoc c r]
  exact h
theorem lxF_nil (n i st : Nat) (f : Bool) : lxF n [] i st f = ([], none) := by
  cases n with
  | zero => rfl
  | succ n => rfl
theorem lx_close (n i : Nat) (f : Bool) (st : Nat) : ∃ x, lxF (n + 1) [41] i st f = ([x], none) ∧ kx x = (5, [41]) := by
  refine ⟨⟨5, i, 1, false, f, [41]⟩, ?_, rfl⟩
  have h1 : skip [41] = (0, false, true) := by decide
  have h2 : ∀ p : Bool, piece [41] p = (5, some 1) := by decide
  unfold lxF
  rw [h1]
  simp [h2, lxF_nil]
theorem lx_paren : ∀ (n : Nat) (u : List UInt8) (i j : Nat) (f : Bool), u.length < n → noSl u → ∀ ts, lxF n u i 0 f = (ts, none) → (f = true → ∀ t r, ts = t :: r → t.txt ≠ [35]) →
    ∃ ts', lxF (n + 1) (u ++ [41]) j 0 false = (ts', none) ∧ ts'.map kx = ts.map kx ++ [(5, [41])] := by
  intro n
  induction n with
  | zero => intro u i j f h; omega
  | succ n ih =>
    intro u i j f hu hs ts hts hf
    obtain ⟨k, h1, h2, h3⟩ := skip_plain u hs
    have hd : (u ++ [41]).drop k = u.drop k ++ [41] := List.drop_append_of_le_length h1
    rw [lxF, h2] at hts
    rw [lxF, h3]
    simp only [Bool.true_eq_false, if_false] at hts ⊢
    rw [hd]
    cases hr : u.drop k with
    | nil =>
      rw [hr] at hts
      simp only [if_true, Prod.mk.injEq] at hts
      obtain ⟨rfl, _⟩ := hts
      have h4 : ∀ p : Bool, piece [41] p = (5, some 1) := by decide
      refine ⟨[⟨5, j + k, 1, decide (0 < k), false, [41]⟩], ?_, rfl⟩
      simp [h4, lxF_nil]
    | cons c r =>
      rw [hr] at hts
      simp only [reduceCtorEq, if_false, List.cons_append] at hts ⊢
      simp only [decide_false, Bool.and_false] at hts ⊢
      cases hpc : piece (c :: r) false with
      | mk kd o =>
        rw [hpc] at hts
        cases o with
        | none => simp at hts
        | some m =>
          rw [piece_snoc c r kd m hpc]
          obtain ⟨hm0, hm⟩ := piece_le hpc
          simp only at hts ⊢
          have ht : (c :: (r ++ [41])).take m = (c :: r).take m := by
            rw [show c :: (r ++ [41]) = (c :: r) ++ [41] from rfl]
            exact List.take_append_of_le_length hm
          have hdr : (c :: (r ++ [41])).drop m = (c :: r).drop m ++ [41] := by
            rw [show c :: (r ++ [41]) = (c :: r) ++ [41] from rfl]
            exact List.drop_append_of_le_length hm
          rw [ht, hdr]
          simp only [Prod.mk.injEq] at hts
          obtain ⟨he, hn⟩ := hts
          have hst : nextP 0 ((c :: r).take m) (f || false) = 0 := by
            unfold nextP
            rw [if_neg, if_neg (by simp)]
            rintro ⟨q1, q2⟩
            exact hf (by simpa using q1) _ _ he.symm q2
          have hst' : nextP 0 ((c :: r).take m) (false || false) = 0 := by
            unfold nextP
            rw [if_neg (by simp), if_neg (by simp)]
          rw [hst] at he hn
          rw [hst']
          have hlen : ((c :: r).drop m).length < n := by
            have : (u.drop k).length ≤ u.length := by simp
            rw [hr] at this
            simp only [List.length_drop]
            omega
          have hs' : noSl ((c :: r).drop m) := fun x hx => hs x (List.mem_of_mem_drop (by rw [hr]; exact List.mem_of_mem_drop hx))
          obtain ⟨ts2, g1, g2⟩ := ih ((c :: r).drop m) (i + k + m) (j + k + m) false hlen hs' _ (Prod.ext rfl hn) (by simp)
          rw [g1]
          refine ⟨_, rfl, ?_⟩
          rw [← he]
          simp only [List.map_cons, List.cons_append, g2]
          rfl
theorem lx_sign1 (c : UInt8) (r : List UInt8) (n i : Nat) (f : Bool) (h1 : isBl c = false) (h2 : c ≠ 47) (h3 : ∀ p : Bool, piece (c :: r) p = (5, some 1)) (h4 : c ≠ 35) :
    lxF (n + 1) (c :: r) i 0 f = (⟨5, i, 1, false, f, [c]⟩ :: (lxF n r (i + 1) 0 false).1, (lxF n r (i + 1) 0 false).2) := by
  have hsk : skip (c :: r) = (0, false, true) := skip_stop h1 (fun q => h2 q.1) (fun q => h2 q.1)
  rw [lxF, hsk]
  have hst : nextP 0 [c] f = 0 := by
    unfold nextP
    rw [if_neg (by simp [h4]), if_neg (by simp)]
  simp [h3, hst]
theorem piece40 (r : List UInt8) (p : Bool) : piece (40 :: r) p = (5, some 1) := by
  have hs : signN (40 :: r) = 1 := by
    unfold signN
    match r with
    | [] => decide
    | [d] =>
      have e1 : signs3.contains ([40, d].take 3) = false := by simp [signs3]
      have e2 : signs2.contains ([40, d].take 2) = false := by simp [signs2]
      rw [e1, e2]; rfl
    | d :: e :: r =>
      have e1 : signs3.contains ((40 :: d :: e :: r).take 3) = false := by simp [signs3]
      have e2 : signs2.contains ((40 :: d :: e :: r).take 2) = false := by simp [signs2]
      rw [e1, e2]; rfl
  unfold piece
  simp only [show isLet 40 = false from by decide, show isDig 40 = false from by decide, hs]
  simp
theorem piece33 (d : UInt8) (hd : d = 33 ∨ d = 40) (r : List UInt8) (p : Bool) : piece (33 :: d :: r) p = (5, some 1) := by
  have hs : signN (33 :: d :: r) = 1 := by
    unfold signN
    have e1 : signs3.contains ((33 :: d :: r).take 3) = false := by cases r <;> simp [signs3]
    have e2 : signs2.contains ((33 :: d :: r).take 2) = false := by rcases hd with rfl | rfl <;> rfl
    rw [e1, e2]; rfl
  unfold piece
  simp only [show isLet 33 = false from by decide, show isDig 33 = false from by decide, hs]
  simp
theorem sp_plain : ∀ (l : List UInt8) (i : Nat), (∀ c ∈ l, c ≠ 92 ∧ c ≠ 10) → (sp 0 i l).map (·.1) = l
  | [], i, _ => by simp [sp]
  | c :: r, i, h => by
    have hc := h c (by simp)
    have hj : joinsN (c :: r) = 0 := by
      unfold joinsN
      simp [hc.1]
    have h2 : ¬ (c = 13 ∧ r.head? = some 10) := by
      rintro ⟨_, q⟩
      cases r with
      | nil => cases q
      | cons d r => cases q; exact (h 10 (by simp)).2 rfl
    rw [sp, hj, if_neg (by omega), if_neg h2, List.map_cons, sp_plain r (i + 1) (fun d hd => h d (by simp [hd]))]
theorem spText_plain (l : List UInt8) (h : ∀ c ∈ l, c ≠ 92 ∧ c ≠ 10) : spText l = l := by
  unfold spText spAt
  exact sp_plain l 0 h
def kwT (t : Token) : Int × List UInt8 := (t.Kind, t.Text)
theorem kt_tokOf (file : Int) (text : List UInt8) (r : Raw) : kwT (tokOf file text r) = kx r := rfl
theorem toks_paren (s : List UInt8) (hl : s.length ≤ 2000) (hs : ∀ c ∈ s, c ≠ 47 ∧ c ≠ 92 ∧ c ≠ 10) (he : (toksV 0 s).2.Err = 0) (hh : ∀ t r, (toksV 0 s).1 = t :: r → t.Text ≠ [35]) :
    ((toksV 0 ([40] ++ s ++ [41])).2.Err = 0 ∧ (toksV 0 ([40] ++ s ++ [41])).1.map kwT = (5, [40]) :: ((toksV 0 s).1.map kwT ++ [(5, [41])])) ∧
    ((toksV 0 ([33, 33, 40] ++ s ++ [41])).2.Err = 0 ∧ (toksV 0 ([33, 33, 40] ++ s ++ [41])).1.map kwT = (5, [33]) :: (5, [33]) :: (5, [40]) :: ((toksV 0 s).1.map kwT ++ [(5, [41])])) := by
  have p0 : spText s = s := spText_plain s fun c hc => (hs c hc).2
  have p1 : spText ([40] ++ s ++ [41]) = 40 :: (s ++ [41]) := spText_plain _ fun c hc => by
    simp only [List.cons_append, List.nil_append, List.mem_cons, List.mem_append, List.not_mem_nil, or_false] at hc
    rcases hc with rfl | hc | rfl
    · decide
    · exact (hs c hc).2
    · decide
  have p2 : spText ([33, 33, 40] ++ s ++ [41]) = 33 :: 33 :: 40 :: (s ++ [41]) := spText_plain _ fun c hc => by
    simp only [List.cons_append, List.nil_append, List.mem_cons, List.mem_append, List.not_mem_nil, or_false] at hc
    rcases hc with rfl | rfl | rfl | hc | rfl
    · decide
    · decide
    · decide
    · exact (hs c hc).2
    · decide
  have hl1 : ¬ 3000 < ([40] ++ s ++ [41]).length := by simp; omega
  have hl2 : ¬ 3000 < ([33, 33, 40] ++ s ++ [41]).length := by simp; omega
  have hl0 : ¬ 3000 < s.length := by omega
  have hns : noSl s := fun c hc => ⟨(hs c hc).1, (hs c hc).2.2⟩
  unfold toksV at he hh ⊢
  rw [if_neg hl0] at he hh ⊢
  rw [if_neg hl1, if_neg hl2]
  unfold raws at he hh ⊢
  rw [p0] at he hh ⊢
  rw [p1, p2]
  cases hx : lxF (s.length + 1) s 0 0 true with
  | mk ts o =>
    rw [hx] at he hh
    cases o with
    | some p => exact absurd he (by show ¬ (9 : Int) = 0; decide)
    | none =>
      have hh' : ∀ t r, ts = t :: r → t.txt ≠ [35] := by
        rintro t r rfl
        exact hh (tokOf 0 s t) (r.map (tokOf 0 s)) rfl
      have hkw : ∀ (text : List UInt8) (l : List Raw), (l.map (tokOf 0 text)).map kwT = l.map kx := fun text l => by
        rw [List.map_map]; rfl
      have e1 : (40 :: (s ++ [41])).length + 1 = (s.length + 1 + 1) + 1 := by simp
      have e2 : (33 :: 33 :: 40 :: (s ++ [41])).length + 1 = ((s.length + 1 + 1) + 1) + 1 + 1 := by simp
      rw [e1, e2]
      constructor
      · obtain ⟨ts', g1, g2⟩ := lx_paren (s.length + 1) s 0 (0 + 1) true (by omega) hns ts hx (fun _ => hh')
        rw [lx_sign1 40 _ _ 0 true (by decide) (by decide) (piece40 _) (by decide), g1]
        refine ⟨rfl, ?_⟩
        show List.map kwT (List.map (tokOf 0 _) _) = (5, [40]) :: (List.map kwT (List.map (tokOf 0 _) ts) ++ [(5, [41])])
        rw [hkw, hkw, List.map_cons, g2]
        rfl
      · obtain ⟨ts', g1, g2⟩ := lx_paren (s.length + 1) s 0 (0 + 1 + 1 + 1) true (by omega) hns ts hx (fun _ => hh')
        rw [lx_sign1 33 _ _ 0 true (by decide) (by decide) (piece33 33 (Or.inl rfl) _) (by decide), lx_sign1 33 _ _ (0 + 1) false (by decide) (by decide) (piece33 40 (Or.inr rfl) _) (by decide), lx_sign1 40 _ _ (0 + 1 + 1) false (by decide) (by decide) (piece40 _) (by decide), g1]
        refine ⟨rfl, ?_⟩
        show List.map kwT (List.map (tokOf 0 _) _) = (5, [33]) :: (5, [33]) :: (5, [40]) :: (List.map kwT (List.map (tokOf 0 _) ts) ++ [(5, [41])])
        rw [hkw, hkw, List.map_cons, List.map_cons, List.map_cons, g2]
        rfl
end Go.Proofs.YtghmojcecefgjaaDoor
