/- lex: the document's Piece and Tokens. Plain. -/
import Derived.Test.YtgkacglpjmndbaaLg
namespace Go.Proofs.Ytgkacglpjmndbaa
open Go.RowKit

theorem rpiece_eq (c : UInt8) (r : List UInt8) (hu : r.length ≤ 1099511627775) (path : Bool) : preref1_Piece (c :: r) path = some ((piece (c :: r) path).1, takeO (c :: r) (piece (c :: r) path).2) := by
  have hl : (c :: r).length = r.length + 1 := rfl
  have h0 : (c :: r).getD 0 0 = c := rfl
  have e1 : preref1_Piece_j1 (c :: r) () = some (if 0 < signN (c :: r) then (5, (c :: r).take (signN (c :: r))) else (6, (c :: r).take 1)) := by
    simp only [preref1_Piece_j1, rsign_eq (c :: r) (by omega), Option.bind_some]
    have hs := signN_pos_le (c :: r)
    by_cases h : 0 < signN (c :: r)
    · have : ¬ (c :: r).take (signN (c :: r)) = [] := fun e => by have := congrArg List.length e; rw [List.length_take] at this; simp at this; omega
      have h' : eqS ((c :: r).take (signN (c :: r))) [] = false := by rw [eqS_false]; exact this
      rw [h', if_pos h]
      rfl
    · have : signN (c :: r) = 0 := by omega
      have h' : eqS ((c :: r).take (signN (c :: r))) [] = true := by rw [eqS_true, this]; rfl
      rw [h', if_neg h]
      have h3 : (0 : Int) ≤ 0 ∧ (0 : Int) ≤ 1 ∧ (1 : Int) ≤ ((c :: r).length : Int) := by omega
      simp only [h3]
      rfl
  have e2 : loopO (preref1_Piece_b2 (c :: r)) 0 = some (1, (c :: r).take (runN isWd (c :: r))) := by
    have := while_loop (b := preref1_Piece_b2 (c :: r)) (c :: r) isWd (fun k => ((1 : Int), (c :: r).take k)) (fun k hk => ?_) _ 0 (Nat.zero_le _) (Nat.le_refl _)
    · rw [show (0 : Int) = ((0 : Nat) : Int) from rfl, this]; simp
    · have j3 : ∀ b, preref1_Piece_j3 (c :: r) (k : Int) b = if b = true then some (.inl ((k + 1 : Nat) : Int)) else some (.inr (1, (c :: r).take k)) := fun b => by
        simp only [preref1_Piece_j3, inrO, Int.toNat_natCast]
        rw [wN1 k (by omega), if_pos (show (0 : Int) ≤ 0 ∧ (0 : Int) ≤ (k : Int) ∧ (k : Int) ≤ ((c :: r).length : Int) by omega)]
        rfl
      simp only [preref1_Piece_b2, ltI, decide_eq_true_eq, Int.toNat_natCast, rletter_eq, rdigit_eq, Option.bind_some, j3]
      by_cases h : k < (c :: r).length
      · rw [if_pos (by omega), if_pos (by omega)]
        generalize (c :: r).getD k 0 = d
        unfold isWd
        have h' : k < r.length + 1 := h
        cases isLet d <;> cases isDig d <;> simp [h']
      · rw [if_neg (by omega), if_neg (by decide), if_neg (fun hh => h hh.1)]
  have e3 : c = 60 → loopO (preref1_Piece_b6 (c :: r)) 1 = some (if (pathN r).isSome = true then (7, takeO (c :: r) ((pathN r).map (· + 1))) else if 0 < signN (c :: r) then (5, (c :: r).take (signN (c :: r))) else (6, (c :: r).take 1)) := fun h60 => by
    have := while_loop (b := preref1_Piece_b6 (c :: r)) (c :: r) (fun c => decide (c ≠ 62) && decide (c ≠ 10)) (fun k => if ((c :: r).drop k).head? = some 62 then ((7 : Int), (c :: r).take (k + 1)) else if 0 < signN (c :: r) then (5, (c :: r).take (signN (c :: r))) else (6, (c :: r).take 1)) (fun k hk => ?_) _ 1 (by omega) (Nat.le_refl _)
    · rw [show (1 : Int) = ((1 : Nat) : Int) from rfl, this]
      simp only [List.drop_succ_cons, List.drop_zero]
      unfold pathN
      rw [Nat.add_comm 1, List.drop_succ_cons]
      by_cases h : (r.drop (runN (fun c => decide (c ≠ 62) && decide (c ≠ 10)) r)).head? = some 62
      · rw [if_pos h, if_pos h]; rfl
      · rw [if_neg h, if_neg h]; rfl
    · simp only [preref1_Piece_b6, preref1_Piece_j7, ltI, decide_eq_true_eq, Int.toNat_natCast, inrO, chr _ 10 10 rfl, chr _ 62 62 rfl, e1]
      by_cases h : k < (c :: r).length
      · rw [if_pos (by omega), if_pos (by omega), drop_head h, if_pos (show (0 : Int) ≤ (k : Int) ∧ k < (c :: r).length by omega), wN1 k (by omega), if_pos (show (0 : Int) ≤ 0 ∧ (0 : Int) ≤ ((k + 1 : Nat) : Int) ∧ ((k + 1 : Nat) : Int) ≤ ((c :: r).length : Int) by omega)]
        simp only [Int.toNat_natCast]
        generalize (c :: r).getD k 0 = d
        by_cases h10 : d = 10
        · simp [h10]
        · by_cases h62 : d = 62
          · simp [h62]
          · have h' : k < r.length + 1 := by omega
            simp [h10, h62, h']
      · rw [if_neg (show ¬ (k : Int) < ((c :: r).length : Int) by omega), drop_nil h]
        have h' : ¬ k < r.length + 1 := h
        simp [h']
  have e4 : ∀ p : Bool, p = path → preref1_Piece_j5 (c :: r) (decide (c = 60) && p) = some (if c = 60 ∧ path = true ∧ (pathN r).isSome = true then (7, takeO (c :: r) ((pathN r).map (· + 1))) else if 0 < signN (c :: r) then (5, (c :: r).take (signN (c :: r))) else (6, (c :: r).take 1)) := fun p hp => by
    subst hp
    simp only [preref1_Piece_j5]
    by_cases h60 : c = 60
    · cases p
      · rw [if_neg (by simp), e1]; simp
      · rw [if_pos (by simp [h60]), e3 h60]; simp [h60]
    · rw [if_neg (by simp [h60]), e1]; simp [h60]
  have fin : ∀ q : Int × Option Nat, some (q.1, takeO (c :: r) q.2) = some (q.1, takeO (c :: r) q.2) := fun _ => rfl
  have j4 : ∀ p : Bool, p = (isDig c || (decide (c = 46) && ((r.head?.map isDig).getD false))) → isLet c = false → preref1_Piece_j4 (c :: r) path (c, p) = some ((piece (c :: r) path).1, takeO (c :: r) (piece (c :: r) path).2) := fun p hp h1 => by
    simp only [preref1_Piece_j4, rnumber_eq (c :: r) (by omega), rquoted_eq c r hu, chr _ 34 34 rfl, chr _ 39 39 rfl, chr _ 60 60 rfl, decide_eq_true_eq, Option.bind_some]
    rw [piece_cons, h1, ← hp]
    simp only [Bool.false_eq_true, if_false]
    cases p
    · simp only [Bool.false_eq_true, if_false]
      by_cases h34 : c = 34
      · rw [if_pos h34, if_pos h34, h34]
      · rw [if_neg h34, if_neg h34]
        by_cases h39 : c = 39
        · rw [if_pos h39, if_pos h39, h39]
        · rw [if_neg h39, if_neg h39]
          have e4' := e4 path rfl
          have : (if c = 60 then preref1_Piece_j5 (c :: r) path else preref1_Piece_j5 (c :: r) false) = preref1_Piece_j5 (c :: r) (decide (c = 60) && path) := by
            by_cases h60 : c = 60 <;> simp [h60]
          rw [this, e4']
          split
          · rfl
          · split <;> rfl
    · rfl
  unfold preref1_Piece
  simp only [rletter_eq, rdigit_eq, Option.bind_some, h0, chr _ 46 46 rfl, ltI, decide_eq_true_eq, e2]
  rw [if_pos (show 0 < (c :: r).length by omega)]
  by_cases h1 : isLet c = true
  · rw [if_pos h1, piece_cons, if_pos h1]
    rfl
  · have h1 : isLet c = false := by simpa using h1
    rw [h1, if_neg (by decide)]
    by_cases h2 : isDig c = true
    · rw [if_pos h2]
      exact j4 true (by simp [h2]) h1
    · have h2 : isDig c = false := by simpa using h2
      rw [h2, if_neg (by decide)]
      by_cases h46 : c = 46
      · rw [if_pos h46]
        by_cases h3 : 0 < r.length
        · rw [if_pos (by omega), if_pos (by omega)]
          have e6 : r.head? = some ((c :: r).getD 1 0) := by
            cases r with
            | nil => simp at h3
            | cons d r => rfl
          exact j4 _ (by rw [h2, h46, e6]; simp) h1
        · rw [if_neg (by omega)]
          have : r = [] := by cases r with | nil => rfl | cons _ _ => simp at h3
          exact j4 _ (by rw [h2, this]; simp) h1
      · rw [if_neg h46]
        exact j4 _ (by rw [h2]; simp [h46]) h1

theorem rtok_loop (file : Int) (text : List UInt8) (ht : text.length ≤ 3000) : ∀ (n i : Nat) (out : List Token), i ≤ (spText text).length → (spText text).length - i < n → out.length + ((spText text).length - i) ≤ 100000 →
    loopO (preref1_Tokens_b1 file text (spS text)) (out, (i : Int)) = some (finV file text out (lxF n ((spText text).drop i) i (stOf out) (out.isEmpty)))
  | 0, i, out, _, h, _ => by omega
  | n + 1, i, out, hi, hn, ho => by
    have hu := spText_len text
    have hA := spPos_length text
    have hsk := skip_le _ ((spText text).drop i) (Nat.le_refl _)
    rw [List.length_drop] at hsk
    have hxT : (spS text).Text = spText text := rfl
    have hxA : (spS text).At = ints (spPos text) := rfl
    have hAl : ((spS text).At).length = (spPos text).length := by rw [hxA, ints_length]
    have hAt : ∀ p : Nat, p < (spPos text).length → (spS text).At.getD p default = (((spPos text).getD p 0 : Nat) : Int) := fun p hp => by rw [hxA, ints_getD _ _ hp]
    rw [loopO_step]
    simp only [preref1_Tokens_b1, Int.toNat_natCast, hxT, rskip_eq ((spText text).drop i) (by simp; omega), Option.bind_some, lxF]
    rw [if_pos (show (0 : Int) ≤ (i : Int) ∧ (i : Int) ≤ ((spText text).length : Int) ∧ ((spText text).length : Int) ≤ ((spText text).length : Int) by omega)]
    generalize hk : (skip ((spText text).drop i)).1 = k at hsk
    generalize hf : (skip ((spText text).drop i)).2.1 = feed
    generalize hok : (skip ((spText text).drop i)).2.2 = ok
    have hskI : skI (skip ((spText text).drop i)) = (if ok = true then (k : Int) else -1 - (k : Int), feed) := by unfold skI; rw [hk, hf, hok]
    rw [hskI]
    cases ok
    · simp only [Bool.false_eq_true, if_false, ltI, decide_eq_true_eq]
      rw [if_pos (show -1 - (k : Int) < 0 by omega)]
      rw [show IntKind.i64.wrap (IntKind.i64.wrap ((i : Int) - 1) - (-1 - (k : Int))) = ((i + k : Nat) : Int) by rw [wr ((i : Int) - 1) (by omega), wr _ (by omega)]; omega]
      simp only [Int.toNat_natCast]
      rw [if_pos (by omega), hAt _ (by omega)]
      rfl
    · simp only [if_true, ltI, leI, decide_eq_true_eq, Bool.true_eq_false, if_false]
      rw [if_neg (show ¬ (k : Int) < 0 by omega), List.drop_drop]
      rw [show IntKind.i64.wrap ((i : Int) + (k : Int)) = ((i + k : Nat) : Int) by rw [wr _ (by omega)]; omega]
      by_cases hend : i + k = (spText text).length
      · rw [if_pos (by omega), if_pos (List.drop_of_length_le (by omega))]
        simp [inrO, stepO, finV]
      · have hlt : i + k < (spText text).length := by omega
        rw [if_neg (by omega), if_neg (show ¬ (spText text).drop (i + k) = [] from fun h => by have := congrArg List.length h; simp at this; omega)]
        have hd := drop_cons (spText text) (i + k) hlt
        have hpe : ∀ path, preref1_Piece ((spText text).drop (i + k)) path = some ((piece ((spText text).drop (i + k)) path).1, takeO ((spText text).drop (i + k)) (piece ((spText text).drop (i + k)) path).2) := fun path => by
          rw [hd]; exact rpiece_eq _ _ (by simp; omega) path
        have j3 : ∀ first path : Bool, first = (out.isEmpty || feed) → path = (!first && pathOk out) → stepO (preref1_Tokens_b1 file text (spS text)) (preref1_Tokens_j3 file text (spS text) out ((k : Int), feed) ((i + k : Nat) : Int) first path) =
            some (finV file text out (match piece ((spText text).drop (i + k)) (!(out.isEmpty || feed) && decide (stOf out = 2)) with
              | (_, none) => ([], some (i + k))
              | (kind, some m) =>
                let t := ((spText text).drop (i + k)).take m
                let x := lxF n (((spText text).drop (i + k)).drop m) (i + k + m) (nextP (stOf out) t (out.isEmpty || feed)) false
                (⟨kind, i + k, m, decide (0 < k), out.isEmpty || feed, t⟩ :: x.1, x.2))) := fun first path hfirst hpath => by
          simp only [preref1_Tokens_j3, Int.toNat_natCast, hxT, hpe, Option.bind_some, hAl]
          rw [if_pos (show (0 : Int) ≤ ((i + k : Nat) : Int) ∧ ((i + k : Nat) : Int) ≤ ((spText text).length : Int) ∧ ((spText text).length : Int) ≤ ((spText text).length : Int) by omega)]
          rw [hpath, hfirst, pathOk_st, hAt _ (by omega)]
          have hpos : (0 : Int) ≤ ((i + k : Nat) : Int) ∧ i + k < (spPos text).length := by omega
          generalize hp : piece ((spText text).drop (i + k)) (!(out.isEmpty || feed) && decide (stOf out = 2)) = pc
          obtain ⟨kind, m⟩ := pc
          cases m with
          | none =>
            simp only [takeO]
            have he : eqS ([] : List UInt8) [] = true := rfl
            simp only [he, if_true, hpos, and_self]
            rfl
          | some m =>
            obtain ⟨m1, m2⟩ := piece_le hp
            rw [List.length_drop] at m2
            simp only [takeO]
            have hne : ¬ ((spText text).drop (i + k)).take m = [] := fun e => by have := congrArg List.length e; simp at this; omega
            have hlen : (((spText text).drop (i + k)).take m).length = m := by simp; omega
            have he : eqS (((spText text).drop (i + k)).take m) [] = false := by rw [eqS_false]; exact hne
            simp only [he, Bool.false_eq_true, if_false, hlen]
            rw [if_pos hpos]
            rw [show IntKind.i64.wrap (((i + k : Nat) : Int) + (m : Int)) = ((i + k + m : Nat) : Int) by rw [wr _ (by omega)]; omega]
            rw [wNm (i + k + m) (by omega)]
            simp only [Int.toNat_natCast]
            rw [if_pos (show (0 : Int) ≤ ((i + k + m - 1 : Nat) : Int) ∧ i + k + m - 1 < (spPos text).length by omega), if_pos hpos, hAt _ (by omega)]
            have hA1 := posAt_le text (i + k) (by omega)
            have hA2 := posAt_le text (i + k + m - 1) (by omega)
            rw [line_eq text _ (by omega)]
            simp only [Option.bind_some]
            have hkAt : kAt text (((spPos text).getD (i + k) 0 : Nat) : Int) = (spPos text).getD (i + k) 0 := by unfold kAt; rw [Int.toNat_natCast]; omega
            rw [hkAt, if_pos (by simp; omega)]
            rw [wN1 _ (by omega)]
            simp only [stepO]
            have hlt0 : ltI 0 (k : Int) = decide (0 < k) := by unfold ltI; congr 1; simp
            rw [hlt0]
            have htok : (⟨kind, List.take m (List.drop (i + k) (spText text)), decide (0 < k), out.isEmpty || feed, file, (((spPos text).getD (i + k) 0 : Nat) : Int), (((spPos text).getD (i + k + m - 1) 0 + 1 : Nat) : Int), ((lineN text ((spPos text).getD (i + k) 0) : Nat) : Int), [], [], 0⟩ : Token) = tokOf file text ⟨kind, i + k, m, decide (0 < k), out.isEmpty || feed, List.take m (List.drop (i + k) (spText text))⟩ := rfl
            rw [htok, rtok_loop file text ht n (i + k + m) _ (by omega) (by omega) (by simp; omega), finV_cons, stOf_snoc, List.drop_drop]
            have hne : (out ++ [tokOf file text ⟨kind, i + k, m, decide (0 < k), out.isEmpty || feed, List.take m (List.drop (i + k) (spText text))⟩]).isEmpty = false := by simp
            rw [hne]
            rfl
        have j2 : ∀ first : Bool, first = (out.isEmpty || feed) → stepO (preref1_Tokens_b1 file text (spS text)) (preref1_Tokens_j2 file text (spS text) out ((k : Int), feed) (((i + k : Nat) : Int), first)) = _ := fun first hfirst => by
          refine Eq.trans ?_ (j3 first (!first && pathOk out) hfirst rfl)
          congr 1
          simp only [preref1_Tokens_j2, leI, decide_eq_true_eq]
          cases first
          · rw [if_pos (by decide)]
            by_cases h2 : 2 ≤ out.length
            · obtain ⟨l, a, b, ho2, hb, ha, hp⟩ := last_two out h2
              have q1 : IntKind.i64.wrap ((out.length : Int) - 1) = ((out.length - 1 : Nat) : Int) := wNm _ (by omega)
              have q2 : IntKind.i64.wrap ((out.length : Int) - 2) = ((out.length - 2 : Nat) : Int) := by rw [wr _ (by omega)]; omega
              have g1 : (0 : Int) ≤ ((out.length - 1 : Nat) : Int) ∧ out.length - 1 < out.length := by omega
              have g2 : (0 : Int) ≤ ((out.length - 2 : Nat) : Int) ∧ out.length - 2 < out.length := by omega
              rw [if_pos (by omega)]
              simp only [q1, q2, Int.toNat_natCast, hb, ha]
              rw [if_pos g1, if_pos g1, if_pos g2, if_pos g2, hp]
              simp only [eqS, incT]
              by_cases t1 : b.Text = [105, 110, 99, 108, 117, 100, 101]
              · cases hb1 : b.First
                · by_cases t2 : a.Text = [35]
                  · simp [t1, t2]
                  · simp [t1, t2]
                · simp [t1]
              · simp [t1]
            · rw [if_neg (by omega)]
              have : pathOk out = false := by
                match out, h2 with
                | [], _ => rfl
                | [_], _ => rfl
                | _ :: _ :: _, h => simp at h
              rw [this]; rfl
          · rw [if_neg (by decide)]; rfl
        cases feed
        · rw [if_neg (by decide)]
          refine j2 _ ?_
          unfold eqI
          cases out with
          | nil => rfl
          | cons a l => simp; omega
        · rw [if_pos rfl]
          exact j2 true (by simp)

theorem rtokens_eq (file : Int) (text : List UInt8) (h : text.length ≤ 1099511627776) : preref1_Tokens file text = some (toksV file text) := by
  unfold preref1_Tokens toksV
  simp only [ltI, decide_eq_true_eq]
  by_cases ht : 3000 < text.length
  · rw [if_pos (by omega), if_pos ht]
  · rw [if_neg (by omega), if_neg ht, rsplice_eq text h]
    have := rtok_loop file text (by omega) ((spText text).length + 1) 0 [] (Nat.zero_le _) (by omega) (by have := spText_len text; simp; omega)
    simp only [Option.bind_some]
    rw [show (([] : List Token), (0 : Int)) = ([], ((0 : Nat) : Int)) from rfl, this]
    unfold raws
    simp only [List.drop_zero]
    rw [show stOf [] = 0 from rfl, show ([] : List Token).isEmpty = true from rfl]
    generalize lxF ((spText text).length + 1) (spText text) 0 0 true = z
    obtain ⟨ts, _ | p⟩ := z <;> simp [finV]
end Go.Proofs.Ytgkacglpjmndbaa
