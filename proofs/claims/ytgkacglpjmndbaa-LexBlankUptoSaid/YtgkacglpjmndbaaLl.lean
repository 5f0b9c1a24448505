/- lex: notes and blanks that are put in: LexBlank answers true. Plain. -/
import Derived.Test.YtgkacglpjmndbaaLk
namespace Go.Proofs.Ytgkacglpjmndbaa
open Go.RowKit

/-- A text with a note behind each line feed, and one at its end. -/
def tlN : List UInt8 → List UInt8
  | [] => [47, 47, 32, 121]
  | c :: r => if c = 10 then 10 :: 32 :: 32 :: 47 :: 42 :: 32 :: 120 :: 32 :: 42 :: 47 :: 9 :: tlN r else c :: tlN r
def clean (l : List UInt8) : Prop := ∀ c ∈ l, c ≠ 47
theorem clean_drop {l : List UInt8} (h : clean l) (k : Nat) : clean (l.drop k) := fun c hc => h c (List.drop_subset k l hc)
theorem tlN_ne {c : UInt8} (r : List UInt8) (h : c ≠ 10) : tlN (c :: r) = c :: tlN r := by simp [tlN, h]
theorem tlN_at (c : UInt8) (r : List UInt8) : ∃ x, tlN (c :: r) = c :: x ∧ (c ≠ 10 → x = tlN r) := by
  by_cases h : c = 10
  · subst h; exact ⟨_, rfl, fun h => absurd rfl h⟩
  · exact ⟨_, tlN_ne r h, fun _ => rfl⟩

theorem skip_x (X : List UInt8) : skip (32 :: 32 :: 47 :: 42 :: 32 :: 120 :: 32 :: 42 :: 47 :: 9 :: X) = ((skip X).1 + 10, (skip X).2) := by
  have e1 : endC (32 :: 120 :: 32 :: 42 :: 47 :: 9 :: X) = some 3 := by simp [endC]
  have e9 := skip_bl (c := 9) (r := X) rfl
  have en := skip_note (r := 42 :: 32 :: 120 :: 32 :: 42 :: 47 :: 9 :: X) (j := 3) rfl (by rw [List.drop_succ_cons, List.drop_zero]; exact e1)
  have ed : (42 :: 32 :: 120 :: 32 :: 42 :: 47 :: 9 :: X).drop (3 + 3) = 9 :: X := rfl
  rw [ed, e9] at en
  rw [skip_bl (c := 32) rfl, skip_bl (c := 32) rfl, en]
  simp

theorem skip_tl : ∀ (l : List UInt8), clean l → (skip l).2.2 = true ∧ (skip (tlN l)).2.2 = true ∧ (skip (tlN l)).2.1 = (skip l).2.1 ∧
    (l.drop (skip l).1 = [] → (tlN l).drop (skip (tlN l)).1 = []) ∧ (l.drop (skip l).1 ≠ [] → (tlN l).drop (skip (tlN l)).1 = tlN (l.drop (skip l).1)) ∧ (∀ c r, l.drop (skip l).1 = c :: r → isBl c = false)
  | [], _ => by
    have e : skip (tlN []) = (4, false, true) := by decide
    rw [e, skip_nil]
    exact ⟨rfl, rfl, rfl, fun _ => rfl, fun h => absurd rfl h, fun c r h => by cases h⟩
  | c :: r, h => by
    have hr : clean r := fun x hx => h x (List.mem_cons_of_mem _ hx)
    obtain ⟨a1, a2, a3, a4, a5, a6⟩ := skip_tl r hr
    by_cases hb : isBl c = true
    · by_cases h10 : c = 10
      · subst h10
        have e : skip (tlN (10 :: r)) = ((skip (tlN r)).1 + 11, true, (skip (tlN r)).2.2) := by
          show skip (10 :: 32 :: 32 :: 47 :: 42 :: 32 :: 120 :: 32 :: 42 :: 47 :: 9 :: tlN r) = _
          rw [skip_bl rfl, skip_x]; rfl
        rw [e, skip_bl hb]
        exact ⟨a1, a2, rfl, a4, a5, a6⟩
      · have e : skip (tlN (c :: r)) = ((skip (tlN r)).1 + 1, decide (c = 10) || (skip (tlN r)).2.1, (skip (tlN r)).2.2) := by rw [tlN_ne r h10, skip_bl hb]
        rw [e, skip_bl hb, tlN_ne r h10]
        exact ⟨a1, a2, by simp only [a3], a4, a5, a6⟩
    · have hb' : isBl c = false := by simpa using hb
      have h47 : c ≠ 47 := h c (by simp)
      have h10 : c ≠ 10 := fun e => by rw [e] at hb'; exact absurd hb' (by decide)
      rw [tlN_ne r h10, skip_stop hb' (fun h => h47 h.1) (fun h => h47 h.1), skip_stop hb' (fun h => h47 h.1) (fun h => h47 h.1)]
      exact ⟨rfl, rfl, rfl, fun h => by simp at h, fun _ => by simp only [List.drop_zero]; rw [tlN_ne r h10], fun c' r' e => by
        simp only [List.drop_zero, List.cons.injEq] at e
        rw [← e.1]; exact hb'⟩

/-- Up to a line feed it is the same. -/
theorem tl_take : ∀ (m : Nat) (l : List UInt8), m ≤ l.length → (∀ x ∈ l.take m, x ≠ 10) → (tlN l).take m = l.take m ∧ (tlN l).drop m = tlN (l.drop m)
  | 0, l, _, _ => by simp
  | m + 1, [], h, _ => by simp at h
  | m + 1, c :: r, h, hx => by
    have h10 : c ≠ 10 := hx c (by simp)
    obtain ⟨h1, h2⟩ := tl_take m r (by simpa using h) (fun x hm => hx x (by simp [hm]))
    rw [tlN_ne r h10]
    simp only [List.take_succ_cons, List.drop_succ_cons, h1, h2, and_self]
theorem tl_run (p : UInt8 → Bool) (h10 : p 10 = false) (h47 : p 47 = false) : ∀ l : List UInt8, runN p (tlN l) = runN p l ∧ ∀ x ∈ l.take (runN p l), x ≠ 10
  | [] => by simp [runN, tlN, h47]
  | c :: r => by
    by_cases hc : p c = true
    · have h : c ≠ 10 := fun e => by rw [e, h10] at hc; cases hc
      obtain ⟨a, b⟩ := tl_run p h10 h47 r
      rw [tlN_ne r h]
      have e1 : ∀ z, runN p (c :: z) = runN p z + 1 := fun z => by simp [runN, List.takeWhile_cons, hc]
      rw [e1, e1, a]
      refine ⟨rfl, fun x hx => ?_⟩
      rw [List.take_succ_cons, List.mem_cons] at hx
      rcases hx with rfl | hx
      · exact h
      · exact b x hx
    · obtain ⟨x, hx, _⟩ := tlN_at c r
      rw [hx]
      simp [runN, List.takeWhile_cons, hc]
theorem tl_num : ∀ (l : List UInt8) (pr : UInt8), numN pr (tlN l) = numN pr l ∧ ∀ x ∈ l.take (numN pr l), x ≠ 10
  | [], pr => by
    have : inNum pr 47 = false := by unfold inNum isWd isLet isDig; simp
    simp [numN, tlN, this]
  | c :: r, pr => by
    by_cases hc : inNum pr c = true
    · have h : c ≠ 10 := fun e => by
        rw [e] at hc
        have : inNum pr 10 = false := by unfold inNum isWd isLet isDig; simp
        rw [this] at hc; cases hc
      obtain ⟨a, b⟩ := tl_num r c
      rw [tlN_ne r h]
      simp only [numN, hc, if_true, a]
      refine ⟨by first | rfl | trivial, fun x hx => ?_⟩
      rw [List.take_succ_cons, List.mem_cons] at hx
      rcases hx with rfl | hx
      · exact h
      · exact b x hx
    · obtain ⟨x, hx, _⟩ := tlN_at c r
      rw [hx]
      simp [numN, hc]
theorem tl_quo (q : UInt8) : ∀ (n : Nat) (l : List UInt8), l.length ≤ n → ∀ m, quoN q l = some m → quoN q (tlN l) = some m ∧ ∀ x ∈ l.take m, x ≠ 10
  | _, [], _, m, h => by simp [quoN] at h
  | 0, c :: r, h, _, _ => by simp at h
  | n + 1, c :: r, hn, m, h => by
    simp only [List.length_cons] at hn
    rw [quoN_cons] at h
    by_cases h10 : c = 10
    · rw [if_pos h10] at h; cases h
    rw [if_neg h10] at h
    rw [tlN_ne r h10, quoN_cons, if_neg h10]
    by_cases hq : c = q
    · rw [if_pos hq] at h ⊢
      cases h
      refine ⟨rfl, fun x hx => ?_⟩
      simp only [List.take_succ_cons, List.take_zero, List.mem_singleton] at hx
      rw [hx]; exact h10
    rw [if_neg hq] at h ⊢
    by_cases h92 : c = 92
    · rw [if_pos h92] at h ⊢
      cases r with
      | nil => cases h
      | cons d r' =>
        simp only at h
        by_cases hd : d = 10
        · rw [if_pos hd] at h; cases h
        rw [if_neg hd] at h
        cases hk : quoN q r' with
        | none => rw [hk] at h; cases h
        | some k =>
          rw [hk] at h
          cases h
          simp only [List.length_cons] at hn
          obtain ⟨a, b⟩ := tl_quo q n r' (by omega) k hk
          rw [tlN_ne r' hd]
          simp only
          rw [if_neg hd, a]
          refine ⟨rfl, fun x hx => ?_⟩
          simp only [List.take_succ_cons, List.mem_cons] at hx
          rcases hx with rfl | rfl | hx
          · exact h10
          · exact hd
          · exact b x hx
    · rw [if_neg h92] at h ⊢
      cases hk : quoN q r with
      | none => rw [hk] at h; cases h
      | some k =>
        rw [hk] at h
        cases h
        obtain ⟨a, b⟩ := tl_quo q n r (by omega) k hk
        rw [a]
        refine ⟨rfl, fun x hx => ?_⟩
        simp only [List.take_succ_cons, List.mem_cons] at hx
        rcases hx with rfl | hx
        · exact h10
        · exact b x hx
theorem pathN_cons (c : UInt8) (r : List UInt8) : pathN (c :: r) = if c = 62 then some 1 else if c = 10 then none else (pathN r).map (· + 1) := by
  unfold pathN
  by_cases h1 : c = 62
  · subst h1; simp [runN, List.takeWhile_cons]
  · by_cases h2 : c = 10
    · subst h2; simp [runN, List.takeWhile_cons]
    · have e : runN (fun c => decide (c ≠ 62) && decide (c ≠ 10)) (c :: r) = runN (fun c => decide (c ≠ 62) && decide (c ≠ 10)) r + 1 := by simp [runN, List.takeWhile_cons, h1, h2]
      rw [e, if_neg h1, if_neg h2, List.drop_succ_cons]
      split <;> rfl
theorem tl_path : ∀ l : List UInt8, pathN (tlN l) = pathN l ∧ ∀ m, pathN l = some m → ∀ x ∈ l.take m, x ≠ 10
  | [] => by
    have e : pathN (tlN []) = none := by decide
    have e' : pathN [] = none := by decide
    rw [e, e']
    exact ⟨rfl, fun m h => by cases h⟩
  | c :: r => by
    by_cases h10 : c = 10
    · subst h10
      obtain ⟨x, hx, _⟩ := tlN_at 10 r
      rw [hx, pathN_cons, pathN_cons]
      exact ⟨rfl, fun m h => by cases h⟩
    · obtain ⟨a, b⟩ := tl_path r
      rw [tlN_ne r h10, pathN_cons, pathN_cons, a]
      refine ⟨rfl, fun m hm x hx => ?_⟩
      by_cases h62 : c = 62
      · rw [if_pos h62] at hm
        cases hm
        simp only [List.take_succ_cons, List.take_zero, List.mem_singleton] at hx
        rw [hx]; exact h10
      · rw [if_neg h62, if_neg h10] at hm
        cases hk : pathN r with
        | none => rw [hk] at hm; cases hm
        | some k =>
          rw [hk] at hm
          cases hm
          simp only [List.take_succ_cons, List.mem_cons] at hx
          rcases hx with rfl | hx
          · exact h10
          · exact b k hk x hx
/-- A word that has neither stands first in both or in none. -/
theorem tl_word : ∀ (w l : List UInt8), (∀ x ∈ w, x ≠ 10 ∧ x ≠ 47) → ((tlN l).take w.length = w ↔ l.take w.length = w)
  | [], l, _ => by simp
  | a :: w, [], h => by
    have := (h a (by simp)).2
    simp only [tlN, List.length_cons, List.take_succ_cons, List.take_nil, List.cons.injEq]
    constructor
    · intro hh; exact absurd hh.1.symm this
    · intro hh; cases hh
  | a :: w, c :: r, h => by
    obtain ⟨x, hx, h2⟩ := tlN_at c r
    rw [hx]
    simp only [List.length_cons, List.take_succ_cons, List.cons.injEq]
    constructor
    · rintro ⟨rfl, h3⟩
      rw [h2 (h c (by simp)).1] at h3
      exact ⟨rfl, (tl_word w r (fun x hx => h x (by simp [hx]))).1 h3⟩
    · rintro ⟨rfl, h3⟩
      rw [h2 (h c (by simp)).1]
      exact ⟨rfl, (tl_word w r (fun x hx => h x (by simp [hx]))).2 h3⟩
theorem tl_sign {c : UInt8} (r : List UInt8) (h47 : c ≠ 47) (h10 : c ≠ 10) : signN (tlN (c :: r)) = signN (c :: r) ∧ ∀ x ∈ (c :: r).take (signN (c :: r)), x ≠ 10 := by
  have one : ∀ (S : List (List UInt8)) (k : Nat), (∀ w ∈ S, w.length = k ∧ (w.head? = some 47 ∨ ∀ x ∈ w, x ≠ 10 ∧ x ≠ 47)) → 0 < k → (S.contains ((tlN (c :: r)).take k) = S.contains ((c :: r).take k)) ∧ (S.contains ((c :: r).take k) = true → ∀ x ∈ (c :: r).take k, x ≠ 10) := fun S k hS hk => by
    have head : ∀ z w, w ∈ S → w.head? = some 47 → (c :: z).take k = w → False := fun z w hw h e => by
      obtain ⟨k', rfl⟩ : ∃ k', k = k' + 1 := ⟨k - 1, by omega⟩
      rw [← e, List.take_succ_cons] at h
      simp at h
      exact h47 h
    refine ⟨?_, fun hc x hx => ?_⟩
    · rw [Bool.eq_iff_iff, List.contains_iff_mem, List.contains_iff_mem]
      constructor
      · intro hm
        obtain ⟨h1, h2⟩ := hS _ hm
        rcases h2 with h2 | h2
        · exact (head _ _ hm h2 (by rw [tlN_ne r h10])).elim
        · have := (tl_word _ (c :: r) h2).1 (by rw [h1])
          rw [h1] at this
          rw [this]; exact hm
      · intro hm
        obtain ⟨h1, h2⟩ := hS _ hm
        rcases h2 with h2 | h2
        · exact (head _ _ hm h2 rfl).elim
        · have := (tl_word _ (c :: r) h2).2 (by rw [h1])
          rw [h1] at this
          rw [this]; exact hm
    · rw [List.contains_iff_mem] at hc
      obtain ⟨h1, h2⟩ := hS _ hc
      rcases h2 with h2 | h2
      · exact (head _ _ hc h2 rfl).elim
      · exact (h2 x hx).1
  obtain ⟨a3, b3⟩ := one signs3 3 (by decide) (by decide)
  obtain ⟨a2, b2⟩ := one signs2 2 (by decide) (by decide)
  obtain ⟨a1, b1⟩ := one signs1 1 (by decide) (by decide)
  unfold signN
  rw [a3, a2, a1]
  refine ⟨rfl, ?_⟩
  split
  · exact b3 (by assumption)
  split
  · exact b2 (by assumption)
  split
  · exact b1 (by assumption)
  · simp

theorem tl_piece (c : UInt8) (r : List UInt8) (path : Bool) (h47 : c ≠ 47) (h10 : c ≠ 10) (kind : Int) (m : Nat) (hp : piece (c :: r) path = (kind, some m)) :
    piece (tlN (c :: r)) path = (kind, some m) ∧ ∀ x ∈ (c :: r).take m, x ≠ 10 := by
  have hrun := tl_run isWd (by decide) (by decide) (c :: r)
  have hnum := tl_num (c :: r) 0
  have hsig := tl_sign r h47 h10
  have hpa := tl_path r
  rw [tlN_ne r h10] at hrun hnum hsig ⊢
  have hdot : ((tlN r).head?.map isDig).getD false = (r.head?.map isDig).getD false := by
    cases r with
    | nil => rfl
    | cons d r' =>
      obtain ⟨x, hx, _⟩ := tlN_at d r'
      rw [hx]; rfl
  rw [piece_cons] at hp
  rw [piece_cons, hdot, hrun.1, hnum.1, hsig.1, hpa.1]
  have up : ∀ (q : UInt8) j, quoN q r = some j → ∀ x ∈ (c :: r).take (j + 1), x ≠ 10 := fun q j hj x hx => by
    rw [List.take_succ_cons, List.mem_cons] at hx
    rcases hx with rfl | hx
    · exact h10
    · exact (tl_quo q _ r (Nat.le_refl _) j hj).2 x hx
  split at hp
  · rename_i h; rw [if_pos h]; cases hp; exact ⟨rfl, hrun.2⟩
  rename_i h; rw [if_neg h]
  split at hp
  · rename_i h; rw [if_pos h]; cases hp; exact ⟨rfl, hnum.2⟩
  rename_i h; rw [if_neg h]
  split at hp
  · rename_i h
    rw [if_pos h]
    cases hj : quoN 34 r with
    | none => rw [hj] at hp; cases hp
    | some j =>
      rw [hj] at hp; cases hp
      rw [(tl_quo 34 _ r (Nat.le_refl _) j hj).1]
      exact ⟨rfl, up 34 j hj⟩
  rename_i h; rw [if_neg h]
  split at hp
  · rename_i h
    rw [if_pos h]
    cases hj : quoN 39 r with
    | none => rw [hj] at hp; cases hp
    | some j =>
      rw [hj] at hp; cases hp
      rw [(tl_quo 39 _ r (Nat.le_refl _) j hj).1]
      exact ⟨rfl, up 39 j hj⟩
  rename_i h; rw [if_neg h]
  split at hp
  · rename_i h
    rw [if_pos h]
    cases hj : pathN r with
    | none => rw [hj] at hp; cases hp
    | some j =>
      rw [hj] at hp; cases hp
      refine ⟨rfl, fun x hx => ?_⟩
      rw [List.take_succ_cons, List.mem_cons] at hx
      rcases hx with rfl | hx
      · exact h10
      · exact hpa.2 j hj x hx
  rename_i h; rw [if_neg h]
  split at hp
  · rename_i h; rw [if_pos h]; cases hp; exact ⟨rfl, hsig.2⟩
  rename_i h; rw [if_neg h]
  cases hp
  refine ⟨rfl, fun x hx => ?_⟩
  simp only [List.take_succ_cons, List.take_zero, List.mem_singleton] at hx
  rw [hx]; exact h10

def keyR (t : Raw) : Int × List UInt8 × Bool := (t.kind, t.txt, t.fst)
theorem tl_lx : ∀ (n : Nat) (l : List UInt8) (i st : Nat) (f : Bool), l.length < n → clean l → (lxF n l i st f).2 = none →
    ∀ (n' i' : Nat), (tlN l).length < n' → (lxF n' (tlN l) i' st f).2 = none ∧ (lxF n' (tlN l) i' st f).1.map keyR = (lxF n l i st f).1.map keyR
  | 0, l, _, _, _, h, _, _, _, _, _ => by simp at h
  | _, _, _, _, _, _, _, _, 0, _, h => by simp at h
  | n + 1, l, i, st, f, hn, hc, hok, n' + 1, i', hn' => by
    obtain ⟨a1, a2, a3, a4, a5, a6⟩ := skip_tl l hc
    unfold lxF at hok ⊢
    rw [a1, a2] at *
    simp only [Bool.true_eq_false, if_false] at hok ⊢
    by_cases he : l.drop (skip l).1 = []
    · rw [if_pos he, if_pos (a4 he)]
      exact ⟨rfl, rfl⟩
    · have e5 := a5 he
      obtain ⟨c, r, hcr⟩ : ∃ c r, l.drop (skip l).1 = c :: r := List.exists_cons_of_ne_nil he
      have hne' : (tlN l).drop (skip (tlN l)).1 ≠ [] := by
        rw [e5, hcr]; obtain ⟨x, hx, _⟩ := tlN_at c r; rw [hx]; simp
      rw [if_neg he] at hok
      rw [if_neg he, if_neg hne', e5, a3]
      have hb := a6 c r hcr
      have hcd := clean_drop hc (skip l).1
      have h47 : c ≠ 47 := hcd c (by rw [hcr]; simp)
      have h10 : c ≠ 10 := fun e => by rw [e] at hb; exact absurd hb (by decide)
      generalize hpp : piece (l.drop (skip l).1) (!(f || (skip l).2.1) && decide (st = 2)) = pc at hok
      obtain ⟨kind, m⟩ := pc
      cases m with
      | none => cases hok
      | some m =>
        have hle := piece_le hpp
        rw [hcr] at hpp
        obtain ⟨b1, b2⟩ := tl_piece c r _ h47 h10 kind m hpp
        rw [hcr, b1]
        have hm : m ≤ (c :: r).length := by rw [← hcr]; exact hle.2
        obtain ⟨t1, t2⟩ := tl_take m (c :: r) hm b2
        have hcr' : (c :: r).length ≤ l.length := by rw [← hcr]; simp
        have ht' : (tlN (c :: r)).length ≤ (tlN l).length := by rw [← hcr, ← e5]; simp
        have ht2 : (tlN ((c :: r).drop m)).length ≤ (tlN (c :: r)).length - m := by rw [← t2]; simp
        have ht3 : m ≤ (tlN (c :: r)).length := by
          have := congrArg List.length t1
          rw [List.length_take, List.length_take] at this; omega
        rw [hcr] at hok
        have ih := tl_lx n ((c :: r).drop m) (i + (skip l).1 + m) (nextP st ((c :: r).take m) (f || (skip l).2.1)) false (by rw [List.length_drop]; omega) (clean_drop (by rw [← hcr]; exact hcd) m) hok n' (i' + (skip (tlN l)).1 + m) (by omega)
        simp only [t1, t2]
        refine ⟨ih.1, ?_⟩
        rw [List.map_cons, List.map_cons, ih.2]
        rfl

theorem sp_plain : ∀ (l : List UInt8) (i : Nat), (∀ c ∈ l, c ≠ 92 ∧ c ≠ 13) → (sp 0 i l).map (·.1) = l
  | [], i, _ => by simp [sp]
  | c :: r, i, h => by
    have hc := h c (by simp)
    have hj : ¬ joinsN (c :: r) > 0 := by
      unfold joinsN
      rw [if_neg, if_neg]
      · omega
      · intro e; simp at e; exact hc.1 e.1
      · intro e; simp at e; exact hc.1 e.1
    simp only [sp, if_neg hj, if_neg (show ¬ (c = 13 ∧ r.head? = some 10) from fun e => hc.2 e.1), List.map_cons]
    rw [sp_plain r (i + 1) (fun x hx => h x (by simp [hx]))]
theorem spText_plain (l : List UInt8) (h : ∀ c ∈ l, c ≠ 92 ∧ c ≠ 13) : spText l = l := sp_plain l 0 h
end Go.Proofs.Ytgkacglpjmndbaa
