/- What tokens come to: atoms; the program's three are one function; Eval. Plain. -/
import Derived.Test.YtghmojcecefgjaaDoorZoaw
set_option linter.unusedVariables false
set_option linter.unusedSimpArgs false
namespace Go.Proofs.YtghmojcecefgjaaDoor
open Go.RowKit
theorem atom1_eq (l : List Token) (i z : Int) (d : Nat) (hd : d ≤ 30) : cond_parser_atom_1 l i ((d + 1 : Nat) : Int) z = some (d : Int) := by
  unfold cond_parser_atom_1
  rw [wm1 d (by omega)]
def clean (l : List Token) : Prop := ∀ t ∈ l, t.Text.length ≤ 281474976710656
theorem aj2_eq {l : List Token} (hl : l.length < 1099511627776) (i d z : Nat) (hi : i ≤ l.length) (hd : d ≤ 30) (n : Int) (p : Bool) :
    Is d z (cond_parser_atom_j2 l (i : Int) (z : Int) ((d + 1 : Nat) : Int) (n, p)) (if p = true then .ok n (i + 1) else erAt l i 3) := by
  rw [cond_parser_atom_j2]
  cases p with
  | false =>
    rw [if_pos (by decide), if_neg (by decide), fail_eq _ _ (by omega), Option.bind_some, atom1_eq _ _ _ _ hd, Option.bind_some]
    exact ⟨_, rfl⟩
  | true =>
    rw [if_neg (by decide), if_pos rfl, w1 i (by omega), atom1_eq _ _ _ _ hd, Option.bind_some]
    rfl
theorem un_is {l : List Token} {d z i : Nat} (hd : d ≤ 30) (q : OG) (r : Res) (f : Int → Int) (g : Int × Int × Int × Int → OG) (h : Int × Int × Int × Int × Int × Int → OG)
    (H : Is (d + 1) z q r) (hg : ∀ v (j : Nat), g (v, (j : Int), ((d + 1 : Nat) : Int), (z : Int)) = some (.ok (f v, (j : Int), (d : Int), (z : Int))))
    (hh : ∀ a b c x, ∃ y, h (a, b, c, x) = some (.er (a, b, c, y))) :
    Is d z (grB q g h) (r.then fun v j => .ok (f v) j) := by
  cases r with
  | er a b c =>
    obtain ⟨x, rfl⟩ := H
    exact hh a b c x
  | ok v j =>
    obtain rfl := H
    exact hg v j
theorem er_tail {l : List Token} (k : Int × Int × Int × Int × Int × Int → OG) (hk : ∀ e, k e = (cond_parser_atom_1 l e.2.2.2.1 e.2.2.2.2.1 e.2.2.2.2.2).bind fun r => some (.er (e.1, e.2.1, e.2.2.1, e.2.2.2.1, r, e.2.2.2.2.2))) :
    ∀ a b c x, ∃ y, k (a, b, c, x) = some (.er (a, b, c, y)) := by
  intro a b c x
  rw [hk]
  exact ⟨_, rfl⟩
theorem ato_is {l : List Token} (hl : l.length < 1099511627776) (hc : clean l) {q1 : Q1} {q2 : Q2} {q3 : Q1} {cho ato : Nat → Nat → Nat → Res} {i d z : Nat} (hi : i ≤ l.length) (hd : d ≤ 30) (hz : z ≤ i)
    (H1 : ∀ d' : Nat, d' ≤ 30 → i + 1 ≤ l.length → Is d' z (q1 l ((i + 1 : Nat) : Int) d' z) (cho (i + 1) d' z) ∧ Wf (i + 1) l.length (cho (i + 1) d' z))
    (H3 : ∀ d' : Nat, d' ≤ 30 → i + 1 ≤ l.length → Is d' z (q3 l ((i + 1 : Nat) : Int) d' z) (ato (i + 1) d' z) ∧ Wf (i + 1) l.length (ato (i + 1) d' z)) :
    Is d z (cond_parser_atom_s q1 q2 q3 l i d z) (atoV cho ato l i d z) ∧ Wf i l.length (atoV cho ato l i d z) := by
  unfold cond_parser_atom_s atoV
  by_cases h30 : d = 30
  · rw [ei_t (show (d : Int) = 30 by omega), if_pos rfl, if_pos h30, fail_eq _ _ (by omega), Option.bind_some]
    exact ⟨⟨_, rfl⟩, trivial⟩
  rw [ei_f (show ¬ (d : Int) = 30 by omega), if_neg (by decide), if_neg h30, w1 d (by omega)]
  by_cases hn : i = l.length
  · rw [ei_t (show (i : Int) = (l.length : Int) by omega), if_pos rfl, if_pos hn, fail_eq _ _ (by omega), Option.bind_some, atom1_eq _ _ _ _ hd, Option.bind_some]
    exact ⟨⟨_, rfl⟩, trivial⟩
  have hlt : i < l.length := by omega
  rw [ei_f (show ¬ (i : Int) = (l.length : Int) by omega), if_neg (by decide), if_neg hn, Int.toNat_natCast, if_pos (show (0 : Int) ≤ (i : Int) ∧ i < l.length by omega)]
  have htx := hc _ (List.getD_eq_getElem?_getD (l := l) (i := i) (a := default) ▸ by rw [List.getElem?_eq_getElem hlt]; exact List.getElem_mem hlt : l.getD i default ∈ l)
  generalize hT : l.getD i default = t at htx ⊢
  by_cases k1 : t.Kind = 1
  · rw [ei_t k1, if_pos rfl, if_pos k1, w1 i (by omega), atom1_eq _ _ _ _ hd, Option.bind_some]
    exact ⟨rfl, by omega, by omega⟩
  rw [ei_f k1, if_neg (by decide), if_neg k1]
  have wj2 : ∀ x : Int × Bool, Wf i l.length (if x.2 = true then .ok x.1 (i + 1) else erAt l i 3) := by
    intro x
    split
    · exact ⟨by omega, by omega⟩
    · trivial
  by_cases k2 : t.Kind = 2
  · rw [ei_t k2, if_pos rfl, if_pos k2]
    refine ⟨?_, wj2 _⟩
    rw [cond_parser_atom_j1, if_pos rfl, num_eq _ htx, Option.bind_some, ei_f (show ¬ t.Kind = 3 by omega), if_neg (by decide)]
    exact aj2_eq hl i d z hi hd _ _
  rw [ei_f k2, if_neg (by decide), if_neg k2]
  by_cases k3 : t.Kind = 3
  · rw [ei_t k3, if_pos k3]
    refine ⟨?_, wj2 _⟩
    rw [cond_parser_atom_j1, if_pos rfl, num_eq _ htx, Option.bind_some, ei_t k3, if_pos rfl]
    show Is d z (cond_parser_atom_j2 l (i : Int) (z : Int) ((d + 1 : Nat) : Int) ((charF t.Text).1, (charF t.Text).2)) _
    exact aj2_eq hl i d z hi hd _ _
  rw [ei_f k3, if_neg k3, cond_parser_atom_j1, if_neg (by decide)]
  have hd1 : d + 1 ≤ 30 := by omega
  have ht := er_tail (l := l)
  rw [eat_eq [40] l i (by omega), Option.bind_some]
  by_cases s1 : signAt l i = [40]
  · rw [decide_eq_true s1, if_pos s1, if_pos s1, if_pos rfl]
    obtain ⟨g1, g2⟩ := H1 (d + 1) hd1 (by omega)
    cases hr : cho (i + 1) (d + 1) z with
    | er e f q =>
      rw [hr] at g1
      obtain ⟨w, hw⟩ := g1
      rw [hw]
      exact ⟨⟨_, rfl⟩, trivial⟩
    | ok v j =>
      rw [hr] at g1 g2
      rw [show q1 l ((i + 1 : Nat) : Int) ((d + 1 : Nat) : Int) z = _ from g1]
      obtain ⟨g3, g4⟩ := g2
      show Is d z ((cond_parser_eat [41] l (j : Int) ((d + 1 : Nat) : Int) (z : Int)).bind _) (if signAt l j = [41] then _ else _) ∧ Wf i l.length (if signAt l j = [41] then _ else _)
      rw [eat_eq [41] l j (by omega), Option.bind_some]
      by_cases s2 : signAt l j = [41]
      · have := sign_lt s2 (by decide)
        rw [decide_eq_true s2, if_pos s2, if_pos s2, if_neg (by simp)]
        show Is d z ((cond_parser_atom_1 l ((j + 1 : Nat) : Int) ((d + 1 : Nat) : Int) (z : Int)).bind _) _ ∧ _
        rw [atom1_eq _ _ _ _ hd, Option.bind_some]
        exact ⟨rfl, by omega, by omega⟩
      · rw [decide_eq_false s2, if_neg s2, if_neg s2, if_pos (by simp)]
        show Is d z ((cond_parser_fail 2 l (j : Int) ((d + 1 : Nat) : Int) (z : Int)).bind _) _ ∧ _
        rw [fail_eq _ _ (by omega), Option.bind_some]
        show Is d z ((cond_parser_atom_1 l (j : Int) ((d + 1 : Nat) : Int) (z : Int)).bind _) _ ∧ _
        rw [atom1_eq _ _ _ _ hd, Option.bind_some]
        exact ⟨⟨_, rfl⟩, trivial⟩
  rw [decide_eq_false s1, if_neg s1, if_neg s1, if_neg (by simp)]
  have wun : ∀ f : Int → Int, i + 1 ≤ l.length → Wf i l.length ((ato (i + 1) (d + 1) z).then fun v j => .ok (f v) j) := by
    intro f h
    have := (H3 (d + 1) hd1 h).2
    cases hr : ato (i + 1) (d + 1) z with
    | er e f q => trivial
    | ok v j => rw [hr] at this; exact ⟨by have := this.1; omega, this.2⟩
  show Is d z ((cond_parser_eat [45] l (i : Int) ((d + 1 : Nat) : Int) (z : Int)).bind _) _ ∧ _
  rw [eat_eq [45] l i (by omega), Option.bind_some]
  by_cases s2 : signAt l i = [45]
  · have hj := sign_lt s2 (by decide)
    rw [decide_eq_true s2, if_pos s2, if_pos s2, if_pos rfl]
    refine ⟨un_is (l := l) (i := i) hd _ _ (fun v => IntKind.i64.wrap (0 - v)) _ _ (H3 (d + 1) hd1 (by omega)).1 (fun v j => ?_) (ht _ fun _ => rfl), wun _ (by omega)⟩
    show (cond_parser_atom_1 l (j : Int) ((d + 1 : Nat) : Int) (z : Int)).bind _ = _
    rw [atom1_eq _ _ _ _ hd]; rfl
  rw [decide_eq_false s2, if_neg s2, if_neg s2, if_neg (by simp)]
  show Is d z ((cond_parser_eat [43] l (i : Int) ((d + 1 : Nat) : Int) (z : Int)).bind _) _ ∧ _
  rw [eat_eq [43] l i (by omega), Option.bind_some]
  by_cases s3 : signAt l i = [43]
  · have hj := sign_lt s3 (by decide)
    rw [decide_eq_true s3, if_pos s3, if_pos s3, if_pos rfl]
    refine ⟨un_is (l := l) (i := i) hd _ _ (fun v => v) _ _ (H3 (d + 1) hd1 (by omega)).1 (fun v j => ?_) (ht _ fun _ => rfl), wun (fun v => v) (by omega)⟩
    show (cond_parser_atom_1 l (j : Int) ((d + 1 : Nat) : Int) (z : Int)).bind _ = _
    rw [atom1_eq _ _ _ _ hd]; rfl
  rw [decide_eq_false s3, if_neg s3, if_neg s3, if_neg (by simp)]
  show Is d z ((cond_parser_eat [126] l (i : Int) ((d + 1 : Nat) : Int) (z : Int)).bind _) _ ∧ _
  rw [eat_eq [126] l i (by omega), Option.bind_some]
  by_cases s4 : signAt l i = [126]
  · have hj := sign_lt s4 (by decide)
    rw [decide_eq_true s4, if_pos s4, if_pos s4, if_pos rfl]
    refine ⟨un_is (l := l) (i := i) hd _ _ (fun v => IntKind.i64.wrap ((BitVec.ofInt IntKind.i64.bits (-1)) ^^^ (BitVec.ofInt IntKind.i64.bits v)).toNat) _ _ (H3 (d + 1) hd1 (by omega)).1 (fun v j => ?_) (ht _ fun _ => rfl), wun _ (by omega)⟩
    show (cond_parser_atom_1 l (j : Int) ((d + 1 : Nat) : Int) (z : Int)).bind _ = _
    rw [atom1_eq _ _ _ _ hd]; rfl
  rw [decide_eq_false s4, if_neg s4, if_neg s4, if_neg (by simp)]
  show Is d z ((cond_parser_eat [33] l (i : Int) ((d + 1 : Nat) : Int) (z : Int)).bind _) _ ∧ _
  rw [eat_eq [33] l i (by omega), Option.bind_some]
  by_cases s5 : signAt l i = [33]
  · have hj := sign_lt s5 (by decide)
    rw [decide_eq_true s5, if_pos s5, if_pos s5, if_pos rfl]
    refine ⟨un_is (l := l) (i := i) hd _ _ (fun v => oneV (decide (v = 0))) _ _ (H3 (d + 1) hd1 (by omega)).1 (fun v j => ?_) (ht _ fun _ => rfl), wun _ (by omega)⟩
    show (cond_one (eqI v 0)).bind _ = _
    rw [one_eq, Option.bind_some]
    show (cond_parser_atom_1 l (j : Int) ((d + 1 : Nat) : Int) (z : Int)).bind _ = _
    rw [atom1_eq _ _ _ _ hd]; rfl
  rw [decide_eq_false s5, if_neg s5, if_neg s5, if_neg (by simp)]
  show Is d z ((cond_parser_fail 2 l (i : Int) ((d + 1 : Nat) : Int) (z : Int)).bind _) _ ∧ _
  rw [fail_eq _ _ (by omega), Option.bind_some]
  show Is d z ((cond_parser_atom_1 l (i : Int) ((d + 1 : Nat) : Int) (z : Int)).bind _) _ ∧ _
  rw [atom1_eq _ _ _ _ hd, Option.bind_some]
  exact ⟨⟨_, rfl⟩, trivial⟩
theorem rec_is {l : List Token} (hl : l.length < 1099511627776) (hc : clean l) : ∀ (n m i d z : Nat), i ≤ l.length → d ≤ 30 → z ≤ i →
    (3 * (l.length - i) + 2 < n → 3 * (l.length - i) + 2 < m → Is d z ((rec_cond_parser_choice n).1 l i d z) ((pV l m).1 i d z) ∧ Wf i l.length ((pV l m).1 i d z)) ∧
    (3 * (l.length - i) + 1 < n → 3 * (l.length - i) + 1 < m → ∀ t : Nat, t ≤ 11 → Is d z ((rec_cond_parser_choice n).2.1 (t : Int) l i d z) ((pV l m).2.1 t i d z) ∧ Wf i l.length ((pV l m).2.1 t i d z)) ∧
    (3 * (l.length - i) < n → 3 * (l.length - i) < m → Is d z ((rec_cond_parser_choice n).2.2 l i d z) ((pV l m).2.2 i d z) ∧ Wf i l.length ((pV l m).2.2 i d z)) := by
  intro n
  induction n with
  | zero => intro m i d z _ _ _; exact ⟨fun h => by omega, fun h => by omega, fun h => by omega⟩
  | succ n ih =>
    intro m i d z hi hd hz
    refine ⟨fun h1 h2 => ?_, fun h1 h2 t ht => ?_, fun h1 h2 => ?_⟩
    · obtain ⟨m, rfl⟩ : ∃ k, m = k + 1 := ⟨m - 1, by omega⟩
      have hb := (ih m i d z hi hd hz).2.1 (by omega) (by omega) 1 (by omega)
      have hx : ∀ j z' : Nat, i < j → j ≤ l.length → z' ≤ j → Is d z' ((rec_cond_parser_choice n).1 l j d z') ((pV l m).1 j d z') ∧ Wf j l.length ((pV l m).1 j d z') :=
        fun j z' h3 h4 h5 => (ih m j d z' h4 hd h5).1 (by omega) (by omega)
      exact ⟨cho_is (q3 := (rec_cond_parser_choice n).2.2) hl hi hz hb hx, cho_wf hb.2 hz fun j z' h3 h4 h5 => (hx j z' h3 h4 h5).2⟩
    · obtain ⟨m, rfl⟩ : ∃ k, m = k + 1 := ⟨m - 1, by omega⟩
      exact bin_is (q1 := (rec_cond_parser_choice n).1) hl hi hz ((ih m i d z hi hd hz).2.2 (by omega) (by omega)) (fun t' j z' h3 h4 h5 h6 => (ih m j d z' h5 hd h6).2.1 (by omega) (by omega) t' h3)
    · obtain ⟨m, rfl⟩ : ∃ k, m = k + 1 := ⟨m - 1, by omega⟩
      exact ato_is (q2 := (rec_cond_parser_choice n).2.1) hl hc hi hd hz (fun d' h3 h4 => (ih m (i + 1) d' z h4 h3 (by omega)).1 (by omega) (by omega)) (fun d' h3 h4 => (ih m (i + 1) d' z h4 h3 (by omega)).2.2 (by omega) (by omega))
def finE (l : List Token) : Res → Int × Int × Int × Int
  | .ok v j => if j < l.length then (0, 2, (faultAt l j).1, (faultAt l j).2) else (v, 0, -1, 0)
  | .er e f p => (0, e, f, p)
def evalV (l : List Token) : Int × Int × Int × Int := finE l ((pV l (3 * l.length + 4)).1 0 0 0)
theorem eval_eq (l : List Token) (hl : l.length < 1099511627776) (hc : clean l) : cond_Eval l = some (evalV l) := by
  have hF := bigF_le
  obtain ⟨h1, h2⟩ := (rec_is hl hc bigF (3 * l.length + 4) 0 0 0 (Nat.zero_le _) (by omega) (Nat.le_refl _)).1 (by omega) (by omega)
  unfold cond_Eval evalV cond_parser_choice
  cases hr : (pV l (3 * l.length + 4)).1 0 0 0 with
  | er e f p =>
    rw [hr] at h1
    obtain ⟨x, hx⟩ := h1
    rw [show (rec_cond_parser_choice bigF).1 l 0 0 0 = _ from hx]
    rfl
  | ok v j =>
    rw [hr] at h1
    rw [show (rec_cond_parser_choice bigF).1 l 0 0 0 = _ from h1]
    show (if (ltI (j : Int) (l.length : Int)) = true then (cond_parser_fail 2 l (j : Int) ((0 : Nat) : Int) ((0 : Nat) : Int)).bind _ else _) = some (if j < l.length then _ else _)
    by_cases hj : j < l.length
    · rw [li_t (show (j : Int) < (l.length : Int) by omega), if_pos rfl, if_pos hj, fail_eq _ _ (by omega)]
      rfl
    · rw [li_f (show ¬ (j : Int) < (l.length : Int) by omega), if_neg (by decide), if_neg hj]
      rfl
end Go.Proofs.YtghmojcecefgjaaDoor
