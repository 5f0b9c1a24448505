/- Functions of data for functions of the program: splice_joins, splice_Text. Written by dec.py. -/
import Derived.Test.YtgkacglpjmndbaaQs
namespace Go.Proofs.Ytgkacglpjmndbaa
open Go.RowKit
set_option linter.unusedVariables false
set_option linter.unusedSimpArgs false
structure Spliced where
  Text : List UInt8
  At : List Int
  deriving Inhabited, DecidableEq
def d_Spliced (x : Spliced) : D := .ag [.v (str x.Text), .sl 1 (List.map dI x.At)]
theorem d_Spliced_inj (x y : Spliced) (h : d_Spliced x = d_Spliced y) : x = y := by
  cases x; cases y
  simp only [d_Spliced, D.ag.injEq, List.cons.injEq, and_true] at h
  obtain ⟨h0, h1⟩ := h
  have h0 := dS_inj _ _ h0
  have h1 := dL_inj (sz := 1) dI_inj _ _ h1
  subst_vars
  rfl
theorem d_Spliced_sinj (x y : Spliced) (h : strip1 (d_Spliced x) = strip1 (d_Spliced y)) : x = y := by
  cases x; cases y
  simp only [d_Spliced, strip1, strip0, List.map_cons, List.map_nil, D.ag.injEq, List.cons.injEq, and_true] at h
  obtain ⟨h0, h1⟩ := h
  have h0 := dS_inj _ _ h0
  have h1 := dL_inj (sz := 0) dI_inj _ _ h1
  subst_vars
  rfl
theorem d_Spliced_binj (x y : Spliced) (h : (d_Spliced x).cells.map strip1 = (d_Spliced y).cells.map strip1) : x = y := by
  cases x; cases y
  simp only [d_Spliced, D.cells, strip1, strip0, List.map_cons, List.map_nil, List.cons.injEq, and_true] at h
  obtain ⟨h0, h1⟩ := h
  have h0 := dS_inj _ _ h0
  have h1 := dL_inj (sz := 0) dI_inj _ _ h1
  subst_vars
  rfl
theorem one_Spliced (x : Spliced) : (d_Spliced x).cells.all D.one = true := rfl
noncomputable def splice_joins_j2 : Bool → Option Int
  | x2 => if x2 = true then some 3 else some 0
noncomputable def splice_joins_j1 (a0 : List UInt8) : Bool → Option Int
  | x1 => if x1 = true then some 2 else if (leI 3 (a0.length : Int)) = true then if (0 : Int) ≤ 0 ∧ 0 ≤ 3 ∧ 3 ≤ (a0.length : Int) then splice_joins_j2 (eqS (List.take 3 a0) [92, 13, 10]) else none else splice_joins_j2 false
noncomputable def splice_joins (a0 : List UInt8) : Option Int :=
  if (leI 2 (a0.length : Int)) = true then if (0 : Int) ≤ 0 ∧ 0 ≤ 2 ∧ 2 ≤ (a0.length : Int) then splice_joins_j1 a0 (eqS (List.take 2 a0) [92, 10]) else none else splice_joins_j1 a0 false
def e_splice_joins : Int → D := fun r => dI r
def c_splice_joins : (List UInt8) → List D := fun a => [dS a]
theorem c_splice_joins_inj : Inj c_splice_joins := by intro a b h; simp only [c_splice_joins, List.map_cons, List.map_nil, List.cons.injEq, and_true] at h; exact (dS_inj _ _) h
noncomputable def pf_splice_joins : PF := PF.of c_splice_joins (fun a => splice_joins a) e_splice_joins
noncomputable def t_splice_joins : Tab := tabOf Try.prog [] []
theorem t_splice_joins_ok : TabOk t_splice_joins := tabOf_ok (by exact trivial) (by exact trivial)
theorem y_splice_joins : (((type_of% @Try.underlying9) ∧ (type_of% @t_splice_joins.eq_1)) ∧ ((type_of% @c_splice_joins.eq_1) ∧ (type_of% @e_splice_joins.eq_1))) := ⟨⟨@Try.underlying9, @t_splice_joins.eq_1⟩, ⟨@c_splice_joins.eq_1, @e_splice_joins.eq_1⟩⟩
set_option maxRecDepth 100000 in
set_option maxHeartbeats 4000000 in
theorem splice_joins_ok : PureOk Try.prog 58 pf_splice_joins := by
  refine pure_of (t := t_splice_joins) (pure := fun n => [].contains n) c_splice_joins_inj rfl t_splice_joins_ok mixed (fun n hn => tabOf_pure rfl n hn) Try.func58 rfl (by kernel_rfl) (fun a => by simp [c_splice_joins, Try.ntmps58]) ?_
  rintro a0 out H
  simp only [splice_joins] at H
  show aC _ _ (sig0 (List.map (fun d => AV.c (C.d d)) (c_splice_joins a0))) _ _
  refine w_seq ?_
  refine w_region rfl (fun K hK => ?_)
  simp -implicitDefEqProofs only [goR, ↓upd_at, if_true, if_false, reduceCtorEq, ↓reduceIte, Nat.reduceEqDiff, Nat.reduceAdd, Nat.reduceSub, Nat.reduceMul, Nat.reduceBEq, Nat.reduceLT, Nat.reduceLeDiff, Int.reduceToNat, Int.reduceLE, Int.reduceLT, Int.reduceEq, Int.reduceNeg, ← List.map_drop, ← List.map_take, UInt8.reduceToNat, true_implies, implies_true, List.append_eq, y_splice_joins]
  (repeat' (first | ((with_reducible refine hK _ _ ?_); clear hK K) | (with_reducible apply And.intro) | (exact trivial) | (clear hK K; assumption) | (clear hK K; omega)))
  refine then_normal ?_
  refine w_seq ?_
  refine w_block ?_
  refine w_cut (splice_joins_j1 a0) (fun s => [(0, .c (.d (.v (str a0)))), (3, .c (.d (.v (.bool s))))]) (fun s => []) [] out ?_ ?_
  · rcases bsplit H with ⟨hp4, H⟩ | ⟨hp4, H⟩
    · try simp -implicitDefEqProofs only [goR, ↓upd_at, if_true, if_false, reduceCtorEq, ↓reduceIte, Nat.reduceEqDiff, Nat.reduceAdd, Nat.reduceSub, Nat.reduceMul, Nat.reduceBEq, Nat.reduceLT, Nat.reduceLeDiff, Int.reduceToNat, Int.reduceLE, Int.reduceLT, Int.reduceEq, Int.reduceNeg, ← List.map_drop, ← List.map_take, UInt8.reduceToNat, true_implies, implies_true, List.append_eq, y_splice_joins] at hp4
      have hq4 := hp4
      try simp only [goT] at hq4
      obtain ⟨hg2, H⟩ := gsplit H
      refine w_region rfl (fun K hK => ?_)
      simp -implicitDefEqProofs only [goR, ↓upd_at, if_true, if_false, reduceCtorEq, ↓reduceIte, Nat.reduceEqDiff, Nat.reduceAdd, Nat.reduceSub, Nat.reduceMul, Nat.reduceBEq, Nat.reduceLT, Nat.reduceLeDiff, Int.reduceToNat, Int.reduceLE, Int.reduceLT, Int.reduceEq, Int.reduceNeg, ← List.map_drop, ← List.map_take, UInt8.reduceToNat, true_implies, implies_true, List.append_eq, y_splice_joins, hp4]
      (repeat' (first | ((with_reducible refine hK _ _ ?_); clear hK K) | (with_reducible apply And.intro) | (exact trivial) | (clear hK K; assumption) | (clear hK K; omega)))
      refine cut_at H ?_
      exact wk_ren ⟨[], []⟩ rfl rfl rfl rfl rfl (by simp -implicitDefEqProofs only [goW, goR, ↓upd_at, if_true, if_false, reduceCtorEq, ↓reduceIte, Nat.reduceEqDiff, Nat.reduceAdd, Nat.reduceSub, Nat.reduceMul, Nat.reduceBEq, Nat.reduceLT, Nat.reduceLeDiff, Int.reduceToNat, Int.reduceLE, Int.reduceLT, Int.reduceEq, Int.reduceNeg, ← List.map_drop, ← List.map_take, UInt8.reduceToNat, true_implies, implies_true, List.append_eq, y_splice_joins]) (by simp -implicitDefEqProofs only [goW, goR, ↓upd_at, if_true, if_false, reduceCtorEq, ↓reduceIte, Nat.reduceEqDiff, Nat.reduceAdd, Nat.reduceSub, Nat.reduceMul, Nat.reduceBEq, Nat.reduceLT, Nat.reduceLeDiff, Int.reduceToNat, Int.reduceLE, Int.reduceLT, Int.reduceEq, Int.reduceNeg, ← List.map_drop, ← List.map_take, UInt8.reduceToNat, true_implies, implies_true, List.append_eq, y_splice_joins]) (by simp -implicitDefEqProofs only [goW, goR, ↓upd_at, if_true, if_false, reduceCtorEq, ↓reduceIte, Nat.reduceEqDiff, Nat.reduceAdd, Nat.reduceSub, Nat.reduceMul, Nat.reduceBEq, Nat.reduceLT, Nat.reduceLeDiff, Int.reduceToNat, Int.reduceLE, Int.reduceLT, Int.reduceEq, Int.reduceNeg, ← List.map_drop, ← List.map_take, UInt8.reduceToNat, true_implies, implies_true, List.append_eq, y_splice_joins]) rfl
    · try simp -implicitDefEqProofs only [goR, ↓upd_at, if_true, if_false, reduceCtorEq, ↓reduceIte, Nat.reduceEqDiff, Nat.reduceAdd, Nat.reduceSub, Nat.reduceMul, Nat.reduceBEq, Nat.reduceLT, Nat.reduceLeDiff, Int.reduceToNat, Int.reduceLE, Int.reduceLT, Int.reduceEq, Int.reduceNeg, ← List.map_drop, ← List.map_take, UInt8.reduceToNat, true_implies, implies_true, List.append_eq, y_splice_joins] at hp4
      have hq4 := hp4
      try simp only [goT] at hq4
      refine w_region rfl (fun K hK => ?_)
      simp -implicitDefEqProofs only [goR, ↓upd_at, if_true, if_false, reduceCtorEq, ↓reduceIte, Nat.reduceEqDiff, Nat.reduceAdd, Nat.reduceSub, Nat.reduceMul, Nat.reduceBEq, Nat.reduceLT, Nat.reduceLeDiff, Int.reduceToNat, Int.reduceLE, Int.reduceLT, Int.reduceEq, Int.reduceNeg, ← List.map_drop, ← List.map_take, UInt8.reduceToNat, true_implies, implies_true, List.append_eq, y_splice_joins, hp4]
      (repeat' (first | ((with_reducible refine hK _ _ ?_); clear hK K) | (with_reducible apply And.intro) | (exact trivial) | (clear hK K; assumption) | (clear hK K; omega)))
      refine cut_at H ?_
      exact wk_ren ⟨[], []⟩ rfl rfl rfl rfl rfl (by simp -implicitDefEqProofs only [goW, goR, ↓upd_at, if_true, if_false, reduceCtorEq, ↓reduceIte, Nat.reduceEqDiff, Nat.reduceAdd, Nat.reduceSub, Nat.reduceMul, Nat.reduceBEq, Nat.reduceLT, Nat.reduceLeDiff, Int.reduceToNat, Int.reduceLE, Int.reduceLT, Int.reduceEq, Int.reduceNeg, ← List.map_drop, ← List.map_take, UInt8.reduceToNat, true_implies, implies_true, List.append_eq, y_splice_joins]) (by simp -implicitDefEqProofs only [goW, goR, ↓upd_at, if_true, if_false, reduceCtorEq, ↓reduceIte, Nat.reduceEqDiff, Nat.reduceAdd, Nat.reduceSub, Nat.reduceMul, Nat.reduceBEq, Nat.reduceLT, Nat.reduceLeDiff, Int.reduceToNat, Int.reduceLE, Int.reduceLT, Int.reduceEq, Int.reduceNeg, ← List.map_drop, ← List.map_take, UInt8.reduceToNat, true_implies, implies_true, List.append_eq, y_splice_joins]) (by simp -implicitDefEqProofs only [goW, goR, ↓upd_at, if_true, if_false, reduceCtorEq, ↓reduceIte, Nat.reduceEqDiff, Nat.reduceAdd, Nat.reduceSub, Nat.reduceMul, Nat.reduceBEq, Nat.reduceLT, Nat.reduceLeDiff, Int.reduceToNat, Int.reduceLE, Int.reduceLT, Int.reduceEq, Int.reduceNeg, ← List.map_drop, ← List.map_take, UInt8.reduceToNat, true_implies, implies_true, List.append_eq, y_splice_joins]) rfl
  · rintro x1 H
    rw [splice_joins_j1] at H
    rcases bsplit H with ⟨hp1, H⟩ | ⟨hp1, H⟩
    · try simp -implicitDefEqProofs only [goR, ↓upd_at, if_true, if_false, reduceCtorEq, ↓reduceIte, Nat.reduceEqDiff, Nat.reduceAdd, Nat.reduceSub, Nat.reduceMul, Nat.reduceBEq, Nat.reduceLT, Nat.reduceLeDiff, Int.reduceToNat, Int.reduceLE, Int.reduceLT, Int.reduceEq, Int.reduceNeg, ← List.map_drop, ← List.map_take, UInt8.reduceToNat, true_implies, implies_true, List.append_eq, y_splice_joins] at hp1
      have hq1 := hp1
      try simp only [goT] at hq1
      refine w_condT (by simp -implicitDefEqProofs only [goR, ↓upd_at, if_true, if_false, reduceCtorEq, ↓reduceIte, Nat.reduceEqDiff, Nat.reduceAdd, Nat.reduceSub, Nat.reduceMul, Nat.reduceBEq, Nat.reduceLT, Nat.reduceLeDiff, Int.reduceToNat, Int.reduceLE, Int.reduceLT, Int.reduceEq, Int.reduceNeg, ← List.map_drop, ← List.map_take, UInt8.reduceToNat, true_implies, implies_true, List.append_eq, y_splice_joins, hp1]) ?_
      refine w_seq ?_
      refine w_region rfl (fun K hK => ?_)
      simp -implicitDefEqProofs only [goR, ↓upd_at, if_true, if_false, reduceCtorEq, ↓reduceIte, Nat.reduceEqDiff, Nat.reduceAdd, Nat.reduceSub, Nat.reduceMul, Nat.reduceBEq, Nat.reduceLT, Nat.reduceLeDiff, Int.reduceToNat, Int.reduceLE, Int.reduceLT, Int.reduceEq, Int.reduceNeg, ← List.map_drop, ← List.map_take, UInt8.reduceToNat, true_implies, implies_true, List.append_eq, y_splice_joins]
      (repeat' (first | ((with_reducible refine hK _ _ ?_); clear hK K) | (with_reducible apply And.intro) | (exact trivial) | (clear hK K; assumption) | (clear hK K; omega)))
      refine then_normal ?_
      refine w_ret ?_
      refine block_ret ?_
      refine then_ret ?_
      obtain rfl := Option.some.inj H
      simp -implicitDefEqProofs only [goQ, Try.results58, goR, ↓upd_at, if_true, if_false, reduceCtorEq, ↓reduceIte, Nat.reduceEqDiff, Nat.reduceAdd, Nat.reduceSub, Nat.reduceMul, Nat.reduceBEq, Nat.reduceLT, Nat.reduceLeDiff, Int.reduceToNat, Int.reduceLE, Int.reduceLT, Int.reduceEq, Int.reduceNeg, ← List.map_drop, ← List.map_take, UInt8.reduceToNat, true_implies, implies_true, List.append_eq, y_splice_joins]
    · try simp -implicitDefEqProofs only [goR, ↓upd_at, if_true, if_false, reduceCtorEq, ↓reduceIte, Nat.reduceEqDiff, Nat.reduceAdd, Nat.reduceSub, Nat.reduceMul, Nat.reduceBEq, Nat.reduceLT, Nat.reduceLeDiff, Int.reduceToNat, Int.reduceLE, Int.reduceLT, Int.reduceEq, Int.reduceNeg, ← List.map_drop, ← List.map_take, UInt8.reduceToNat, true_implies, implies_true, List.append_eq, y_splice_joins] at hp1
      have hq1 := hp1
      try simp only [goT] at hq1
      refine w_condF (by simp -implicitDefEqProofs only [goR, ↓upd_at, if_true, if_false, reduceCtorEq, ↓reduceIte, Nat.reduceEqDiff, Nat.reduceAdd, Nat.reduceSub, Nat.reduceMul, Nat.reduceBEq, Nat.reduceLT, Nat.reduceLeDiff, Int.reduceToNat, Int.reduceLE, Int.reduceLT, Int.reduceEq, Int.reduceNeg, ← List.map_drop, ← List.map_take, UInt8.reduceToNat, true_implies, implies_true, List.append_eq, y_splice_joins, hp1]) ?_
      refine w_cut splice_joins_j2 (fun s => [(12, .c (.d (.v (.bool s))))]) (fun s => []) [] out ?_ ?_
      · rcases bsplit H with ⟨hp3, H⟩ | ⟨hp3, H⟩
        · try simp -implicitDefEqProofs only [goR, ↓upd_at, if_true, if_false, reduceCtorEq, ↓reduceIte, Nat.reduceEqDiff, Nat.reduceAdd, Nat.reduceSub, Nat.reduceMul, Nat.reduceBEq, Nat.reduceLT, Nat.reduceLeDiff, Int.reduceToNat, Int.reduceLE, Int.reduceLT, Int.reduceEq, Int.reduceNeg, ← List.map_drop, ← List.map_take, UInt8.reduceToNat, true_implies, implies_true, List.append_eq, y_splice_joins] at hp3
          have hq3 := hp3
          try simp only [goT] at hq3
          obtain ⟨hg1, H⟩ := gsplit H
          refine w_region rfl (fun K hK => ?_)
          simp -implicitDefEqProofs only [goR, ↓upd_at, if_true, if_false, reduceCtorEq, ↓reduceIte, Nat.reduceEqDiff, Nat.reduceAdd, Nat.reduceSub, Nat.reduceMul, Nat.reduceBEq, Nat.reduceLT, Nat.reduceLeDiff, Int.reduceToNat, Int.reduceLE, Int.reduceLT, Int.reduceEq, Int.reduceNeg, ← List.map_drop, ← List.map_take, UInt8.reduceToNat, true_implies, implies_true, List.append_eq, y_splice_joins, hp3]
          (repeat' (first | ((with_reducible refine hK _ _ ?_); clear hK K) | (with_reducible apply And.intro) | (exact trivial) | (clear hK K; assumption) | (clear hK K; omega)))
          refine cut_at H ?_
          exact wk_ren ⟨[], []⟩ rfl rfl rfl rfl rfl (by simp -implicitDefEqProofs only [goW, goR, ↓upd_at, if_true, if_false, reduceCtorEq, ↓reduceIte, Nat.reduceEqDiff, Nat.reduceAdd, Nat.reduceSub, Nat.reduceMul, Nat.reduceBEq, Nat.reduceLT, Nat.reduceLeDiff, Int.reduceToNat, Int.reduceLE, Int.reduceLT, Int.reduceEq, Int.reduceNeg, ← List.map_drop, ← List.map_take, UInt8.reduceToNat, true_implies, implies_true, List.append_eq, y_splice_joins]) (by simp -implicitDefEqProofs only [goW, goR, ↓upd_at, if_true, if_false, reduceCtorEq, ↓reduceIte, Nat.reduceEqDiff, Nat.reduceAdd, Nat.reduceSub, Nat.reduceMul, Nat.reduceBEq, Nat.reduceLT, Nat.reduceLeDiff, Int.reduceToNat, Int.reduceLE, Int.reduceLT, Int.reduceEq, Int.reduceNeg, ← List.map_drop, ← List.map_take, UInt8.reduceToNat, true_implies, implies_true, List.append_eq, y_splice_joins]) (by simp -implicitDefEqProofs only [goW, goR, ↓upd_at, if_true, if_false, reduceCtorEq, ↓reduceIte, Nat.reduceEqDiff, Nat.reduceAdd, Nat.reduceSub, Nat.reduceMul, Nat.reduceBEq, Nat.reduceLT, Nat.reduceLeDiff, Int.reduceToNat, Int.reduceLE, Int.reduceLT, Int.reduceEq, Int.reduceNeg, ← List.map_drop, ← List.map_take, UInt8.reduceToNat, true_implies, implies_true, List.append_eq, y_splice_joins]) rfl
        · try simp -implicitDefEqProofs only [goR, ↓upd_at, if_true, if_false, reduceCtorEq, ↓reduceIte, Nat.reduceEqDiff, Nat.reduceAdd, Nat.reduceSub, Nat.reduceMul, Nat.reduceBEq, Nat.reduceLT, Nat.reduceLeDiff, Int.reduceToNat, Int.reduceLE, Int.reduceLT, Int.reduceEq, Int.reduceNeg, ← List.map_drop, ← List.map_take, UInt8.reduceToNat, true_implies, implies_true, List.append_eq, y_splice_joins] at hp3
          have hq3 := hp3
          try simp only [goT] at hq3
          refine w_region rfl (fun K hK => ?_)
          simp -implicitDefEqProofs only [goR, ↓upd_at, if_true, if_false, reduceCtorEq, ↓reduceIte, Nat.reduceEqDiff, Nat.reduceAdd, Nat.reduceSub, Nat.reduceMul, Nat.reduceBEq, Nat.reduceLT, Nat.reduceLeDiff, Int.reduceToNat, Int.reduceLE, Int.reduceLT, Int.reduceEq, Int.reduceNeg, ← List.map_drop, ← List.map_take, UInt8.reduceToNat, true_implies, implies_true, List.append_eq, y_splice_joins, hp3]
          (repeat' (first | ((with_reducible refine hK _ _ ?_); clear hK K) | (with_reducible apply And.intro) | (exact trivial) | (clear hK K; assumption) | (clear hK K; omega)))
          refine cut_at H ?_
          exact wk_ren ⟨[], []⟩ rfl rfl rfl rfl rfl (by simp -implicitDefEqProofs only [goW, goR, ↓upd_at, if_true, if_false, reduceCtorEq, ↓reduceIte, Nat.reduceEqDiff, Nat.reduceAdd, Nat.reduceSub, Nat.reduceMul, Nat.reduceBEq, Nat.reduceLT, Nat.reduceLeDiff, Int.reduceToNat, Int.reduceLE, Int.reduceLT, Int.reduceEq, Int.reduceNeg, ← List.map_drop, ← List.map_take, UInt8.reduceToNat, true_implies, implies_true, List.append_eq, y_splice_joins]) (by simp -implicitDefEqProofs only [goW, goR, ↓upd_at, if_true, if_false, reduceCtorEq, ↓reduceIte, Nat.reduceEqDiff, Nat.reduceAdd, Nat.reduceSub, Nat.reduceMul, Nat.reduceBEq, Nat.reduceLT, Nat.reduceLeDiff, Int.reduceToNat, Int.reduceLE, Int.reduceLT, Int.reduceEq, Int.reduceNeg, ← List.map_drop, ← List.map_take, UInt8.reduceToNat, true_implies, implies_true, List.append_eq, y_splice_joins]) (by simp -implicitDefEqProofs only [goW, goR, ↓upd_at, if_true, if_false, reduceCtorEq, ↓reduceIte, Nat.reduceEqDiff, Nat.reduceAdd, Nat.reduceSub, Nat.reduceMul, Nat.reduceBEq, Nat.reduceLT, Nat.reduceLeDiff, Int.reduceToNat, Int.reduceLE, Int.reduceLT, Int.reduceEq, Int.reduceNeg, ← List.map_drop, ← List.map_take, UInt8.reduceToNat, true_implies, implies_true, List.append_eq, y_splice_joins]) rfl
      · rintro x2 H
        rw [splice_joins_j2] at H
        rcases bsplit H with ⟨hp2, H⟩ | ⟨hp2, H⟩
        · try simp -implicitDefEqProofs only [goR, ↓upd_at, if_true, if_false, reduceCtorEq, ↓reduceIte, Nat.reduceEqDiff, Nat.reduceAdd, Nat.reduceSub, Nat.reduceMul, Nat.reduceBEq, Nat.reduceLT, Nat.reduceLeDiff, Int.reduceToNat, Int.reduceLE, Int.reduceLT, Int.reduceEq, Int.reduceNeg, ← List.map_drop, ← List.map_take, UInt8.reduceToNat, true_implies, implies_true, List.append_eq, y_splice_joins] at hp2
          have hq2 := hp2
          try simp only [goT] at hq2
          refine w_condT (by simp -implicitDefEqProofs only [goR, ↓upd_at, if_true, if_false, reduceCtorEq, ↓reduceIte, Nat.reduceEqDiff, Nat.reduceAdd, Nat.reduceSub, Nat.reduceMul, Nat.reduceBEq, Nat.reduceLT, Nat.reduceLeDiff, Int.reduceToNat, Int.reduceLE, Int.reduceLT, Int.reduceEq, Int.reduceNeg, ← List.map_drop, ← List.map_take, UInt8.reduceToNat, true_implies, implies_true, List.append_eq, y_splice_joins, hp2]) ?_
          refine w_seq ?_
          refine w_region rfl (fun K hK => ?_)
          simp -implicitDefEqProofs only [goR, ↓upd_at, if_true, if_false, reduceCtorEq, ↓reduceIte, Nat.reduceEqDiff, Nat.reduceAdd, Nat.reduceSub, Nat.reduceMul, Nat.reduceBEq, Nat.reduceLT, Nat.reduceLeDiff, Int.reduceToNat, Int.reduceLE, Int.reduceLT, Int.reduceEq, Int.reduceNeg, ← List.map_drop, ← List.map_take, UInt8.reduceToNat, true_implies, implies_true, List.append_eq, y_splice_joins]
          (repeat' (first | ((with_reducible refine hK _ _ ?_); clear hK K) | (with_reducible apply And.intro) | (exact trivial) | (clear hK K; assumption) | (clear hK K; omega)))
          refine then_normal ?_
          refine w_ret ?_
          refine block_ret ?_
          refine then_ret ?_
          obtain rfl := Option.some.inj H
          simp -implicitDefEqProofs only [goQ, Try.results58, goR, ↓upd_at, if_true, if_false, reduceCtorEq, ↓reduceIte, Nat.reduceEqDiff, Nat.reduceAdd, Nat.reduceSub, Nat.reduceMul, Nat.reduceBEq, Nat.reduceLT, Nat.reduceLeDiff, Int.reduceToNat, Int.reduceLE, Int.reduceLT, Int.reduceEq, Int.reduceNeg, ← List.map_drop, ← List.map_take, UInt8.reduceToNat, true_implies, implies_true, List.append_eq, y_splice_joins]
        · try simp -implicitDefEqProofs only [goR, ↓upd_at, if_true, if_false, reduceCtorEq, ↓reduceIte, Nat.reduceEqDiff, Nat.reduceAdd, Nat.reduceSub, Nat.reduceMul, Nat.reduceBEq, Nat.reduceLT, Nat.reduceLeDiff, Int.reduceToNat, Int.reduceLE, Int.reduceLT, Int.reduceEq, Int.reduceNeg, ← List.map_drop, ← List.map_take, UInt8.reduceToNat, true_implies, implies_true, List.append_eq, y_splice_joins] at hp2
          have hq2 := hp2
          try simp only [goT] at hq2
          refine w_condF (by simp -implicitDefEqProofs only [goR, ↓upd_at, if_true, if_false, reduceCtorEq, ↓reduceIte, Nat.reduceEqDiff, Nat.reduceAdd, Nat.reduceSub, Nat.reduceMul, Nat.reduceBEq, Nat.reduceLT, Nat.reduceLeDiff, Int.reduceToNat, Int.reduceLE, Int.reduceLT, Int.reduceEq, Int.reduceNeg, ← List.map_drop, ← List.map_take, UInt8.reduceToNat, true_implies, implies_true, List.append_eq, y_splice_joins, hp2]) ?_
          refine w_skip ?_
          refine block_normal ?_
          refine then_normal ?_
          refine w_seq ?_
          refine w_region rfl (fun K hK => ?_)
          simp -implicitDefEqProofs only [goR, ↓upd_at, if_true, if_false, reduceCtorEq, ↓reduceIte, Nat.reduceEqDiff, Nat.reduceAdd, Nat.reduceSub, Nat.reduceMul, Nat.reduceBEq, Nat.reduceLT, Nat.reduceLeDiff, Int.reduceToNat, Int.reduceLE, Int.reduceLT, Int.reduceEq, Int.reduceNeg, ← List.map_drop, ← List.map_take, UInt8.reduceToNat, true_implies, implies_true, List.append_eq, y_splice_joins]
          (repeat' (first | ((with_reducible refine hK _ _ ?_); clear hK K) | (with_reducible apply And.intro) | (exact trivial) | (clear hK K; assumption) | (clear hK K; omega)))
          refine then_normal ?_
          refine w_ret ?_
          obtain rfl := Option.some.inj H
          simp -implicitDefEqProofs only [goQ, Try.results58, goR, ↓upd_at, if_true, if_false, reduceCtorEq, ↓reduceIte, Nat.reduceEqDiff, Nat.reduceAdd, Nat.reduceSub, Nat.reduceMul, Nat.reduceBEq, Nat.reduceLT, Nat.reduceLeDiff, Int.reduceToNat, Int.reduceLE, Int.reduceLT, Int.reduceEq, Int.reduceNeg, ← List.map_drop, ← List.map_take, UInt8.reduceToNat, true_implies, implies_true, List.append_eq, y_splice_joins]
theorem splice_joins_c (a0 : List UInt8) (r : Int) (H : splice_joins a0 = some r) : pf_splice_joins.pre [dS a0] = True ∧ pf_splice_joins.val [dS a0] = dI r :=
  ⟨PF.of_pre (enc := c_splice_joins) (f := fun a => splice_joins a) (e := e_splice_joins) (a := a0) H, PF.of_val (enc := c_splice_joins) (f := fun a => splice_joins a) (e := e_splice_joins) (a := a0) c_splice_joins_inj H⟩
noncomputable def splice_Text_j2 (a0 : List UInt8) (x1 : List UInt8) (x2 : List Int) (x3 : Int) (x4 : List UInt8) : Bool → Option (((List UInt8) × (List Int) × Int × (List UInt8)) ⊕ Spliced)
  | x5 => if x5 = true then some (.inl (x1, x2, IntKind.i64.wrap (x3 + 1), x4)) else if (0 : Int) ≤ x3 ∧ x3.toNat < a0.length then if (x1.length + [(a0.getD x3.toNat 0)].length) * 1 ≤ 140737488355328 then if (x2.length + [x3].length) * 8 ≤ 140737488355328 then some (.inl (x1 ++ [(a0.getD x3.toNat 0)], x2 ++ [x3], IntKind.i64.wrap (x3 + 1), x4)) else none else none else none
noncomputable def splice_Text_b1 (a0 : List UInt8) : ((List UInt8) × (List Int) × Int × (List UInt8)) → Option (((List UInt8) × (List Int) × Int × (List UInt8)) ⊕ Spliced)
  | (x1, x2, x3, x4) => if (ltI x3 (a0.length : Int)) = true then if (0 : Int) ≤ x3 ∧ x3 ≤ (a0.length : Int) ∧ (a0.length : Int) ≤ (a0.length : Int) then (splice_joins (List.drop x3.toNat a0)).bind fun r1 => if (ltI 0 r1) = true then if (0 : Int) ≤ x3 ∧ x3 ≤ (a0.length : Int) ∧ (a0.length : Int) ≤ (a0.length : Int) then (splice_joins (List.drop x3.toNat a0)).bind fun r2 => some (.inl (x1, x2, IntKind.i64.wrap (x3 + r2), x4)) else none else if (0 : Int) ≤ x3 ∧ x3.toNat < a0.length then if (eqI ((a0.getD x3.toNat 0).toNat : Int) 13) = true then if (ltI (IntKind.i64.wrap (x3 + 1)) (a0.length : Int)) = true then if (0 : Int) ≤ (IntKind.i64.wrap (x3 + 1)) ∧ (IntKind.i64.wrap (x3 + 1)).toNat < a0.length then splice_Text_j2 a0 x1 x2 x3 x4 (eqI ((a0.getD ((IntKind.i64.wrap (x3 + 1)).toNat) 0).toNat : Int) 10) else none else splice_Text_j2 a0 x1 x2 x3 x4 false else splice_Text_j2 a0 x1 x2 x3 x4 false else none else none else inrO (if (x2.length + [(a0.length : Int)].length) * 8 ≤ 140737488355328 then some (⟨x1, x2 ++ [(a0.length : Int)]⟩ : Spliced) else none)
noncomputable def splice_Text (a0 : List UInt8) : Option Spliced :=
  loopO (splice_Text_b1 a0) (([] : List UInt8), ([] : List Int), 0, [])
def e_splice_Text : Spliced → D := fun r => d_Spliced r
def c_splice_Text : (List UInt8) → List D := fun a => [dS a]
theorem c_splice_Text_inj : Inj c_splice_Text := by intro a b h; simp only [c_splice_Text, List.map_cons, List.map_nil, List.cons.injEq, and_true] at h; exact (dS_inj _ _) h
noncomputable def pf_splice_Text : PF := PF.of c_splice_Text (fun a => splice_Text a) e_splice_Text
noncomputable def t_splice_Text : Tab := tabOf Try.prog [(58, pf_splice_joins)] []
theorem t_splice_Text_ok : TabOk t_splice_Text := tabOf_ok (by exact ⟨⟨call_58, splice_joins_ok⟩, trivial⟩) (by exact trivial)
theorem y_splice_Text : ((((((type_of% @Try.underlying5) ∧ (type_of% @Try.underlying74)) ∧ ((type_of% @Try.underlying9) ∧ ((type_of% @tAgg_24) ∧ (type_of% @tAgg_3)))) ∧ (((type_of% @tAgg_5) ∧ (type_of% @tBytes_3)) ∧ ((type_of% @tBytes_5) ∧ ((type_of% @tCS_22) ∧ (type_of% @tCS_24))))) ∧ ((((type_of% @tCS_3) ∧ (type_of% @tCS_5)) ∧ ((type_of% @tCS_9) ∧ ((type_of% @tElem_22) ∧ (type_of% @tElem_74)))) ∧ (((type_of% @tFld_24_0) ∧ ((type_of% @tFld_24_1) ∧ (type_of% @tKnown_24))) ∧ ((type_of% @tKnown_3) ∧ ((type_of% @tKnown_5) ∧ (type_of% @tOff_24_0)))))) ∧ (((((type_of% @tOff_24_1) ∧ (type_of% @tPlain_24)) ∧ ((type_of% @tSize_22) ∧ ((type_of% @tSize_24) ∧ (type_of% @tSize_3)))) ∧ (((type_of% @tSize_5) ∧ (type_of% @tSize_9)) ∧ ((type_of% @tSlice_22) ∧ ((type_of% @tSlice_74) ∧ (type_of% @tStruct_24_0))))) ∧ ((((type_of% @tStruct_24_1) ∧ (type_of% @tZ_24)) ∧ ((type_of% @tZ_3) ∧ ((type_of% @tZ_5) ∧ (type_of% @tZok_24)))) ∧ (((type_of% @tZok_3) ∧ ((type_of% @tZok_5) ∧ (type_of% @d_Spliced.eq_1))) ∧ ((type_of% @t_splice_Text.eq_1) ∧ ((type_of% @c_splice_Text.eq_1) ∧ (type_of% @e_splice_Text.eq_1))))))) := ⟨⟨⟨⟨⟨@Try.underlying5, @Try.underlying74⟩, ⟨@Try.underlying9, ⟨@tAgg_24, @tAgg_3⟩⟩⟩, ⟨⟨@tAgg_5, @tBytes_3⟩, ⟨@tBytes_5, ⟨@tCS_22, @tCS_24⟩⟩⟩⟩, ⟨⟨⟨@tCS_3, @tCS_5⟩, ⟨@tCS_9, ⟨@tElem_22, @tElem_74⟩⟩⟩, ⟨⟨@tFld_24_0, ⟨@tFld_24_1, @tKnown_24⟩⟩, ⟨@tKnown_3, ⟨@tKnown_5, @tOff_24_0⟩⟩⟩⟩⟩, ⟨⟨⟨⟨@tOff_24_1, @tPlain_24⟩, ⟨@tSize_22, ⟨@tSize_24, @tSize_3⟩⟩⟩, ⟨⟨@tSize_5, @tSize_9⟩, ⟨@tSlice_22, ⟨@tSlice_74, @tStruct_24_0⟩⟩⟩⟩, ⟨⟨⟨@tStruct_24_1, @tZ_24⟩, ⟨@tZ_3, ⟨@tZ_5, @tZok_24⟩⟩⟩, ⟨⟨@tZok_3, ⟨@tZok_5, @d_Spliced.eq_1⟩⟩, ⟨@t_splice_Text.eq_1, ⟨@c_splice_Text.eq_1, @e_splice_Text.eq_1⟩⟩⟩⟩⟩⟩
set_option maxRecDepth 100000 in
set_option maxHeartbeats 4000000 in
theorem splice_Text_ok : PureOk Try.prog 15 pf_splice_Text := by
  refine pure_of (t := t_splice_Text) (pure := fun n => [58].contains n) c_splice_Text_inj rfl t_splice_Text_ok mixed (fun n hn => tabOf_pure rfl n hn) Try.func15 rfl (by kernel_rfl) (fun a => by simp [c_splice_Text, Try.ntmps15]) ?_
  rintro a0 out H
  simp only [splice_Text] at H
  show aC _ _ (sig0 (List.map (fun d => AV.c (C.d d)) (c_splice_Text a0))) _ _
  refine w_seq ?_
  refine w_region rfl (fun K hK => ?_)
  simp -implicitDefEqProofs only [goR, ↓upd_at, if_true, if_false, reduceCtorEq, ↓reduceIte, Nat.reduceEqDiff, Nat.reduceAdd, Nat.reduceSub, Nat.reduceMul, Nat.reduceBEq, Nat.reduceLT, Nat.reduceLeDiff, Int.reduceToNat, Int.reduceLE, Int.reduceLT, Int.reduceEq, Int.reduceNeg, ← List.map_drop, ← List.map_take, UInt8.reduceToNat, true_implies, implies_true, List.append_eq, y_splice_Text]
  (repeat' (first | ((with_reducible refine hK _ _ ?_); clear hK K) | (with_reducible apply And.intro) | (exact trivial) | (clear hK K; assumption) | (clear hK K; omega)))
  refine then_normal ?_
  refine w_seq ?_
  refine w_region rfl (fun K hK => ?_)
  simp -implicitDefEqProofs only [goR, ↓upd_at, if_true, if_false, reduceCtorEq, ↓reduceIte, Nat.reduceEqDiff, Nat.reduceAdd, Nat.reduceSub, Nat.reduceMul, Nat.reduceBEq, Nat.reduceLT, Nat.reduceLeDiff, Int.reduceToNat, Int.reduceLE, Int.reduceLT, Int.reduceEq, Int.reduceNeg, ← List.map_drop, ← List.map_take, UInt8.reduceToNat, true_implies, implies_true, List.append_eq, y_splice_Text]
  (repeat' (first | ((with_reducible refine hK _ _ ?_); clear hK K) | (with_reducible apply And.intro) | (exact trivial) | (clear hK K; assumption) | (clear hK K; omega)))
  refine then_normal ?_
  refine w_seq ?_
  refine w_region rfl (fun K hK => ?_)
  simp -implicitDefEqProofs only [goR, ↓upd_at, if_true, if_false, reduceCtorEq, ↓reduceIte, Nat.reduceEqDiff, Nat.reduceAdd, Nat.reduceSub, Nat.reduceMul, Nat.reduceBEq, Nat.reduceLT, Nat.reduceLeDiff, Int.reduceToNat, Int.reduceLE, Int.reduceLT, Int.reduceEq, Int.reduceNeg, ← List.map_drop, ← List.map_take, UInt8.reduceToNat, true_implies, implies_true, List.append_eq, y_splice_Text]
  (repeat' (first | ((with_reducible refine hK _ _ ?_); clear hK K) | (with_reducible apply And.intro) | (exact trivial) | (clear hK K; assumption) | (clear hK K; omega)))
  refine then_normal ?_
  refine w_seq ?_
  refine w_seq ?_
  refine w_region rfl (fun K hK => ?_)
  simp -implicitDefEqProofs only [goR, ↓upd_at, if_true, if_false, reduceCtorEq, ↓reduceIte, Nat.reduceEqDiff, Nat.reduceAdd, Nat.reduceSub, Nat.reduceMul, Nat.reduceBEq, Nat.reduceLT, Nat.reduceLeDiff, Int.reduceToNat, Int.reduceLE, Int.reduceLT, Int.reduceEq, Int.reduceNeg, ← List.map_drop, ← List.map_take, UInt8.reduceToNat, true_implies, implies_true, List.append_eq, y_splice_Text]
  (repeat' (first | ((with_reducible refine hK _ _ ?_); clear hK K) | (with_reducible apply And.intro) | (exact trivial) | (clear hK K; assumption) | (clear hK K; omega)))
  refine then_normal ?_
  refine w_block ?_
  refine w_loop (splice_Text_b1 a0) (fun s => [(0, .c (.d (.v (str a0)))), (2, .c (.pt 1 0)), (3, .c (.sl 1 (List.map dU s.1) 2)), (4, .c (.sl 1 (List.map dI s.2.1) 3)), (5, .c (.d (.v (.int .i64 s.2.2.1))))]) (fun s => [[.d (.v (str s.2.2.2)), .sl 1 [] 0]]) [5, 3] H ?_ ?_
  · exact wk_ren ⟨[1], [0, 0]⟩ rfl rfl rfl rfl rfl (by simp -implicitDefEqProofs only [goW, goR, ↓upd_at, if_true, if_false, reduceCtorEq, ↓reduceIte, Nat.reduceEqDiff, Nat.reduceAdd, Nat.reduceSub, Nat.reduceMul, Nat.reduceBEq, Nat.reduceLT, Nat.reduceLeDiff, Int.reduceToNat, Int.reduceLE, Int.reduceLT, Int.reduceEq, Int.reduceNeg, ← List.map_drop, ← List.map_take, UInt8.reduceToNat, true_implies, implies_true, List.append_eq, y_splice_Text]) (by simp -implicitDefEqProofs only [goW, goR, ↓upd_at, if_true, if_false, reduceCtorEq, ↓reduceIte, Nat.reduceEqDiff, Nat.reduceAdd, Nat.reduceSub, Nat.reduceMul, Nat.reduceBEq, Nat.reduceLT, Nat.reduceLeDiff, Int.reduceToNat, Int.reduceLE, Int.reduceLT, Int.reduceEq, Int.reduceNeg, ← List.map_drop, ← List.map_take, UInt8.reduceToNat, true_implies, implies_true, List.append_eq, y_splice_Text]) (by simp -implicitDefEqProofs only [goW, goR, ↓upd_at, if_true, if_false, reduceCtorEq, ↓reduceIte, Nat.reduceEqDiff, Nat.reduceAdd, Nat.reduceSub, Nat.reduceMul, Nat.reduceBEq, Nat.reduceLT, Nat.reduceLeDiff, Int.reduceToNat, Int.reduceLE, Int.reduceLT, Int.reduceEq, Int.reduceNeg, ← List.map_drop, ← List.map_take, UInt8.reduceToNat, true_implies, implies_true, List.append_eq, y_splice_Text]) rfl
  · rintro n1 ⟨x1, x2, x3, x4⟩ o1 H hF1
    rw [splice_Text_b1] at H
    refine w_seq ?_
    refine w_seq ?_
    refine w_region rfl (fun K hK => ?_)
    simp -implicitDefEqProofs only [goR, ↓upd_at, if_true, if_false, reduceCtorEq, ↓reduceIte, Nat.reduceEqDiff, Nat.reduceAdd, Nat.reduceSub, Nat.reduceMul, Nat.reduceBEq, Nat.reduceLT, Nat.reduceLeDiff, Int.reduceToNat, Int.reduceLE, Int.reduceLT, Int.reduceEq, Int.reduceNeg, ← List.map_drop, ← List.map_take, UInt8.reduceToNat, true_implies, implies_true, List.append_eq, y_splice_Text]
    (repeat' (first | ((with_reducible refine hK _ _ ?_); clear hK K) | (with_reducible apply And.intro) | (exact trivial) | (clear hK K; assumption) | (clear hK K; omega)))
    refine then_normal ?_
    rcases bsplit H with ⟨hp1, H⟩ | ⟨hp1, H⟩
    · try simp -implicitDefEqProofs only [goR, ↓upd_at, if_true, if_false, reduceCtorEq, ↓reduceIte, Nat.reduceEqDiff, Nat.reduceAdd, Nat.reduceSub, Nat.reduceMul, Nat.reduceBEq, Nat.reduceLT, Nat.reduceLeDiff, Int.reduceToNat, Int.reduceLE, Int.reduceLT, Int.reduceEq, Int.reduceNeg, ← List.map_drop, ← List.map_take, UInt8.reduceToNat, true_implies, implies_true, List.append_eq, y_splice_Text] at hp1
      have hq1 := hp1
      try simp only [goT] at hq1
      refine w_condT (by simp -implicitDefEqProofs only [goR, ↓upd_at, if_true, if_false, reduceCtorEq, ↓reduceIte, Nat.reduceEqDiff, Nat.reduceAdd, Nat.reduceSub, Nat.reduceMul, Nat.reduceBEq, Nat.reduceLT, Nat.reduceLeDiff, Int.reduceToNat, Int.reduceLE, Int.reduceLT, Int.reduceEq, Int.reduceNeg, ← List.map_drop, ← List.map_take, UInt8.reduceToNat, true_implies, implies_true, List.append_eq, y_splice_Text, hp1]) ?_
      refine w_skip ?_
      refine then_normal ?_
      refine w_block ?_
      refine w_seq ?_
      refine w_block ?_
      refine w_seq ?_
      obtain ⟨hg1, H⟩ := gsplit H
      obtain ⟨r1, hr1, H⟩ := osplit H
      have hc1 := splice_joins_c (List.drop x3.toNat a0) r1 hr1
      simp -implicitDefEqProofs only [goR, ↓upd_at, if_true, if_false, reduceCtorEq, ↓reduceIte, Nat.reduceEqDiff, Nat.reduceAdd, Nat.reduceSub, Nat.reduceMul, Nat.reduceBEq, Nat.reduceLT, Nat.reduceLeDiff, Int.reduceToNat, Int.reduceLE, Int.reduceLT, Int.reduceEq, Int.reduceNeg, ← List.map_drop, ← List.map_take, UInt8.reduceToNat, true_implies, implies_true, List.append_eq, y_splice_Text] at hc1
      refine w_region rfl (fun K hK => ?_)
      simp -implicitDefEqProofs only [goR, ↓upd_at, if_true, if_false, reduceCtorEq, ↓reduceIte, Nat.reduceEqDiff, Nat.reduceAdd, Nat.reduceSub, Nat.reduceMul, Nat.reduceBEq, Nat.reduceLT, Nat.reduceLeDiff, Int.reduceToNat, Int.reduceLE, Int.reduceLT, Int.reduceEq, Int.reduceNeg, ← List.map_drop, ← List.map_take, UInt8.reduceToNat, true_implies, implies_true, List.append_eq, y_splice_Text, hc1.1, hc1.2]
      (repeat' (first | ((with_reducible refine hK _ _ ?_); clear hK K) | (with_reducible apply And.intro) | (exact trivial) | (clear hK K; assumption) | (clear hK K; omega)))
      refine then_normal ?_
      rcases bsplit H with ⟨hp2, H⟩ | ⟨hp2, H⟩
      · try simp -implicitDefEqProofs only [goR, ↓upd_at, if_true, if_false, reduceCtorEq, ↓reduceIte, Nat.reduceEqDiff, Nat.reduceAdd, Nat.reduceSub, Nat.reduceMul, Nat.reduceBEq, Nat.reduceLT, Nat.reduceLeDiff, Int.reduceToNat, Int.reduceLE, Int.reduceLT, Int.reduceEq, Int.reduceNeg, ← List.map_drop, ← List.map_take, UInt8.reduceToNat, true_implies, implies_true, List.append_eq, y_splice_Text] at hp2
        have hq2 := hp2
        try simp only [goT] at hq2
        refine w_condT (by simp -implicitDefEqProofs only [goR, ↓upd_at, if_true, if_false, reduceCtorEq, ↓reduceIte, Nat.reduceEqDiff, Nat.reduceAdd, Nat.reduceSub, Nat.reduceMul, Nat.reduceBEq, Nat.reduceLT, Nat.reduceLeDiff, Int.reduceToNat, Int.reduceLE, Int.reduceLT, Int.reduceEq, Int.reduceNeg, ← List.map_drop, ← List.map_take, UInt8.reduceToNat, true_implies, implies_true, List.append_eq, y_splice_Text, hp2]) ?_
        refine w_seq ?_
        obtain ⟨hg2, H⟩ := gsplit H
        obtain ⟨r2, hr2, H⟩ := osplit H
        have hc2 := splice_joins_c (List.drop x3.toNat a0) r2 hr2
        simp -implicitDefEqProofs only [goR, ↓upd_at, if_true, if_false, reduceCtorEq, ↓reduceIte, Nat.reduceEqDiff, Nat.reduceAdd, Nat.reduceSub, Nat.reduceMul, Nat.reduceBEq, Nat.reduceLT, Nat.reduceLeDiff, Int.reduceToNat, Int.reduceLE, Int.reduceLT, Int.reduceEq, Int.reduceNeg, ← List.map_drop, ← List.map_take, UInt8.reduceToNat, true_implies, implies_true, List.append_eq, y_splice_Text] at hc2
        refine w_region rfl (fun K hK => ?_)
        simp -implicitDefEqProofs only [goR, ↓upd_at, if_true, if_false, reduceCtorEq, ↓reduceIte, Nat.reduceEqDiff, Nat.reduceAdd, Nat.reduceSub, Nat.reduceMul, Nat.reduceBEq, Nat.reduceLT, Nat.reduceLeDiff, Int.reduceToNat, Int.reduceLE, Int.reduceLT, Int.reduceEq, Int.reduceNeg, ← List.map_drop, ← List.map_take, UInt8.reduceToNat, true_implies, implies_true, List.append_eq, y_splice_Text, hc2.1, hc2.2]
        (repeat' (first | ((with_reducible refine hK _ _ ?_); clear hK K) | (with_reducible apply And.intro) | (exact trivial) | (clear hK K; assumption) | (clear hK K; omega)))
        refine then_normal ?_
        refine w_exit ?_
        refine block_other rfl ?_
        refine then_exit ?_
        refine block_exit ?_
        refine round_at (inl_fin H hF1) ?_
        exact wk_ren ⟨[1], [2, 3]⟩ rfl rfl rfl rfl rfl (by simp -implicitDefEqProofs only [goW, goR, ↓upd_at, if_true, if_false, reduceCtorEq, ↓reduceIte, Nat.reduceEqDiff, Nat.reduceAdd, Nat.reduceSub, Nat.reduceMul, Nat.reduceBEq, Nat.reduceLT, Nat.reduceLeDiff, Int.reduceToNat, Int.reduceLE, Int.reduceLT, Int.reduceEq, Int.reduceNeg, ← List.map_drop, ← List.map_take, UInt8.reduceToNat, true_implies, implies_true, List.append_eq, y_splice_Text]) (by simp -implicitDefEqProofs only [goW, goR, ↓upd_at, if_true, if_false, reduceCtorEq, ↓reduceIte, Nat.reduceEqDiff, Nat.reduceAdd, Nat.reduceSub, Nat.reduceMul, Nat.reduceBEq, Nat.reduceLT, Nat.reduceLeDiff, Int.reduceToNat, Int.reduceLE, Int.reduceLT, Int.reduceEq, Int.reduceNeg, ← List.map_drop, ← List.map_take, UInt8.reduceToNat, true_implies, implies_true, List.append_eq, y_splice_Text]) (by simp -implicitDefEqProofs only [goW, goR, ↓upd_at, if_true, if_false, reduceCtorEq, ↓reduceIte, Nat.reduceEqDiff, Nat.reduceAdd, Nat.reduceSub, Nat.reduceMul, Nat.reduceBEq, Nat.reduceLT, Nat.reduceLeDiff, Int.reduceToNat, Int.reduceLE, Int.reduceLT, Int.reduceEq, Int.reduceNeg, ← List.map_drop, ← List.map_take, UInt8.reduceToNat, true_implies, implies_true, List.append_eq, y_splice_Text]) rfl
      · try simp -implicitDefEqProofs only [goR, ↓upd_at, if_true, if_false, reduceCtorEq, ↓reduceIte, Nat.reduceEqDiff, Nat.reduceAdd, Nat.reduceSub, Nat.reduceMul, Nat.reduceBEq, Nat.reduceLT, Nat.reduceLeDiff, Int.reduceToNat, Int.reduceLE, Int.reduceLT, Int.reduceEq, Int.reduceNeg, ← List.map_drop, ← List.map_take, UInt8.reduceToNat, true_implies, implies_true, List.append_eq, y_splice_Text] at hp2
        have hq2 := hp2
        try simp only [goT] at hq2
        refine w_condF (by simp -implicitDefEqProofs only [goR, ↓upd_at, if_true, if_false, reduceCtorEq, ↓reduceIte, Nat.reduceEqDiff, Nat.reduceAdd, Nat.reduceSub, Nat.reduceMul, Nat.reduceBEq, Nat.reduceLT, Nat.reduceLeDiff, Int.reduceToNat, Int.reduceLE, Int.reduceLT, Int.reduceEq, Int.reduceNeg, ← List.map_drop, ← List.map_take, UInt8.reduceToNat, true_implies, implies_true, List.append_eq, y_splice_Text, hp2]) ?_
        refine w_cut (splice_Text_j2 a0 x1 x2 x3 x4) (fun s => [(0, .c (.d (.v (str a0)))), (2, .c (.pt 1 0)), (3, .c (.sl 1 (List.map dU x1) 2)), (4, .c (.sl 1 (List.map dI x2) 3)), (5, .c (.d (.v (.int .i64 x3)))), (22, .c (.d (.v (.bool s))))]) (fun s => [[.d (.v (str x4)), .sl 1 [] 0]]) [5, 3] o1 ?_ ?_
        · obtain ⟨hg6, H⟩ := gsplit H
          rcases bsplit H with ⟨hp4, H⟩ | ⟨hp4, H⟩
          · try simp -implicitDefEqProofs only [goR, ↓upd_at, if_true, if_false, reduceCtorEq, ↓reduceIte, Nat.reduceEqDiff, Nat.reduceAdd, Nat.reduceSub, Nat.reduceMul, Nat.reduceBEq, Nat.reduceLT, Nat.reduceLeDiff, Int.reduceToNat, Int.reduceLE, Int.reduceLT, Int.reduceEq, Int.reduceNeg, ← List.map_drop, ← List.map_take, UInt8.reduceToNat, true_implies, implies_true, List.append_eq, y_splice_Text] at hp4
            have hq4 := hp4
            try simp only [goT] at hq4
            rcases bsplit H with ⟨hp5, H⟩ | ⟨hp5, H⟩
            · try simp -implicitDefEqProofs only [goR, ↓upd_at, if_true, if_false, reduceCtorEq, ↓reduceIte, Nat.reduceEqDiff, Nat.reduceAdd, Nat.reduceSub, Nat.reduceMul, Nat.reduceBEq, Nat.reduceLT, Nat.reduceLeDiff, Int.reduceToNat, Int.reduceLE, Int.reduceLT, Int.reduceEq, Int.reduceNeg, ← List.map_drop, ← List.map_take, UInt8.reduceToNat, true_implies, implies_true, List.append_eq, y_splice_Text] at hp5
              have hq5 := hp5
              try simp only [goT] at hq5
              obtain ⟨hg7, H⟩ := gsplit H
              refine w_region rfl (fun K hK => ?_)
              simp -implicitDefEqProofs only [goR, ↓upd_at, if_true, if_false, reduceCtorEq, ↓reduceIte, Nat.reduceEqDiff, Nat.reduceAdd, Nat.reduceSub, Nat.reduceMul, Nat.reduceBEq, Nat.reduceLT, Nat.reduceLeDiff, Int.reduceToNat, Int.reduceLE, Int.reduceLT, Int.reduceEq, Int.reduceNeg, ← List.map_drop, ← List.map_take, UInt8.reduceToNat, true_implies, implies_true, List.append_eq, y_splice_Text, hp4, hp5]
              (repeat' (first | ((with_reducible refine hK _ _ ?_); clear hK K) | (with_reducible apply And.intro) | (exact trivial) | (clear hK K; assumption) | (clear hK K; omega)))
              refine cut_at H ?_
              exact wk_ren ⟨[1], [2, 3]⟩ rfl rfl rfl rfl rfl (by simp -implicitDefEqProofs only [goW, goR, ↓upd_at, if_true, if_false, reduceCtorEq, ↓reduceIte, Nat.reduceEqDiff, Nat.reduceAdd, Nat.reduceSub, Nat.reduceMul, Nat.reduceBEq, Nat.reduceLT, Nat.reduceLeDiff, Int.reduceToNat, Int.reduceLE, Int.reduceLT, Int.reduceEq, Int.reduceNeg, ← List.map_drop, ← List.map_take, UInt8.reduceToNat, true_implies, implies_true, List.append_eq, y_splice_Text]) (by simp -implicitDefEqProofs only [goW, goR, ↓upd_at, if_true, if_false, reduceCtorEq, ↓reduceIte, Nat.reduceEqDiff, Nat.reduceAdd, Nat.reduceSub, Nat.reduceMul, Nat.reduceBEq, Nat.reduceLT, Nat.reduceLeDiff, Int.reduceToNat, Int.reduceLE, Int.reduceLT, Int.reduceEq, Int.reduceNeg, ← List.map_drop, ← List.map_take, UInt8.reduceToNat, true_implies, implies_true, List.append_eq, y_splice_Text]) (by simp -implicitDefEqProofs only [goW, goR, ↓upd_at, if_true, if_false, reduceCtorEq, ↓reduceIte, Nat.reduceEqDiff, Nat.reduceAdd, Nat.reduceSub, Nat.reduceMul, Nat.reduceBEq, Nat.reduceLT, Nat.reduceLeDiff, Int.reduceToNat, Int.reduceLE, Int.reduceLT, Int.reduceEq, Int.reduceNeg, ← List.map_drop, ← List.map_take, UInt8.reduceToNat, true_implies, implies_true, List.append_eq, y_splice_Text]) rfl
            · try simp -implicitDefEqProofs only [goR, ↓upd_at, if_true, if_false, reduceCtorEq, ↓reduceIte, Nat.reduceEqDiff, Nat.reduceAdd, Nat.reduceSub, Nat.reduceMul, Nat.reduceBEq, Nat.reduceLT, Nat.reduceLeDiff, Int.reduceToNat, Int.reduceLE, Int.reduceLT, Int.reduceEq, Int.reduceNeg, ← List.map_drop, ← List.map_take, UInt8.reduceToNat, true_implies, implies_true, List.append_eq, y_splice_Text] at hp5
              have hq5 := hp5
              try simp only [goT] at hq5
              refine w_region rfl (fun K hK => ?_)
              simp -implicitDefEqProofs only [goR, ↓upd_at, if_true, if_false, reduceCtorEq, ↓reduceIte, Nat.reduceEqDiff, Nat.reduceAdd, Nat.reduceSub, Nat.reduceMul, Nat.reduceBEq, Nat.reduceLT, Nat.reduceLeDiff, Int.reduceToNat, Int.reduceLE, Int.reduceLT, Int.reduceEq, Int.reduceNeg, ← List.map_drop, ← List.map_take, UInt8.reduceToNat, true_implies, implies_true, List.append_eq, y_splice_Text, hp4, hp5]
              (repeat' (first | ((with_reducible refine hK _ _ ?_); clear hK K) | (with_reducible apply And.intro) | (exact trivial) | (clear hK K; assumption) | (clear hK K; omega)))
              refine cut_at H ?_
              exact wk_ren ⟨[1], [2, 3]⟩ rfl rfl rfl rfl rfl (by simp -implicitDefEqProofs only [goW, goR, ↓upd_at, if_true, if_false, reduceCtorEq, ↓reduceIte, Nat.reduceEqDiff, Nat.reduceAdd, Nat.reduceSub, Nat.reduceMul, Nat.reduceBEq, Nat.reduceLT, Nat.reduceLeDiff, Int.reduceToNat, Int.reduceLE, Int.reduceLT, Int.reduceEq, Int.reduceNeg, ← List.map_drop, ← List.map_take, UInt8.reduceToNat, true_implies, implies_true, List.append_eq, y_splice_Text]) (by simp -implicitDefEqProofs only [goW, goR, ↓upd_at, if_true, if_false, reduceCtorEq, ↓reduceIte, Nat.reduceEqDiff, Nat.reduceAdd, Nat.reduceSub, Nat.reduceMul, Nat.reduceBEq, Nat.reduceLT, Nat.reduceLeDiff, Int.reduceToNat, Int.reduceLE, Int.reduceLT, Int.reduceEq, Int.reduceNeg, ← List.map_drop, ← List.map_take, UInt8.reduceToNat, true_implies, implies_true, List.append_eq, y_splice_Text]) (by simp -implicitDefEqProofs only [goW, goR, ↓upd_at, if_true, if_false, reduceCtorEq, ↓reduceIte, Nat.reduceEqDiff, Nat.reduceAdd, Nat.reduceSub, Nat.reduceMul, Nat.reduceBEq, Nat.reduceLT, Nat.reduceLeDiff, Int.reduceToNat, Int.reduceLE, Int.reduceLT, Int.reduceEq, Int.reduceNeg, ← List.map_drop, ← List.map_take, UInt8.reduceToNat, true_implies, implies_true, List.append_eq, y_splice_Text]) rfl
          · try simp -implicitDefEqProofs only [goR, ↓upd_at, if_true, if_false, reduceCtorEq, ↓reduceIte, Nat.reduceEqDiff, Nat.reduceAdd, Nat.reduceSub, Nat.reduceMul, Nat.reduceBEq, Nat.reduceLT, Nat.reduceLeDiff, Int.reduceToNat, Int.reduceLE, Int.reduceLT, Int.reduceEq, Int.reduceNeg, ← List.map_drop, ← List.map_take, UInt8.reduceToNat, true_implies, implies_true, List.append_eq, y_splice_Text] at hp4
            have hq4 := hp4
            try simp only [goT] at hq4
            refine w_region rfl (fun K hK => ?_)
            simp -implicitDefEqProofs only [goR, ↓upd_at, if_true, if_false, reduceCtorEq, ↓reduceIte, Nat.reduceEqDiff, Nat.reduceAdd, Nat.reduceSub, Nat.reduceMul, Nat.reduceBEq, Nat.reduceLT, Nat.reduceLeDiff, Int.reduceToNat, Int.reduceLE, Int.reduceLT, Int.reduceEq, Int.reduceNeg, ← List.map_drop, ← List.map_take, UInt8.reduceToNat, true_implies, implies_true, List.append_eq, y_splice_Text, hp4]
            (repeat' (first | ((with_reducible refine hK _ _ ?_); clear hK K) | (with_reducible apply And.intro) | (exact trivial) | (clear hK K; assumption) | (clear hK K; omega)))
            refine cut_at H ?_
            exact wk_ren ⟨[1], [2, 3]⟩ rfl rfl rfl rfl rfl (by simp -implicitDefEqProofs only [goW, goR, ↓upd_at, if_true, if_false, reduceCtorEq, ↓reduceIte, Nat.reduceEqDiff, Nat.reduceAdd, Nat.reduceSub, Nat.reduceMul, Nat.reduceBEq, Nat.reduceLT, Nat.reduceLeDiff, Int.reduceToNat, Int.reduceLE, Int.reduceLT, Int.reduceEq, Int.reduceNeg, ← List.map_drop, ← List.map_take, UInt8.reduceToNat, true_implies, implies_true, List.append_eq, y_splice_Text]) (by simp -implicitDefEqProofs only [goW, goR, ↓upd_at, if_true, if_false, reduceCtorEq, ↓reduceIte, Nat.reduceEqDiff, Nat.reduceAdd, Nat.reduceSub, Nat.reduceMul, Nat.reduceBEq, Nat.reduceLT, Nat.reduceLeDiff, Int.reduceToNat, Int.reduceLE, Int.reduceLT, Int.reduceEq, Int.reduceNeg, ← List.map_drop, ← List.map_take, UInt8.reduceToNat, true_implies, implies_true, List.append_eq, y_splice_Text]) (by simp -implicitDefEqProofs only [goW, goR, ↓upd_at, if_true, if_false, reduceCtorEq, ↓reduceIte, Nat.reduceEqDiff, Nat.reduceAdd, Nat.reduceSub, Nat.reduceMul, Nat.reduceBEq, Nat.reduceLT, Nat.reduceLeDiff, Int.reduceToNat, Int.reduceLE, Int.reduceLT, Int.reduceEq, Int.reduceNeg, ← List.map_drop, ← List.map_take, UInt8.reduceToNat, true_implies, implies_true, List.append_eq, y_splice_Text]) rfl
        · rintro x5 H
          rw [splice_Text_j2] at H
          rcases bsplit H with ⟨hp3, H⟩ | ⟨hp3, H⟩
          · try simp -implicitDefEqProofs only [goR, ↓upd_at, if_true, if_false, reduceCtorEq, ↓reduceIte, Nat.reduceEqDiff, Nat.reduceAdd, Nat.reduceSub, Nat.reduceMul, Nat.reduceBEq, Nat.reduceLT, Nat.reduceLeDiff, Int.reduceToNat, Int.reduceLE, Int.reduceLT, Int.reduceEq, Int.reduceNeg, ← List.map_drop, ← List.map_take, UInt8.reduceToNat, true_implies, implies_true, List.append_eq, y_splice_Text] at hp3
            have hq3 := hp3
            try simp only [goT] at hq3
            refine w_condT (by simp -implicitDefEqProofs only [goR, ↓upd_at, if_true, if_false, reduceCtorEq, ↓reduceIte, Nat.reduceEqDiff, Nat.reduceAdd, Nat.reduceSub, Nat.reduceMul, Nat.reduceBEq, Nat.reduceLT, Nat.reduceLeDiff, Int.reduceToNat, Int.reduceLE, Int.reduceLT, Int.reduceEq, Int.reduceNeg, ← List.map_drop, ← List.map_take, UInt8.reduceToNat, true_implies, implies_true, List.append_eq, y_splice_Text, hp3]) ?_
            refine w_seq ?_
            refine w_region rfl (fun K hK => ?_)
            simp -implicitDefEqProofs only [goR, ↓upd_at, if_true, if_false, reduceCtorEq, ↓reduceIte, Nat.reduceEqDiff, Nat.reduceAdd, Nat.reduceSub, Nat.reduceMul, Nat.reduceBEq, Nat.reduceLT, Nat.reduceLeDiff, Int.reduceToNat, Int.reduceLE, Int.reduceLT, Int.reduceEq, Int.reduceNeg, ← List.map_drop, ← List.map_take, UInt8.reduceToNat, true_implies, implies_true, List.append_eq, y_splice_Text]
            (repeat' (first | ((with_reducible refine hK _ _ ?_); clear hK K) | (with_reducible apply And.intro) | (exact trivial) | (clear hK K; assumption) | (clear hK K; omega)))
            refine then_normal ?_
            refine w_exit ?_
            refine block_other rfl ?_
            refine then_exit ?_
            refine block_exit ?_
            refine round_at (inl_fin H hF1) ?_
            exact wk_ren ⟨[1], [2, 3]⟩ rfl rfl rfl rfl rfl (by simp -implicitDefEqProofs only [goW, goR, ↓upd_at, if_true, if_false, reduceCtorEq, ↓reduceIte, Nat.reduceEqDiff, Nat.reduceAdd, Nat.reduceSub, Nat.reduceMul, Nat.reduceBEq, Nat.reduceLT, Nat.reduceLeDiff, Int.reduceToNat, Int.reduceLE, Int.reduceLT, Int.reduceEq, Int.reduceNeg, ← List.map_drop, ← List.map_take, UInt8.reduceToNat, true_implies, implies_true, List.append_eq, y_splice_Text]) (by simp -implicitDefEqProofs only [goW, goR, ↓upd_at, if_true, if_false, reduceCtorEq, ↓reduceIte, Nat.reduceEqDiff, Nat.reduceAdd, Nat.reduceSub, Nat.reduceMul, Nat.reduceBEq, Nat.reduceLT, Nat.reduceLeDiff, Int.reduceToNat, Int.reduceLE, Int.reduceLT, Int.reduceEq, Int.reduceNeg, ← List.map_drop, ← List.map_take, UInt8.reduceToNat, true_implies, implies_true, List.append_eq, y_splice_Text]) (by simp -implicitDefEqProofs only [goW, goR, ↓upd_at, if_true, if_false, reduceCtorEq, ↓reduceIte, Nat.reduceEqDiff, Nat.reduceAdd, Nat.reduceSub, Nat.reduceMul, Nat.reduceBEq, Nat.reduceLT, Nat.reduceLeDiff, Int.reduceToNat, Int.reduceLE, Int.reduceLT, Int.reduceEq, Int.reduceNeg, ← List.map_drop, ← List.map_take, UInt8.reduceToNat, true_implies, implies_true, List.append_eq, y_splice_Text]) rfl
          · try simp -implicitDefEqProofs only [goR, ↓upd_at, if_true, if_false, reduceCtorEq, ↓reduceIte, Nat.reduceEqDiff, Nat.reduceAdd, Nat.reduceSub, Nat.reduceMul, Nat.reduceBEq, Nat.reduceLT, Nat.reduceLeDiff, Int.reduceToNat, Int.reduceLE, Int.reduceLT, Int.reduceEq, Int.reduceNeg, ← List.map_drop, ← List.map_take, UInt8.reduceToNat, true_implies, implies_true, List.append_eq, y_splice_Text] at hp3
            have hq3 := hp3
            try simp only [goT] at hq3
            refine w_condF (by simp -implicitDefEqProofs only [goR, ↓upd_at, if_true, if_false, reduceCtorEq, ↓reduceIte, Nat.reduceEqDiff, Nat.reduceAdd, Nat.reduceSub, Nat.reduceMul, Nat.reduceBEq, Nat.reduceLT, Nat.reduceLeDiff, Int.reduceToNat, Int.reduceLE, Int.reduceLT, Int.reduceEq, Int.reduceNeg, ← List.map_drop, ← List.map_take, UInt8.reduceToNat, true_implies, implies_true, List.append_eq, y_splice_Text, hp3]) ?_
            refine w_skip ?_
            refine block_normal ?_
            refine then_normal ?_
            refine w_seq ?_
            obtain ⟨hg3, H⟩ := gsplit H
            obtain ⟨hg4, H⟩ := gsplit H
            have g1 := all_map one_dU [(a0.getD x3.toNat 0)]
            obtain ⟨hg5, H⟩ := gsplit H
            have g2 := all_map one_dI [x3]
            refine w_region rfl (fun K hK => ?_)
            simp -implicitDefEqProofs only [goR, ↓upd_at, if_true, if_false, reduceCtorEq, ↓reduceIte, Nat.reduceEqDiff, Nat.reduceAdd, Nat.reduceSub, Nat.reduceMul, Nat.reduceBEq, Nat.reduceLT, Nat.reduceLeDiff, Int.reduceToNat, Int.reduceLE, Int.reduceLT, Int.reduceEq, Int.reduceNeg, ← List.map_drop, ← List.map_take, UInt8.reduceToNat, true_implies, implies_true, List.append_eq, y_splice_Text, g1, g2]
            (repeat' (first | ((with_reducible refine hK _ _ ?_); clear hK K) | (with_reducible apply And.intro) | (exact trivial) | (clear hK K; assumption) | (clear hK K; omega)))
            refine then_normal ?_
            refine w_region rfl (fun K hK => ?_)
            simp -implicitDefEqProofs only [goR, ↓upd_at, if_true, if_false, reduceCtorEq, ↓reduceIte, Nat.reduceEqDiff, Nat.reduceAdd, Nat.reduceSub, Nat.reduceMul, Nat.reduceBEq, Nat.reduceLT, Nat.reduceLeDiff, Int.reduceToNat, Int.reduceLE, Int.reduceLT, Int.reduceEq, Int.reduceNeg, ← List.map_drop, ← List.map_take, UInt8.reduceToNat, true_implies, implies_true, List.append_eq, y_splice_Text]
            (repeat' (first | ((with_reducible refine hK _ _ ?_); clear hK K) | (with_reducible apply And.intro) | (exact trivial) | (clear hK K; assumption) | (clear hK K; omega)))
            refine block_normal ?_
            refine round_at (inl_fin H hF1) ?_
            exact wk_ren ⟨[1], [4, 5]⟩ rfl rfl rfl rfl rfl (by simp -implicitDefEqProofs only [goW, goR, ↓upd_at, if_true, if_false, reduceCtorEq, ↓reduceIte, Nat.reduceEqDiff, Nat.reduceAdd, Nat.reduceSub, Nat.reduceMul, Nat.reduceBEq, Nat.reduceLT, Nat.reduceLeDiff, Int.reduceToNat, Int.reduceLE, Int.reduceLT, Int.reduceEq, Int.reduceNeg, ← List.map_drop, ← List.map_take, UInt8.reduceToNat, true_implies, implies_true, List.append_eq, y_splice_Text]) (by simp -implicitDefEqProofs only [goW, goR, ↓upd_at, if_true, if_false, reduceCtorEq, ↓reduceIte, Nat.reduceEqDiff, Nat.reduceAdd, Nat.reduceSub, Nat.reduceMul, Nat.reduceBEq, Nat.reduceLT, Nat.reduceLeDiff, Int.reduceToNat, Int.reduceLE, Int.reduceLT, Int.reduceEq, Int.reduceNeg, ← List.map_drop, ← List.map_take, UInt8.reduceToNat, true_implies, implies_true, List.append_eq, y_splice_Text]) (by simp -implicitDefEqProofs only [goW, goR, ↓upd_at, if_true, if_false, reduceCtorEq, ↓reduceIte, Nat.reduceEqDiff, Nat.reduceAdd, Nat.reduceSub, Nat.reduceMul, Nat.reduceBEq, Nat.reduceLT, Nat.reduceLeDiff, Int.reduceToNat, Int.reduceLE, Int.reduceLT, Int.reduceEq, Int.reduceNeg, ← List.map_drop, ← List.map_take, UInt8.reduceToNat, true_implies, implies_true, List.append_eq, y_splice_Text]) rfl
    · try simp -implicitDefEqProofs only [goR, ↓upd_at, if_true, if_false, reduceCtorEq, ↓reduceIte, Nat.reduceEqDiff, Nat.reduceAdd, Nat.reduceSub, Nat.reduceMul, Nat.reduceBEq, Nat.reduceLT, Nat.reduceLeDiff, Int.reduceToNat, Int.reduceLE, Int.reduceLT, Int.reduceEq, Int.reduceNeg, ← List.map_drop, ← List.map_take, UInt8.reduceToNat, true_implies, implies_true, List.append_eq, y_splice_Text] at hp1
      have hq1 := hp1
      try simp only [goT] at hq1
      refine w_condF (by simp -implicitDefEqProofs only [goR, ↓upd_at, if_true, if_false, reduceCtorEq, ↓reduceIte, Nat.reduceEqDiff, Nat.reduceAdd, Nat.reduceSub, Nat.reduceMul, Nat.reduceBEq, Nat.reduceLT, Nat.reduceLeDiff, Int.reduceToNat, Int.reduceLE, Int.reduceLT, Int.reduceEq, Int.reduceNeg, ← List.map_drop, ← List.map_take, UInt8.reduceToNat, true_implies, implies_true, List.append_eq, y_splice_Text, hp1]) ?_
      refine w_exit ?_
      refine then_exit ?_
      replace H := inrO_fin H hF1
      refine round_exit ?_
      refine block_exit ?_
      refine then_normal ?_
      refine w_seq ?_
      obtain ⟨hg8, H⟩ := gsplit H
      have g3 := all_map one_dI [(a0.length : Int)]
      refine w_region rfl (fun K hK => ?_)
      simp -implicitDefEqProofs only [goR, ↓upd_at, if_true, if_false, reduceCtorEq, ↓reduceIte, Nat.reduceEqDiff, Nat.reduceAdd, Nat.reduceSub, Nat.reduceMul, Nat.reduceBEq, Nat.reduceLT, Nat.reduceLeDiff, Int.reduceToNat, Int.reduceLE, Int.reduceLT, Int.reduceEq, Int.reduceNeg, ← List.map_drop, ← List.map_take, UInt8.reduceToNat, true_implies, implies_true, List.append_eq, y_splice_Text, g3]
      (repeat' (first | ((with_reducible refine hK _ _ ?_); clear hK K) | (with_reducible apply And.intro) | (exact trivial) | (clear hK K; assumption) | (clear hK K; omega)))
      refine then_normal ?_
      refine w_ret ?_
      obtain rfl := Option.some.inj H
      simp -implicitDefEqProofs only [goQ, Try.results15, goR, ↓upd_at, if_true, if_false, reduceCtorEq, ↓reduceIte, Nat.reduceEqDiff, Nat.reduceAdd, Nat.reduceSub, Nat.reduceMul, Nat.reduceBEq, Nat.reduceLT, Nat.reduceLeDiff, Int.reduceToNat, Int.reduceLE, Int.reduceLT, Int.reduceEq, Int.reduceNeg, ← List.map_drop, ← List.map_take, UInt8.reduceToNat, true_implies, implies_true, List.append_eq, y_splice_Text]
theorem splice_Text_c (a0 : List UInt8) (r : Spliced) (H : splice_Text a0 = some r) : pf_splice_Text.pre [dS a0] = True ∧ pf_splice_Text.val [dS a0] = d_Spliced r :=
  ⟨PF.of_pre (enc := c_splice_Text) (f := fun a => splice_Text a) (e := e_splice_Text) (a := a0) H, PF.of_val (enc := c_splice_Text) (f := fun a => splice_Text a) (e := e_splice_Text) (a := a0) c_splice_Text_inj H⟩
end Go.Proofs.Ytgkacglpjmndbaa
