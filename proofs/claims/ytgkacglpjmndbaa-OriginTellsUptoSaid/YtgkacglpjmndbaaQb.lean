/- Functions of data for functions of the program: splice_Lines, preref1_Line, splice_Where, preref1_Splice. Written by dec.py. -/
import Derived.Test.YtgkacglpjmndbaaQa
namespace Go.Proofs.Ytgkacglpjmndbaa
open Go.RowKit
set_option linter.unusedVariables false
set_option linter.unusedSimpArgs false

noncomputable def splice_Lines_j2 (x2 : Int) (x3 : Int) : Int → Option ((Int × Int × Int) ⊕ Int)
  | x4 => some (.inl (x4, x2, IntKind.i64.wrap (x3 + 1)))
noncomputable def splice_Lines_b1 (a0 : List UInt8) : (Int × Int × Int) → Option ((Int × Int × Int) ⊕ Int)
  | (x1, x2, x3) => if (ltI x3 x2) = true then if (0 : Int) ≤ x3 ∧ x3.toNat < a0.length then if (eqI ((a0.getD x3.toNat 0).toNat : Int) 10) = true then splice_Lines_j2 x2 x3 (IntKind.i64.wrap (x1 + 1)) else splice_Lines_j2 x2 x3 x1 else none else inrO (some x1)
noncomputable def splice_Lines (a0 : List UInt8) (a1 : Int) : Option Int :=
  loopO (splice_Lines_b1 a0) (1, (if (a0.length : Int) < (if 0 > a1 then 0 else a1) then (a0.length : Int) else (if 0 > a1 then 0 else a1)), 0)
def e_splice_Lines : Int → D := fun r => dI r
def c_splice_Lines : (List UInt8) × Int → List D := fun a => [dS a.1, dI a.2]
theorem c_splice_Lines_inj : Inj c_splice_Lines := by rintro ⟨a0, a1⟩ ⟨b0, b1⟩ h; simp only [c_splice_Lines, List.map_cons, List.map_nil, List.cons.injEq, and_true] at h; obtain ⟨h0, h1⟩ := h; obtain rfl := (dS_inj _ _) h0; obtain rfl := (dI_inj _ _) h1; rfl
noncomputable def pf_splice_Lines : PF := PF.of c_splice_Lines (fun a => splice_Lines a.1 a.2) e_splice_Lines
noncomputable def t_splice_Lines : Tab := tabOf Try.prog [] []
theorem t_splice_Lines_ok : TabOk t_splice_Lines := tabOf_ok (by exact trivial) (by exact trivial)
theorem y_splice_Lines : (((type_of% @Try.underlying3) ∧ ((type_of% @Try.underlying9) ∧ (type_of% @d_Spliced.eq_1))) ∧ ((type_of% @t_splice_Lines.eq_1) ∧ ((type_of% @c_splice_Lines.eq_1) ∧ (type_of% @e_splice_Lines.eq_1)))) := ⟨⟨@Try.underlying3, ⟨@Try.underlying9, @d_Spliced.eq_1⟩⟩, ⟨@t_splice_Lines.eq_1, ⟨@c_splice_Lines.eq_1, @e_splice_Lines.eq_1⟩⟩⟩
set_option maxRecDepth 100000 in
set_option maxHeartbeats 4000000 in
theorem splice_Lines_ok : PureOk Try.prog 17 pf_splice_Lines := by
  refine pure_of (t := t_splice_Lines) (pure := fun n => [].contains n) c_splice_Lines_inj rfl t_splice_Lines_ok mixed (fun n hn => tabOf_pure rfl n hn) Try.func17 rfl (by kernel_rfl) (fun a => by simp [c_splice_Lines, Try.ntmps17]) ?_
  rintro ⟨a0, a1⟩ out H
  simp only [splice_Lines] at H
  show aC _ _ (sig0 (List.map (fun d => AV.c (C.d d)) (c_splice_Lines (a0, a1)))) _ _
  refine w_seq ?_
  refine w_region rfl (fun K hK => ?_)
  simp -implicitDefEqProofs only [goR, ↓upd_at, if_true, if_false, reduceCtorEq, ↓reduceIte, Nat.reduceEqDiff, Nat.reduceAdd, Nat.reduceSub, Nat.reduceMul, Nat.reduceBEq, Nat.reduceLT, Nat.reduceLeDiff, Int.reduceToNat, Int.reduceLE, Int.reduceLT, Int.reduceEq, Int.reduceNeg, ← List.map_drop, ← List.map_take, UInt8.reduceToNat, true_implies, implies_true, List.append_eq, y_splice_Lines]
  (repeat' (first | ((with_reducible refine hK _ _ ?_); clear hK K) | (with_reducible apply And.intro) | (exact trivial) | (clear hK K; assumption) | (clear hK K; omega)))
  refine then_normal ?_
  refine w_seq ?_
  refine w_region rfl (fun K hK => ?_)
  simp -implicitDefEqProofs only [goR, ↓upd_at, if_true, if_false, reduceCtorEq, ↓reduceIte, Nat.reduceEqDiff, Nat.reduceAdd, Nat.reduceSub, Nat.reduceMul, Nat.reduceBEq, Nat.reduceLT, Nat.reduceLeDiff, Int.reduceToNat, Int.reduceLE, Int.reduceLT, Int.reduceEq, Int.reduceNeg, ← List.map_drop, ← List.map_take, UInt8.reduceToNat, true_implies, implies_true, List.append_eq, y_splice_Lines]
  (repeat' (first | ((with_reducible refine hK _ _ ?_); clear hK K) | (with_reducible apply And.intro) | (exact trivial) | (clear hK K; assumption) | (clear hK K; omega)))
  refine then_normal ?_
  refine w_seq ?_
  refine w_seq ?_
  refine w_region rfl (fun K hK => ?_)
  simp -implicitDefEqProofs only [goR, ↓upd_at, if_true, if_false, reduceCtorEq, ↓reduceIte, Nat.reduceEqDiff, Nat.reduceAdd, Nat.reduceSub, Nat.reduceMul, Nat.reduceBEq, Nat.reduceLT, Nat.reduceLeDiff, Int.reduceToNat, Int.reduceLE, Int.reduceLT, Int.reduceEq, Int.reduceNeg, ← List.map_drop, ← List.map_take, UInt8.reduceToNat, true_implies, implies_true, List.append_eq, y_splice_Lines]
  (repeat' (first | ((with_reducible refine hK _ _ ?_); clear hK K) | (with_reducible apply And.intro) | (exact trivial) | (clear hK K; assumption) | (clear hK K; omega)))
  refine then_normal ?_
  refine w_block ?_
  refine w_loop (splice_Lines_b1 a0) (fun s => [(0, .c (.d (.v (str a0)))), (5, .c (.d (.v (.int .i64 s.1)))), (11, .c (.d (.v (.int .i64 s.2.1)))), (12, .c (.d (.v (.int .i64 s.2.2))))]) (fun s => []) [] H ?_ ?_
  · exact wk_ren ⟨[], []⟩ rfl rfl rfl rfl rfl (by simp -implicitDefEqProofs only [goW, goR, ↓upd_at, if_true, if_false, reduceCtorEq, ↓reduceIte, Nat.reduceEqDiff, Nat.reduceAdd, Nat.reduceSub, Nat.reduceMul, Nat.reduceBEq, Nat.reduceLT, Nat.reduceLeDiff, Int.reduceToNat, Int.reduceLE, Int.reduceLT, Int.reduceEq, Int.reduceNeg, ← List.map_drop, ← List.map_take, UInt8.reduceToNat, true_implies, implies_true, List.append_eq, y_splice_Lines]) (by simp -implicitDefEqProofs only [goW, goR, ↓upd_at, if_true, if_false, reduceCtorEq, ↓reduceIte, Nat.reduceEqDiff, Nat.reduceAdd, Nat.reduceSub, Nat.reduceMul, Nat.reduceBEq, Nat.reduceLT, Nat.reduceLeDiff, Int.reduceToNat, Int.reduceLE, Int.reduceLT, Int.reduceEq, Int.reduceNeg, ← List.map_drop, ← List.map_take, UInt8.reduceToNat, true_implies, implies_true, List.append_eq, y_splice_Lines]) (by simp -implicitDefEqProofs only [goW, goR, ↓upd_at, if_true, if_false, reduceCtorEq, ↓reduceIte, Nat.reduceEqDiff, Nat.reduceAdd, Nat.reduceSub, Nat.reduceMul, Nat.reduceBEq, Nat.reduceLT, Nat.reduceLeDiff, Int.reduceToNat, Int.reduceLE, Int.reduceLT, Int.reduceEq, Int.reduceNeg, ← List.map_drop, ← List.map_take, UInt8.reduceToNat, true_implies, implies_true, List.append_eq, y_splice_Lines]) rfl
  · rintro n1 ⟨x1, x2, x3⟩ o1 H hF1
    rw [splice_Lines_b1] at H
    refine w_seq ?_
    refine w_region rfl (fun K hK => ?_)
    simp -implicitDefEqProofs only [goR, ↓upd_at, if_true, if_false, reduceCtorEq, ↓reduceIte, Nat.reduceEqDiff, Nat.reduceAdd, Nat.reduceSub, Nat.reduceMul, Nat.reduceBEq, Nat.reduceLT, Nat.reduceLeDiff, Int.reduceToNat, Int.reduceLE, Int.reduceLT, Int.reduceEq, Int.reduceNeg, ← List.map_drop, ← List.map_take, UInt8.reduceToNat, true_implies, implies_true, List.append_eq, y_splice_Lines]
    (repeat' (first | ((with_reducible refine hK _ _ ?_); clear hK K) | (with_reducible apply And.intro) | (exact trivial) | (clear hK K; assumption) | (clear hK K; omega)))
    refine then_normal ?_
    refine w_seq ?_
    rcases bsplit H with ⟨hp1, H⟩ | ⟨hp1, H⟩
    · try simp -implicitDefEqProofs only [goR, ↓upd_at, if_true, if_false, reduceCtorEq, ↓reduceIte, Nat.reduceEqDiff, Nat.reduceAdd, Nat.reduceSub, Nat.reduceMul, Nat.reduceBEq, Nat.reduceLT, Nat.reduceLeDiff, Int.reduceToNat, Int.reduceLE, Int.reduceLT, Int.reduceEq, Int.reduceNeg, ← List.map_drop, ← List.map_take, UInt8.reduceToNat, true_implies, implies_true, List.append_eq, y_splice_Lines] at hp1
      have hq1 := hp1
      try simp only [goT] at hq1
      refine w_condT (by simp -implicitDefEqProofs only [goR, ↓upd_at, if_true, if_false, reduceCtorEq, ↓reduceIte, Nat.reduceEqDiff, Nat.reduceAdd, Nat.reduceSub, Nat.reduceMul, Nat.reduceBEq, Nat.reduceLT, Nat.reduceLeDiff, Int.reduceToNat, Int.reduceLE, Int.reduceLT, Int.reduceEq, Int.reduceNeg, ← List.map_drop, ← List.map_take, UInt8.reduceToNat, true_implies, implies_true, List.append_eq, y_splice_Lines, hp1]) ?_
      refine w_skip ?_
      refine then_normal ?_
      refine w_cut (splice_Lines_j2 x2 x3) (fun s => [(0, .c (.d (.v (str a0)))), (5, .c (.d (.v (.int .i64 s)))), (11, .c (.d (.v (.int .i64 x2)))), (12, .c (.d (.v (.int .i64 x3))))]) (fun s => []) [] o1 ?_ ?_
      · refine w_block ?_
        refine w_seq ?_
        refine w_region rfl (fun K hK => ?_)
        simp -implicitDefEqProofs only [goR, ↓upd_at, if_true, if_false, reduceCtorEq, ↓reduceIte, Nat.reduceEqDiff, Nat.reduceAdd, Nat.reduceSub, Nat.reduceMul, Nat.reduceBEq, Nat.reduceLT, Nat.reduceLeDiff, Int.reduceToNat, Int.reduceLE, Int.reduceLT, Int.reduceEq, Int.reduceNeg, ← List.map_drop, ← List.map_take, UInt8.reduceToNat, true_implies, implies_true, List.append_eq, y_splice_Lines]
        (repeat' (first | ((with_reducible refine hK _ _ ?_); clear hK K) | (with_reducible apply And.intro) | (exact trivial) | (clear hK K; assumption) | (clear hK K; omega)))
        refine then_normal ?_
        refine w_seq ?_
        obtain ⟨hg1, H⟩ := gsplit H
        refine w_region rfl (fun K hK => ?_)
        simp -implicitDefEqProofs only [goR, ↓upd_at, if_true, if_false, reduceCtorEq, ↓reduceIte, Nat.reduceEqDiff, Nat.reduceAdd, Nat.reduceSub, Nat.reduceMul, Nat.reduceBEq, Nat.reduceLT, Nat.reduceLeDiff, Int.reduceToNat, Int.reduceLE, Int.reduceLT, Int.reduceEq, Int.reduceNeg, ← List.map_drop, ← List.map_take, UInt8.reduceToNat, true_implies, implies_true, List.append_eq, y_splice_Lines]
        (repeat' (first | ((with_reducible refine hK _ _ ?_); clear hK K) | (with_reducible apply And.intro) | (exact trivial) | (clear hK K; assumption) | (clear hK K; omega)))
        refine then_normal ?_
        rcases bsplit H with ⟨hp2, H⟩ | ⟨hp2, H⟩
        · try simp -implicitDefEqProofs only [goR, ↓upd_at, if_true, if_false, reduceCtorEq, ↓reduceIte, Nat.reduceEqDiff, Nat.reduceAdd, Nat.reduceSub, Nat.reduceMul, Nat.reduceBEq, Nat.reduceLT, Nat.reduceLeDiff, Int.reduceToNat, Int.reduceLE, Int.reduceLT, Int.reduceEq, Int.reduceNeg, ← List.map_drop, ← List.map_take, UInt8.reduceToNat, true_implies, implies_true, List.append_eq, y_splice_Lines] at hp2
          have hq2 := hp2
          try simp only [goT] at hq2
          refine w_condT (by simp -implicitDefEqProofs only [goR, ↓upd_at, if_true, if_false, reduceCtorEq, ↓reduceIte, Nat.reduceEqDiff, Nat.reduceAdd, Nat.reduceSub, Nat.reduceMul, Nat.reduceBEq, Nat.reduceLT, Nat.reduceLeDiff, Int.reduceToNat, Int.reduceLE, Int.reduceLT, Int.reduceEq, Int.reduceNeg, ← List.map_drop, ← List.map_take, UInt8.reduceToNat, true_implies, implies_true, List.append_eq, y_splice_Lines, hp2]) ?_
          refine w_region rfl (fun K hK => ?_)
          simp -implicitDefEqProofs only [goR, ↓upd_at, if_true, if_false, reduceCtorEq, ↓reduceIte, Nat.reduceEqDiff, Nat.reduceAdd, Nat.reduceSub, Nat.reduceMul, Nat.reduceBEq, Nat.reduceLT, Nat.reduceLeDiff, Int.reduceToNat, Int.reduceLE, Int.reduceLT, Int.reduceEq, Int.reduceNeg, ← List.map_drop, ← List.map_take, UInt8.reduceToNat, true_implies, implies_true, List.append_eq, y_splice_Lines]
          (repeat' (first | ((with_reducible refine hK _ _ ?_); clear hK K) | (with_reducible apply And.intro) | (exact trivial) | (clear hK K; assumption) | (clear hK K; omega)))
          refine block_normal ?_
          refine cut_at H ?_
          exact wk_ren ⟨[], []⟩ rfl rfl rfl rfl rfl (by simp -implicitDefEqProofs only [goW, goR, ↓upd_at, if_true, if_false, reduceCtorEq, ↓reduceIte, Nat.reduceEqDiff, Nat.reduceAdd, Nat.reduceSub, Nat.reduceMul, Nat.reduceBEq, Nat.reduceLT, Nat.reduceLeDiff, Int.reduceToNat, Int.reduceLE, Int.reduceLT, Int.reduceEq, Int.reduceNeg, ← List.map_drop, ← List.map_take, UInt8.reduceToNat, true_implies, implies_true, List.append_eq, y_splice_Lines]) (by simp -implicitDefEqProofs only [goW, goR, ↓upd_at, if_true, if_false, reduceCtorEq, ↓reduceIte, Nat.reduceEqDiff, Nat.reduceAdd, Nat.reduceSub, Nat.reduceMul, Nat.reduceBEq, Nat.reduceLT, Nat.reduceLeDiff, Int.reduceToNat, Int.reduceLE, Int.reduceLT, Int.reduceEq, Int.reduceNeg, ← List.map_drop, ← List.map_take, UInt8.reduceToNat, true_implies, implies_true, List.append_eq, y_splice_Lines]) (by simp -implicitDefEqProofs only [goW, goR, ↓upd_at, if_true, if_false, reduceCtorEq, ↓reduceIte, Nat.reduceEqDiff, Nat.reduceAdd, Nat.reduceSub, Nat.reduceMul, Nat.reduceBEq, Nat.reduceLT, Nat.reduceLeDiff, Int.reduceToNat, Int.reduceLE, Int.reduceLT, Int.reduceEq, Int.reduceNeg, ← List.map_drop, ← List.map_take, UInt8.reduceToNat, true_implies, implies_true, List.append_eq, y_splice_Lines]) rfl
        · try simp -implicitDefEqProofs only [goR, ↓upd_at, if_true, if_false, reduceCtorEq, ↓reduceIte, Nat.reduceEqDiff, Nat.reduceAdd, Nat.reduceSub, Nat.reduceMul, Nat.reduceBEq, Nat.reduceLT, Nat.reduceLeDiff, Int.reduceToNat, Int.reduceLE, Int.reduceLT, Int.reduceEq, Int.reduceNeg, ← List.map_drop, ← List.map_take, UInt8.reduceToNat, true_implies, implies_true, List.append_eq, y_splice_Lines] at hp2
          have hq2 := hp2
          try simp only [goT] at hq2
          refine w_condF (by simp -implicitDefEqProofs only [goR, ↓upd_at, if_true, if_false, reduceCtorEq, ↓reduceIte, Nat.reduceEqDiff, Nat.reduceAdd, Nat.reduceSub, Nat.reduceMul, Nat.reduceBEq, Nat.reduceLT, Nat.reduceLeDiff, Int.reduceToNat, Int.reduceLE, Int.reduceLT, Int.reduceEq, Int.reduceNeg, ← List.map_drop, ← List.map_take, UInt8.reduceToNat, true_implies, implies_true, List.append_eq, y_splice_Lines, hp2]) ?_
          refine w_skip ?_
          refine block_normal ?_
          refine cut_at H ?_
          exact wk_ren ⟨[], []⟩ rfl rfl rfl rfl rfl (by simp -implicitDefEqProofs only [goW, goR, ↓upd_at, if_true, if_false, reduceCtorEq, ↓reduceIte, Nat.reduceEqDiff, Nat.reduceAdd, Nat.reduceSub, Nat.reduceMul, Nat.reduceBEq, Nat.reduceLT, Nat.reduceLeDiff, Int.reduceToNat, Int.reduceLE, Int.reduceLT, Int.reduceEq, Int.reduceNeg, ← List.map_drop, ← List.map_take, UInt8.reduceToNat, true_implies, implies_true, List.append_eq, y_splice_Lines]) (by simp -implicitDefEqProofs only [goW, goR, ↓upd_at, if_true, if_false, reduceCtorEq, ↓reduceIte, Nat.reduceEqDiff, Nat.reduceAdd, Nat.reduceSub, Nat.reduceMul, Nat.reduceBEq, Nat.reduceLT, Nat.reduceLeDiff, Int.reduceToNat, Int.reduceLE, Int.reduceLT, Int.reduceEq, Int.reduceNeg, ← List.map_drop, ← List.map_take, UInt8.reduceToNat, true_implies, implies_true, List.append_eq, y_splice_Lines]) (by simp -implicitDefEqProofs only [goW, goR, ↓upd_at, if_true, if_false, reduceCtorEq, ↓reduceIte, Nat.reduceEqDiff, Nat.reduceAdd, Nat.reduceSub, Nat.reduceMul, Nat.reduceBEq, Nat.reduceLT, Nat.reduceLeDiff, Int.reduceToNat, Int.reduceLE, Int.reduceLT, Int.reduceEq, Int.reduceNeg, ← List.map_drop, ← List.map_take, UInt8.reduceToNat, true_implies, implies_true, List.append_eq, y_splice_Lines]) rfl
      · rintro x4 H
        rw [splice_Lines_j2] at H
        refine w_region rfl (fun K hK => ?_)
        simp -implicitDefEqProofs only [goR, ↓upd_at, if_true, if_false, reduceCtorEq, ↓reduceIte, Nat.reduceEqDiff, Nat.reduceAdd, Nat.reduceSub, Nat.reduceMul, Nat.reduceBEq, Nat.reduceLT, Nat.reduceLeDiff, Int.reduceToNat, Int.reduceLE, Int.reduceLT, Int.reduceEq, Int.reduceNeg, ← List.map_drop, ← List.map_take, UInt8.reduceToNat, true_implies, implies_true, List.append_eq, y_splice_Lines]
        (repeat' (first | ((with_reducible refine hK _ _ ?_); clear hK K) | (with_reducible apply And.intro) | (exact trivial) | (clear hK K; assumption) | (clear hK K; omega)))
        refine round_at (inl_fin H hF1) ?_
        exact wk_ren ⟨[], []⟩ rfl rfl rfl rfl rfl (by simp -implicitDefEqProofs only [goW, goR, ↓upd_at, if_true, if_false, reduceCtorEq, ↓reduceIte, Nat.reduceEqDiff, Nat.reduceAdd, Nat.reduceSub, Nat.reduceMul, Nat.reduceBEq, Nat.reduceLT, Nat.reduceLeDiff, Int.reduceToNat, Int.reduceLE, Int.reduceLT, Int.reduceEq, Int.reduceNeg, ← List.map_drop, ← List.map_take, UInt8.reduceToNat, true_implies, implies_true, List.append_eq, y_splice_Lines]) (by simp -implicitDefEqProofs only [goW, goR, ↓upd_at, if_true, if_false, reduceCtorEq, ↓reduceIte, Nat.reduceEqDiff, Nat.reduceAdd, Nat.reduceSub, Nat.reduceMul, Nat.reduceBEq, Nat.reduceLT, Nat.reduceLeDiff, Int.reduceToNat, Int.reduceLE, Int.reduceLT, Int.reduceEq, Int.reduceNeg, ← List.map_drop, ← List.map_take, UInt8.reduceToNat, true_implies, implies_true, List.append_eq, y_splice_Lines]) (by simp -implicitDefEqProofs only [goW, goR, ↓upd_at, if_true, if_false, reduceCtorEq, ↓reduceIte, Nat.reduceEqDiff, Nat.reduceAdd, Nat.reduceSub, Nat.reduceMul, Nat.reduceBEq, Nat.reduceLT, Nat.reduceLeDiff, Int.reduceToNat, Int.reduceLE, Int.reduceLT, Int.reduceEq, Int.reduceNeg, ← List.map_drop, ← List.map_take, UInt8.reduceToNat, true_implies, implies_true, List.append_eq, y_splice_Lines]) rfl
    · try simp -implicitDefEqProofs only [goR, ↓upd_at, if_true, if_false, reduceCtorEq, ↓reduceIte, Nat.reduceEqDiff, Nat.reduceAdd, Nat.reduceSub, Nat.reduceMul, Nat.reduceBEq, Nat.reduceLT, Nat.reduceLeDiff, Int.reduceToNat, Int.reduceLE, Int.reduceLT, Int.reduceEq, Int.reduceNeg, ← List.map_drop, ← List.map_take, UInt8.reduceToNat, true_implies, implies_true, List.append_eq, y_splice_Lines] at hp1
      have hq1 := hp1
      try simp only [goT] at hq1
      refine w_condF (by simp -implicitDefEqProofs only [goR, ↓upd_at, if_true, if_false, reduceCtorEq, ↓reduceIte, Nat.reduceEqDiff, Nat.reduceAdd, Nat.reduceSub, Nat.reduceMul, Nat.reduceBEq, Nat.reduceLT, Nat.reduceLeDiff, Int.reduceToNat, Int.reduceLE, Int.reduceLT, Int.reduceEq, Int.reduceNeg, ← List.map_drop, ← List.map_take, UInt8.reduceToNat, true_implies, implies_true, List.append_eq, y_splice_Lines, hp1]) ?_
      refine w_exit ?_
      refine then_exit ?_
      replace H := inrO_fin H hF1
      refine round_exit ?_
      refine block_exit ?_
      refine then_normal ?_
      refine w_seq ?_
      refine w_region rfl (fun K hK => ?_)
      simp -implicitDefEqProofs only [goR, ↓upd_at, if_true, if_false, reduceCtorEq, ↓reduceIte, Nat.reduceEqDiff, Nat.reduceAdd, Nat.reduceSub, Nat.reduceMul, Nat.reduceBEq, Nat.reduceLT, Nat.reduceLeDiff, Int.reduceToNat, Int.reduceLE, Int.reduceLT, Int.reduceEq, Int.reduceNeg, ← List.map_drop, ← List.map_take, UInt8.reduceToNat, true_implies, implies_true, List.append_eq, y_splice_Lines]
      (repeat' (first | ((with_reducible refine hK _ _ ?_); clear hK K) | (with_reducible apply And.intro) | (exact trivial) | (clear hK K; assumption) | (clear hK K; omega)))
      refine then_normal ?_
      refine w_ret ?_
      obtain rfl := Option.some.inj H
      simp -implicitDefEqProofs only [goQ, Try.results17, goR, ↓upd_at, if_true, if_false, reduceCtorEq, ↓reduceIte, Nat.reduceEqDiff, Nat.reduceAdd, Nat.reduceSub, Nat.reduceMul, Nat.reduceBEq, Nat.reduceLT, Nat.reduceLeDiff, Int.reduceToNat, Int.reduceLE, Int.reduceLT, Int.reduceEq, Int.reduceNeg, ← List.map_drop, ← List.map_take, UInt8.reduceToNat, true_implies, implies_true, List.append_eq, y_splice_Lines]
theorem splice_Lines_c (a0 : List UInt8) (a1 : Int) (r : Int) (H : splice_Lines a0 a1 = some r) : pf_splice_Lines.pre [dS a0, dI a1] = True ∧ pf_splice_Lines.val [dS a0, dI a1] = dI r :=
  ⟨PF.of_pre (enc := c_splice_Lines) (f := fun a => splice_Lines a.1 a.2) (e := e_splice_Lines) (a := (a0, a1)) H, PF.of_val (enc := c_splice_Lines) (f := fun a => splice_Lines a.1 a.2) (e := e_splice_Lines) (a := (a0, a1)) c_splice_Lines_inj H⟩
noncomputable def preref1_Line_j3 (x2 : Int) : Int → Option ((Int × Int) ⊕ Int)
  | x4 => some (.inl (x4, IntKind.i64.wrap (x2 + 1)))
noncomputable def preref1_Line_j2 (a0 : List UInt8) (x1 : Int) (x2 : Int) : Bool → Option ((Int × Int) ⊕ Int)
  | x3 => if x3 = true then if (0 : Int) ≤ x2 ∧ x2.toNat < a0.length then if (eqI ((a0.getD x2.toNat 0).toNat : Int) 10) = true then preref1_Line_j3 x2 (IntKind.i64.wrap (x1 + 1)) else preref1_Line_j3 x2 x1 else none else inrO (some x1)
noncomputable def preref1_Line_b1 (a0 : List UInt8) (a1 : Int) : (Int × Int) → Option ((Int × Int) ⊕ Int)
  | (x1, x2) => if (ltI x2 a1) = true then preref1_Line_j2 a0 x1 x2 (ltI x2 (a0.length : Int)) else preref1_Line_j2 a0 x1 x2 false
noncomputable def preref1_Line (a0 : List UInt8) (a1 : Int) : Option Int :=
  loopO (preref1_Line_b1 a0 a1) (1, 0)
def e_preref1_Line : Int → D := fun r => dI r
def c_preref1_Line : (List UInt8) × Int → List D := fun a => [dS a.1, dI a.2]
theorem c_preref1_Line_inj : Inj c_preref1_Line := by rintro ⟨a0, a1⟩ ⟨b0, b1⟩ h; simp only [c_preref1_Line, List.map_cons, List.map_nil, List.cons.injEq, and_true] at h; obtain ⟨h0, h1⟩ := h; obtain rfl := (dS_inj _ _) h0; obtain rfl := (dI_inj _ _) h1; rfl
noncomputable def pf_preref1_Line : PF := PF.of c_preref1_Line (fun a => preref1_Line a.1 a.2) e_preref1_Line
noncomputable def t_preref1_Line : Tab := tabOf Try.prog [] []
theorem t_preref1_Line_ok : TabOk t_preref1_Line := tabOf_ok (by exact trivial) (by exact trivial)
theorem y_preref1_Line : (((type_of% @Try.underlying9) ∧ (type_of% @d_Spliced.eq_1)) ∧ ((type_of% @t_preref1_Line.eq_1) ∧ ((type_of% @c_preref1_Line.eq_1) ∧ (type_of% @e_preref1_Line.eq_1)))) := ⟨⟨@Try.underlying9, @d_Spliced.eq_1⟩, ⟨@t_preref1_Line.eq_1, ⟨@c_preref1_Line.eq_1, @e_preref1_Line.eq_1⟩⟩⟩
set_option maxRecDepth 100000 in
set_option maxHeartbeats 4000000 in
theorem preref1_Line_ok : PureOk Try.prog 18 pf_preref1_Line := by
  refine pure_of (t := t_preref1_Line) (pure := fun n => [].contains n) c_preref1_Line_inj rfl t_preref1_Line_ok mixed (fun n hn => tabOf_pure rfl n hn) Try.func18 rfl (by kernel_rfl) (fun a => by simp [c_preref1_Line, Try.ntmps18]) ?_
  rintro ⟨a0, a1⟩ out H
  simp only [preref1_Line] at H
  show aC _ _ (sig0 (List.map (fun d => AV.c (C.d d)) (c_preref1_Line (a0, a1)))) _ _
  refine w_seq ?_
  refine w_region rfl (fun K hK => ?_)
  simp -implicitDefEqProofs only [goR, ↓upd_at, if_true, if_false, reduceCtorEq, ↓reduceIte, Nat.reduceEqDiff, Nat.reduceAdd, Nat.reduceSub, Nat.reduceMul, Nat.reduceBEq, Nat.reduceLT, Nat.reduceLeDiff, Int.reduceToNat, Int.reduceLE, Int.reduceLT, Int.reduceEq, Int.reduceNeg, ← List.map_drop, ← List.map_take, UInt8.reduceToNat, true_implies, implies_true, List.append_eq, y_preref1_Line]
  (repeat' (first | ((with_reducible refine hK _ _ ?_); clear hK K) | (with_reducible apply And.intro) | (exact trivial) | (clear hK K; assumption) | (clear hK K; omega)))
  refine then_normal ?_
  refine w_seq ?_
  refine w_region rfl (fun K hK => ?_)
  simp -implicitDefEqProofs only [goR, ↓upd_at, if_true, if_false, reduceCtorEq, ↓reduceIte, Nat.reduceEqDiff, Nat.reduceAdd, Nat.reduceSub, Nat.reduceMul, Nat.reduceBEq, Nat.reduceLT, Nat.reduceLeDiff, Int.reduceToNat, Int.reduceLE, Int.reduceLT, Int.reduceEq, Int.reduceNeg, ← List.map_drop, ← List.map_take, UInt8.reduceToNat, true_implies, implies_true, List.append_eq, y_preref1_Line]
  (repeat' (first | ((with_reducible refine hK _ _ ?_); clear hK K) | (with_reducible apply And.intro) | (exact trivial) | (clear hK K; assumption) | (clear hK K; omega)))
  refine then_normal ?_
  refine w_seq ?_
  refine w_seq ?_
  refine w_region rfl (fun K hK => ?_)
  simp -implicitDefEqProofs only [goR, ↓upd_at, if_true, if_false, reduceCtorEq, ↓reduceIte, Nat.reduceEqDiff, Nat.reduceAdd, Nat.reduceSub, Nat.reduceMul, Nat.reduceBEq, Nat.reduceLT, Nat.reduceLeDiff, Int.reduceToNat, Int.reduceLE, Int.reduceLT, Int.reduceEq, Int.reduceNeg, ← List.map_drop, ← List.map_take, UInt8.reduceToNat, true_implies, implies_true, List.append_eq, y_preref1_Line]
  (repeat' (first | ((with_reducible refine hK _ _ ?_); clear hK K) | (with_reducible apply And.intro) | (exact trivial) | (clear hK K; assumption) | (clear hK K; omega)))
  refine then_normal ?_
  refine w_block ?_
  refine w_loop (preref1_Line_b1 a0 a1) (fun s => [(0, .c (.d (.v (str a0)))), (1, .c (.d (.v (.int .i64 a1)))), (5, .c (.d (.v (.int .i64 s.1)))), (6, .c (.d (.v (.int .i64 s.2))))]) (fun s => []) [] H ?_ ?_
  · exact wk_ren ⟨[], []⟩ rfl rfl rfl rfl rfl (by simp -implicitDefEqProofs only [goW, goR, ↓upd_at, if_true, if_false, reduceCtorEq, ↓reduceIte, Nat.reduceEqDiff, Nat.reduceAdd, Nat.reduceSub, Nat.reduceMul, Nat.reduceBEq, Nat.reduceLT, Nat.reduceLeDiff, Int.reduceToNat, Int.reduceLE, Int.reduceLT, Int.reduceEq, Int.reduceNeg, ← List.map_drop, ← List.map_take, UInt8.reduceToNat, true_implies, implies_true, List.append_eq, y_preref1_Line]) (by simp -implicitDefEqProofs only [goW, goR, ↓upd_at, if_true, if_false, reduceCtorEq, ↓reduceIte, Nat.reduceEqDiff, Nat.reduceAdd, Nat.reduceSub, Nat.reduceMul, Nat.reduceBEq, Nat.reduceLT, Nat.reduceLeDiff, Int.reduceToNat, Int.reduceLE, Int.reduceLT, Int.reduceEq, Int.reduceNeg, ← List.map_drop, ← List.map_take, UInt8.reduceToNat, true_implies, implies_true, List.append_eq, y_preref1_Line]) (by simp -implicitDefEqProofs only [goW, goR, ↓upd_at, if_true, if_false, reduceCtorEq, ↓reduceIte, Nat.reduceEqDiff, Nat.reduceAdd, Nat.reduceSub, Nat.reduceMul, Nat.reduceBEq, Nat.reduceLT, Nat.reduceLeDiff, Int.reduceToNat, Int.reduceLE, Int.reduceLT, Int.reduceEq, Int.reduceNeg, ← List.map_drop, ← List.map_take, UInt8.reduceToNat, true_implies, implies_true, List.append_eq, y_preref1_Line]) rfl
  · rintro n1 ⟨x1, x2⟩ o1 H hF1
    rw [preref1_Line_b1] at H
    refine w_seq ?_
    refine w_cut (preref1_Line_j2 a0 x1 x2) (fun s => [(0, .c (.d (.v (str a0)))), (1, .c (.d (.v (.int .i64 a1)))), (5, .c (.d (.v (.int .i64 x1)))), (6, .c (.d (.v (.int .i64 x2)))), (15, .c (.d (.v (.bool s))))]) (fun s => []) [] o1 ?_ ?_
    · rcases bsplit H with ⟨hp3, H⟩ | ⟨hp3, H⟩
      · try simp -implicitDefEqProofs only [goR, ↓upd_at, if_true, if_false, reduceCtorEq, ↓reduceIte, Nat.reduceEqDiff, Nat.reduceAdd, Nat.reduceSub, Nat.reduceMul, Nat.reduceBEq, Nat.reduceLT, Nat.reduceLeDiff, Int.reduceToNat, Int.reduceLE, Int.reduceLT, Int.reduceEq, Int.reduceNeg, ← List.map_drop, ← List.map_take, UInt8.reduceToNat, true_implies, implies_true, List.append_eq, y_preref1_Line] at hp3
        have hq3 := hp3
        try simp only [goT] at hq3
        refine w_region rfl (fun K hK => ?_)
        simp -implicitDefEqProofs only [goR, ↓upd_at, if_true, if_false, reduceCtorEq, ↓reduceIte, Nat.reduceEqDiff, Nat.reduceAdd, Nat.reduceSub, Nat.reduceMul, Nat.reduceBEq, Nat.reduceLT, Nat.reduceLeDiff, Int.reduceToNat, Int.reduceLE, Int.reduceLT, Int.reduceEq, Int.reduceNeg, ← List.map_drop, ← List.map_take, UInt8.reduceToNat, true_implies, implies_true, List.append_eq, y_preref1_Line, hp3]
        (repeat' (first | ((with_reducible refine hK _ _ ?_); clear hK K) | (with_reducible apply And.intro) | (exact trivial) | (clear hK K; assumption) | (clear hK K; omega)))
        refine cut_at H ?_
        exact wk_ren ⟨[], []⟩ rfl rfl rfl rfl rfl (by simp -implicitDefEqProofs only [goW, goR, ↓upd_at, if_true, if_false, reduceCtorEq, ↓reduceIte, Nat.reduceEqDiff, Nat.reduceAdd, Nat.reduceSub, Nat.reduceMul, Nat.reduceBEq, Nat.reduceLT, Nat.reduceLeDiff, Int.reduceToNat, Int.reduceLE, Int.reduceLT, Int.reduceEq, Int.reduceNeg, ← List.map_drop, ← List.map_take, UInt8.reduceToNat, true_implies, implies_true, List.append_eq, y_preref1_Line]) (by simp -implicitDefEqProofs only [goW, goR, ↓upd_at, if_true, if_false, reduceCtorEq, ↓reduceIte, Nat.reduceEqDiff, Nat.reduceAdd, Nat.reduceSub, Nat.reduceMul, Nat.reduceBEq, Nat.reduceLT, Nat.reduceLeDiff, Int.reduceToNat, Int.reduceLE, Int.reduceLT, Int.reduceEq, Int.reduceNeg, ← List.map_drop, ← List.map_take, UInt8.reduceToNat, true_implies, implies_true, List.append_eq, y_preref1_Line]) (by simp -implicitDefEqProofs only [goW, goR, ↓upd_at, if_true, if_false, reduceCtorEq, ↓reduceIte, Nat.reduceEqDiff, Nat.reduceAdd, Nat.reduceSub, Nat.reduceMul, Nat.reduceBEq, Nat.reduceLT, Nat.reduceLeDiff, Int.reduceToNat, Int.reduceLE, Int.reduceLT, Int.reduceEq, Int.reduceNeg, ← List.map_drop, ← List.map_take, UInt8.reduceToNat, true_implies, implies_true, List.append_eq, y_preref1_Line]) rfl
      · try simp -implicitDefEqProofs only [goR, ↓upd_at, if_true, if_false, reduceCtorEq, ↓reduceIte, Nat.reduceEqDiff, Nat.reduceAdd, Nat.reduceSub, Nat.reduceMul, Nat.reduceBEq, Nat.reduceLT, Nat.reduceLeDiff, Int.reduceToNat, Int.reduceLE, Int.reduceLT, Int.reduceEq, Int.reduceNeg, ← List.map_drop, ← List.map_take, UInt8.reduceToNat, true_implies, implies_true, List.append_eq, y_preref1_Line] at hp3
        have hq3 := hp3
        try simp only [goT] at hq3
        refine w_region rfl (fun K hK => ?_)
        simp -implicitDefEqProofs only [goR, ↓upd_at, if_true, if_false, reduceCtorEq, ↓reduceIte, Nat.reduceEqDiff, Nat.reduceAdd, Nat.reduceSub, Nat.reduceMul, Nat.reduceBEq, Nat.reduceLT, Nat.reduceLeDiff, Int.reduceToNat, Int.reduceLE, Int.reduceLT, Int.reduceEq, Int.reduceNeg, ← List.map_drop, ← List.map_take, UInt8.reduceToNat, true_implies, implies_true, List.append_eq, y_preref1_Line, hp3]
        (repeat' (first | ((with_reducible refine hK _ _ ?_); clear hK K) | (with_reducible apply And.intro) | (exact trivial) | (clear hK K; assumption) | (clear hK K; omega)))
        refine cut_at H ?_
        exact wk_ren ⟨[], []⟩ rfl rfl rfl rfl rfl (by simp -implicitDefEqProofs only [goW, goR, ↓upd_at, if_true, if_false, reduceCtorEq, ↓reduceIte, Nat.reduceEqDiff, Nat.reduceAdd, Nat.reduceSub, Nat.reduceMul, Nat.reduceBEq, Nat.reduceLT, Nat.reduceLeDiff, Int.reduceToNat, Int.reduceLE, Int.reduceLT, Int.reduceEq, Int.reduceNeg, ← List.map_drop, ← List.map_take, UInt8.reduceToNat, true_implies, implies_true, List.append_eq, y_preref1_Line]) (by simp -implicitDefEqProofs only [goW, goR, ↓upd_at, if_true, if_false, reduceCtorEq, ↓reduceIte, Nat.reduceEqDiff, Nat.reduceAdd, Nat.reduceSub, Nat.reduceMul, Nat.reduceBEq, Nat.reduceLT, Nat.reduceLeDiff, Int.reduceToNat, Int.reduceLE, Int.reduceLT, Int.reduceEq, Int.reduceNeg, ← List.map_drop, ← List.map_take, UInt8.reduceToNat, true_implies, implies_true, List.append_eq, y_preref1_Line]) (by simp -implicitDefEqProofs only [goW, goR, ↓upd_at, if_true, if_false, reduceCtorEq, ↓reduceIte, Nat.reduceEqDiff, Nat.reduceAdd, Nat.reduceSub, Nat.reduceMul, Nat.reduceBEq, Nat.reduceLT, Nat.reduceLeDiff, Int.reduceToNat, Int.reduceLE, Int.reduceLT, Int.reduceEq, Int.reduceNeg, ← List.map_drop, ← List.map_take, UInt8.reduceToNat, true_implies, implies_true, List.append_eq, y_preref1_Line]) rfl
    · rintro x3 H
      rw [preref1_Line_j2] at H
      rcases bsplit H with ⟨hp1, H⟩ | ⟨hp1, H⟩
      · try simp -implicitDefEqProofs only [goR, ↓upd_at, if_true, if_false, reduceCtorEq, ↓reduceIte, Nat.reduceEqDiff, Nat.reduceAdd, Nat.reduceSub, Nat.reduceMul, Nat.reduceBEq, Nat.reduceLT, Nat.reduceLeDiff, Int.reduceToNat, Int.reduceLE, Int.reduceLT, Int.reduceEq, Int.reduceNeg, ← List.map_drop, ← List.map_take, UInt8.reduceToNat, true_implies, implies_true, List.append_eq, y_preref1_Line] at hp1
        have hq1 := hp1
        try simp only [goT] at hq1
        refine w_condT (by simp -implicitDefEqProofs only [goR, ↓upd_at, if_true, if_false, reduceCtorEq, ↓reduceIte, Nat.reduceEqDiff, Nat.reduceAdd, Nat.reduceSub, Nat.reduceMul, Nat.reduceBEq, Nat.reduceLT, Nat.reduceLeDiff, Int.reduceToNat, Int.reduceLE, Int.reduceLT, Int.reduceEq, Int.reduceNeg, ← List.map_drop, ← List.map_take, UInt8.reduceToNat, true_implies, implies_true, List.append_eq, y_preref1_Line, hp1]) ?_
        refine w_skip ?_
        refine then_normal ?_
        refine w_cut (preref1_Line_j3 x2) (fun s => [(0, .c (.d (.v (str a0)))), (1, .c (.d (.v (.int .i64 a1)))), (5, .c (.d (.v (.int .i64 s)))), (6, .c (.d (.v (.int .i64 x2))))]) (fun s => []) [] o1 ?_ ?_
        · refine w_block ?_
          refine w_seq ?_
          obtain ⟨hg1, H⟩ := gsplit H
          refine w_region rfl (fun K hK => ?_)
          simp -implicitDefEqProofs only [goR, ↓upd_at, if_true, if_false, reduceCtorEq, ↓reduceIte, Nat.reduceEqDiff, Nat.reduceAdd, Nat.reduceSub, Nat.reduceMul, Nat.reduceBEq, Nat.reduceLT, Nat.reduceLeDiff, Int.reduceToNat, Int.reduceLE, Int.reduceLT, Int.reduceEq, Int.reduceNeg, ← List.map_drop, ← List.map_take, UInt8.reduceToNat, true_implies, implies_true, List.append_eq, y_preref1_Line]
          (repeat' (first | ((with_reducible refine hK _ _ ?_); clear hK K) | (with_reducible apply And.intro) | (exact trivial) | (clear hK K; assumption) | (clear hK K; omega)))
          refine then_normal ?_
          rcases bsplit H with ⟨hp2, H⟩ | ⟨hp2, H⟩
          · try simp -implicitDefEqProofs only [goR, ↓upd_at, if_true, if_false, reduceCtorEq, ↓reduceIte, Nat.reduceEqDiff, Nat.reduceAdd, Nat.reduceSub, Nat.reduceMul, Nat.reduceBEq, Nat.reduceLT, Nat.reduceLeDiff, Int.reduceToNat, Int.reduceLE, Int.reduceLT, Int.reduceEq, Int.reduceNeg, ← List.map_drop, ← List.map_take, UInt8.reduceToNat, true_implies, implies_true, List.append_eq, y_preref1_Line] at hp2
            have hq2 := hp2
            try simp only [goT] at hq2
            refine w_condT (by simp -implicitDefEqProofs only [goR, ↓upd_at, if_true, if_false, reduceCtorEq, ↓reduceIte, Nat.reduceEqDiff, Nat.reduceAdd, Nat.reduceSub, Nat.reduceMul, Nat.reduceBEq, Nat.reduceLT, Nat.reduceLeDiff, Int.reduceToNat, Int.reduceLE, Int.reduceLT, Int.reduceEq, Int.reduceNeg, ← List.map_drop, ← List.map_take, UInt8.reduceToNat, true_implies, implies_true, List.append_eq, y_preref1_Line, hp2]) ?_
            refine w_region rfl (fun K hK => ?_)
            simp -implicitDefEqProofs only [goR, ↓upd_at, if_true, if_false, reduceCtorEq, ↓reduceIte, Nat.reduceEqDiff, Nat.reduceAdd, Nat.reduceSub, Nat.reduceMul, Nat.reduceBEq, Nat.reduceLT, Nat.reduceLeDiff, Int.reduceToNat, Int.reduceLE, Int.reduceLT, Int.reduceEq, Int.reduceNeg, ← List.map_drop, ← List.map_take, UInt8.reduceToNat, true_implies, implies_true, List.append_eq, y_preref1_Line]
            (repeat' (first | ((with_reducible refine hK _ _ ?_); clear hK K) | (with_reducible apply And.intro) | (exact trivial) | (clear hK K; assumption) | (clear hK K; omega)))
            refine block_normal ?_
            refine cut_at H ?_
            exact wk_ren ⟨[], []⟩ rfl rfl rfl rfl rfl (by simp -implicitDefEqProofs only [goW, goR, ↓upd_at, if_true, if_false, reduceCtorEq, ↓reduceIte, Nat.reduceEqDiff, Nat.reduceAdd, Nat.reduceSub, Nat.reduceMul, Nat.reduceBEq, Nat.reduceLT, Nat.reduceLeDiff, Int.reduceToNat, Int.reduceLE, Int.reduceLT, Int.reduceEq, Int.reduceNeg, ← List.map_drop, ← List.map_take, UInt8.reduceToNat, true_implies, implies_true, List.append_eq, y_preref1_Line]) (by simp -implicitDefEqProofs only [goW, goR, ↓upd_at, if_true, if_false, reduceCtorEq, ↓reduceIte, Nat.reduceEqDiff, Nat.reduceAdd, Nat.reduceSub, Nat.reduceMul, Nat.reduceBEq, Nat.reduceLT, Nat.reduceLeDiff, Int.reduceToNat, Int.reduceLE, Int.reduceLT, Int.reduceEq, Int.reduceNeg, ← List.map_drop, ← List.map_take, UInt8.reduceToNat, true_implies, implies_true, List.append_eq, y_preref1_Line]) (by simp -implicitDefEqProofs only [goW, goR, ↓upd_at, if_true, if_false, reduceCtorEq, ↓reduceIte, Nat.reduceEqDiff, Nat.reduceAdd, Nat.reduceSub, Nat.reduceMul, Nat.reduceBEq, Nat.reduceLT, Nat.reduceLeDiff, Int.reduceToNat, Int.reduceLE, Int.reduceLT, Int.reduceEq, Int.reduceNeg, ← List.map_drop, ← List.map_take, UInt8.reduceToNat, true_implies, implies_true, List.append_eq, y_preref1_Line]) rfl
          · try simp -implicitDefEqProofs only [goR, ↓upd_at, if_true, if_false, reduceCtorEq, ↓reduceIte, Nat.reduceEqDiff, Nat.reduceAdd, Nat.reduceSub, Nat.reduceMul, Nat.reduceBEq, Nat.reduceLT, Nat.reduceLeDiff, Int.reduceToNat, Int.reduceLE, Int.reduceLT, Int.reduceEq, Int.reduceNeg, ← List.map_drop, ← List.map_take, UInt8.reduceToNat, true_implies, implies_true, List.append_eq, y_preref1_Line] at hp2
            have hq2 := hp2
            try simp only [goT] at hq2
            refine w_condF (by simp -implicitDefEqProofs only [goR, ↓upd_at, if_true, if_false, reduceCtorEq, ↓reduceIte, Nat.reduceEqDiff, Nat.reduceAdd, Nat.reduceSub, Nat.reduceMul, Nat.reduceBEq, Nat.reduceLT, Nat.reduceLeDiff, Int.reduceToNat, Int.reduceLE, Int.reduceLT, Int.reduceEq, Int.reduceNeg, ← List.map_drop, ← List.map_take, UInt8.reduceToNat, true_implies, implies_true, List.append_eq, y_preref1_Line, hp2]) ?_
            refine w_skip ?_
            refine block_normal ?_
            refine cut_at H ?_
            exact wk_ren ⟨[], []⟩ rfl rfl rfl rfl rfl (by simp -implicitDefEqProofs only [goW, goR, ↓upd_at, if_true, if_false, reduceCtorEq, ↓reduceIte, Nat.reduceEqDiff, Nat.reduceAdd, Nat.reduceSub, Nat.reduceMul, Nat.reduceBEq, Nat.reduceLT, Nat.reduceLeDiff, Int.reduceToNat, Int.reduceLE, Int.reduceLT, Int.reduceEq, Int.reduceNeg, ← List.map_drop, ← List.map_take, UInt8.reduceToNat, true_implies, implies_true, List.append_eq, y_preref1_Line]) (by simp -implicitDefEqProofs only [goW, goR, ↓upd_at, if_true, if_false, reduceCtorEq, ↓reduceIte, Nat.reduceEqDiff, Nat.reduceAdd, Nat.reduceSub, Nat.reduceMul, Nat.reduceBEq, Nat.reduceLT, Nat.reduceLeDiff, Int.reduceToNat, Int.reduceLE, Int.reduceLT, Int.reduceEq, Int.reduceNeg, ← List.map_drop, ← List.map_take, UInt8.reduceToNat, true_implies, implies_true, List.append_eq, y_preref1_Line]) (by simp -implicitDefEqProofs only [goW, goR, ↓upd_at, if_true, if_false, reduceCtorEq, ↓reduceIte, Nat.reduceEqDiff, Nat.reduceAdd, Nat.reduceSub, Nat.reduceMul, Nat.reduceBEq, Nat.reduceLT, Nat.reduceLeDiff, Int.reduceToNat, Int.reduceLE, Int.reduceLT, Int.reduceEq, Int.reduceNeg, ← List.map_drop, ← List.map_take, UInt8.reduceToNat, true_implies, implies_true, List.append_eq, y_preref1_Line]) rfl
        · rintro x4 H
          rw [preref1_Line_j3] at H
          refine w_region rfl (fun K hK => ?_)
          simp -implicitDefEqProofs only [goR, ↓upd_at, if_true, if_false, reduceCtorEq, ↓reduceIte, Nat.reduceEqDiff, Nat.reduceAdd, Nat.reduceSub, Nat.reduceMul, Nat.reduceBEq, Nat.reduceLT, Nat.reduceLeDiff, Int.reduceToNat, Int.reduceLE, Int.reduceLT, Int.reduceEq, Int.reduceNeg, ← List.map_drop, ← List.map_take, UInt8.reduceToNat, true_implies, implies_true, List.append_eq, y_preref1_Line]
          (repeat' (first | ((with_reducible refine hK _ _ ?_); clear hK K) | (with_reducible apply And.intro) | (exact trivial) | (clear hK K; assumption) | (clear hK K; omega)))
          refine round_at (inl_fin H hF1) ?_
          exact wk_ren ⟨[], []⟩ rfl rfl rfl rfl rfl (by simp -implicitDefEqProofs only [goW, goR, ↓upd_at, if_true, if_false, reduceCtorEq, ↓reduceIte, Nat.reduceEqDiff, Nat.reduceAdd, Nat.reduceSub, Nat.reduceMul, Nat.reduceBEq, Nat.reduceLT, Nat.reduceLeDiff, Int.reduceToNat, Int.reduceLE, Int.reduceLT, Int.reduceEq, Int.reduceNeg, ← List.map_drop, ← List.map_take, UInt8.reduceToNat, true_implies, implies_true, List.append_eq, y_preref1_Line]) (by simp -implicitDefEqProofs only [goW, goR, ↓upd_at, if_true, if_false, reduceCtorEq, ↓reduceIte, Nat.reduceEqDiff, Nat.reduceAdd, Nat.reduceSub, Nat.reduceMul, Nat.reduceBEq, Nat.reduceLT, Nat.reduceLeDiff, Int.reduceToNat, Int.reduceLE, Int.reduceLT, Int.reduceEq, Int.reduceNeg, ← List.map_drop, ← List.map_take, UInt8.reduceToNat, true_implies, implies_true, List.append_eq, y_preref1_Line]) (by simp -implicitDefEqProofs only [goW, goR, ↓upd_at, if_true, if_false, reduceCtorEq, ↓reduceIte, Nat.reduceEqDiff, Nat.reduceAdd, Nat.reduceSub, Nat.reduceMul, Nat.reduceBEq, Nat.reduceLT, Nat.reduceLeDiff, Int.reduceToNat, Int.reduceLE, Int.reduceLT, Int.reduceEq, Int.reduceNeg, ← List.map_drop, ← List.map_take, UInt8.reduceToNat, true_implies, implies_true, List.append_eq, y_preref1_Line]) rfl
      · try simp -implicitDefEqProofs only [goR, ↓upd_at, if_true, if_false, reduceCtorEq, ↓reduceIte, Nat.reduceEqDiff, Nat.reduceAdd, Nat.reduceSub, Nat.reduceMul, Nat.reduceBEq, Nat.reduceLT, Nat.reduceLeDiff, Int.reduceToNat, Int.reduceLE, Int.reduceLT, Int.reduceEq, Int.reduceNeg, ← List.map_drop, ← List.map_take, UInt8.reduceToNat, true_implies, implies_true, List.append_eq, y_preref1_Line] at hp1
        have hq1 := hp1
        try simp only [goT] at hq1
        refine w_condF (by simp -implicitDefEqProofs only [goR, ↓upd_at, if_true, if_false, reduceCtorEq, ↓reduceIte, Nat.reduceEqDiff, Nat.reduceAdd, Nat.reduceSub, Nat.reduceMul, Nat.reduceBEq, Nat.reduceLT, Nat.reduceLeDiff, Int.reduceToNat, Int.reduceLE, Int.reduceLT, Int.reduceEq, Int.reduceNeg, ← List.map_drop, ← List.map_take, UInt8.reduceToNat, true_implies, implies_true, List.append_eq, y_preref1_Line, hp1]) ?_
        refine w_exit ?_
        refine then_exit ?_
        replace H := inrO_fin H hF1
        refine round_exit ?_
        refine block_exit ?_
        refine then_normal ?_
        refine w_seq ?_
        refine w_region rfl (fun K hK => ?_)
        simp -implicitDefEqProofs only [goR, ↓upd_at, if_true, if_false, reduceCtorEq, ↓reduceIte, Nat.reduceEqDiff, Nat.reduceAdd, Nat.reduceSub, Nat.reduceMul, Nat.reduceBEq, Nat.reduceLT, Nat.reduceLeDiff, Int.reduceToNat, Int.reduceLE, Int.reduceLT, Int.reduceEq, Int.reduceNeg, ← List.map_drop, ← List.map_take, UInt8.reduceToNat, true_implies, implies_true, List.append_eq, y_preref1_Line]
        (repeat' (first | ((with_reducible refine hK _ _ ?_); clear hK K) | (with_reducible apply And.intro) | (exact trivial) | (clear hK K; assumption) | (clear hK K; omega)))
        refine then_normal ?_
        refine w_ret ?_
        obtain rfl := Option.some.inj H
        simp -implicitDefEqProofs only [goQ, Try.results18, goR, ↓upd_at, if_true, if_false, reduceCtorEq, ↓reduceIte, Nat.reduceEqDiff, Nat.reduceAdd, Nat.reduceSub, Nat.reduceMul, Nat.reduceBEq, Nat.reduceLT, Nat.reduceLeDiff, Int.reduceToNat, Int.reduceLE, Int.reduceLT, Int.reduceEq, Int.reduceNeg, ← List.map_drop, ← List.map_take, UInt8.reduceToNat, true_implies, implies_true, List.append_eq, y_preref1_Line]
theorem preref1_Line_c (a0 : List UInt8) (a1 : Int) (r : Int) (H : preref1_Line a0 a1 = some r) : pf_preref1_Line.pre [dS a0, dI a1] = True ∧ pf_preref1_Line.val [dS a0, dI a1] = dI r :=
  ⟨PF.of_pre (enc := c_preref1_Line) (f := fun a => preref1_Line a.1 a.2) (e := e_preref1_Line) (a := (a0, a1)) H, PF.of_val (enc := c_preref1_Line) (f := fun a => preref1_Line a.1 a.2) (e := e_preref1_Line) (a := (a0, a1)) c_preref1_Line_inj H⟩
noncomputable def splice_Where_j1 (a0 : Spliced) (a1 : Int) : Bool → Option Int
  | x1 => if x1 = true then some (-1) else if (0 : Int) ≤ a1 ∧ a1.toNat < a0.At.length then some (a0.At.getD a1.toNat default) else none
noncomputable def splice_Where (a0 : Spliced) (a1 : Int) : Option Int :=
  if (ltI a1 0) = true then splice_Where_j1 a0 a1 true else splice_Where_j1 a0 a1 (leI (a0.At.length : Int) a1)
def e_splice_Where : Int → D := fun r => dI r
def c_splice_Where : Spliced × Int → List D := fun a => [d_Spliced a.1, dI a.2]
theorem c_splice_Where_inj : Inj c_splice_Where := by rintro ⟨a0, a1⟩ ⟨b0, b1⟩ h; simp only [c_splice_Where, List.map_cons, List.map_nil, List.cons.injEq, and_true] at h; obtain ⟨h0, h1⟩ := h; obtain rfl := (d_Spliced_sinj _ _) h0; obtain rfl := (dI_inj _ _) h1; rfl
noncomputable def pf_splice_Where : PF := PF.of c_splice_Where (fun a => splice_Where a.1 a.2) e_splice_Where
noncomputable def t_splice_Where : Tab := tabOf Try.prog [] []
theorem t_splice_Where_ok : TabOk t_splice_Where := tabOf_ok (by exact trivial) (by exact trivial)
theorem y_splice_Where : (((((type_of% @tAgg_22) ∧ (type_of% @tAgg_3)) ∧ ((type_of% @tBytes_3) ∧ ((type_of% @tCS_22) ∧ (type_of% @tCS_3)))) ∧ (((type_of% @tElem_22) ∧ (type_of% @tFld_24_1)) ∧ ((type_of% @tKnown_22) ∧ ((type_of% @tKnown_3) ∧ (type_of% @tOff_24_1))))) ∧ ((((type_of% @tSize_22) ∧ (type_of% @tSize_3)) ∧ ((type_of% @tSlice_22) ∧ ((type_of% @tStruct_24_1) ∧ (type_of% @tZ_3)))) ∧ (((type_of% @tZok_3) ∧ (type_of% @d_Spliced.eq_1)) ∧ ((type_of% @t_splice_Where.eq_1) ∧ ((type_of% @c_splice_Where.eq_1) ∧ (type_of% @e_splice_Where.eq_1)))))) := ⟨⟨⟨⟨@tAgg_22, @tAgg_3⟩, ⟨@tBytes_3, ⟨@tCS_22, @tCS_3⟩⟩⟩, ⟨⟨@tElem_22, @tFld_24_1⟩, ⟨@tKnown_22, ⟨@tKnown_3, @tOff_24_1⟩⟩⟩⟩, ⟨⟨⟨@tSize_22, @tSize_3⟩, ⟨@tSlice_22, ⟨@tStruct_24_1, @tZ_3⟩⟩⟩, ⟨⟨@tZok_3, @d_Spliced.eq_1⟩, ⟨@t_splice_Where.eq_1, ⟨@c_splice_Where.eq_1, @e_splice_Where.eq_1⟩⟩⟩⟩⟩
set_option maxRecDepth 100000 in
set_option maxHeartbeats 4000000 in
theorem splice_Where_ok : PureOk Try.prog 19 pf_splice_Where := by
  refine pure_of (t := t_splice_Where) (pure := fun n => [].contains n) c_splice_Where_inj rfl t_splice_Where_ok mixed (fun n hn => tabOf_pure rfl n hn) Try.func19 rfl (by kernel_rfl) (fun a => by simp [c_splice_Where, Try.ntmps19]) ?_
  rintro ⟨a0, a1⟩ out H
  simp only [splice_Where] at H
  show aC _ _ (sig0 (List.map (fun d => AV.c (C.d d)) (c_splice_Where (a0, a1)))) _ _
  refine w_seq ?_
  refine w_region rfl (fun K hK => ?_)
  simp -implicitDefEqProofs only [goR, ↓upd_at, if_true, if_false, reduceCtorEq, ↓reduceIte, Nat.reduceEqDiff, Nat.reduceAdd, Nat.reduceSub, Nat.reduceMul, Nat.reduceBEq, Nat.reduceLT, Nat.reduceLeDiff, Int.reduceToNat, Int.reduceLE, Int.reduceLT, Int.reduceEq, Int.reduceNeg, ← List.map_drop, ← List.map_take, UInt8.reduceToNat, true_implies, implies_true, List.append_eq, y_splice_Where]
  (repeat' (first | ((with_reducible refine hK _ _ ?_); clear hK K) | (with_reducible apply And.intro) | (exact trivial) | (clear hK K; assumption) | (clear hK K; omega)))
  refine then_normal ?_
  refine w_seq ?_
  refine w_cut (splice_Where_j1 a0 a1) (fun s => [(1, .c (.d (.v (.int .i64 a1)))), (2, .c (.pt 1 0)), (13, .c (.d (.v (.bool s))))]) (fun s => [[.d (.v (str a0.Text)), .d (.sl 1 (List.map dI a0.At))]]) [] out ?_ ?_
  · rcases bsplit H with ⟨hp2, H⟩ | ⟨hp2, H⟩
    · try simp -implicitDefEqProofs only [goR, ↓upd_at, if_true, if_false, reduceCtorEq, ↓reduceIte, Nat.reduceEqDiff, Nat.reduceAdd, Nat.reduceSub, Nat.reduceMul, Nat.reduceBEq, Nat.reduceLT, Nat.reduceLeDiff, Int.reduceToNat, Int.reduceLE, Int.reduceLT, Int.reduceEq, Int.reduceNeg, ← List.map_drop, ← List.map_take, UInt8.reduceToNat, true_implies, implies_true, List.append_eq, y_splice_Where] at hp2
      have hq2 := hp2
      try simp only [goT] at hq2
      refine w_region rfl (fun K hK => ?_)
      simp -implicitDefEqProofs only [goR, ↓upd_at, if_true, if_false, reduceCtorEq, ↓reduceIte, Nat.reduceEqDiff, Nat.reduceAdd, Nat.reduceSub, Nat.reduceMul, Nat.reduceBEq, Nat.reduceLT, Nat.reduceLeDiff, Int.reduceToNat, Int.reduceLE, Int.reduceLT, Int.reduceEq, Int.reduceNeg, ← List.map_drop, ← List.map_take, UInt8.reduceToNat, true_implies, implies_true, List.append_eq, y_splice_Where, hp2]
      (repeat' (first | ((with_reducible refine hK _ _ ?_); clear hK K) | (with_reducible apply And.intro) | (exact trivial) | (clear hK K; assumption) | (clear hK K; omega)))
      refine cut_at H ?_
      exact wk_ren ⟨[1], []⟩ rfl rfl rfl rfl rfl (by simp -implicitDefEqProofs only [goW, goR, ↓upd_at, if_true, if_false, reduceCtorEq, ↓reduceIte, Nat.reduceEqDiff, Nat.reduceAdd, Nat.reduceSub, Nat.reduceMul, Nat.reduceBEq, Nat.reduceLT, Nat.reduceLeDiff, Int.reduceToNat, Int.reduceLE, Int.reduceLT, Int.reduceEq, Int.reduceNeg, ← List.map_drop, ← List.map_take, UInt8.reduceToNat, true_implies, implies_true, List.append_eq, y_splice_Where]) (by simp -implicitDefEqProofs only [goW, goR, ↓upd_at, if_true, if_false, reduceCtorEq, ↓reduceIte, Nat.reduceEqDiff, Nat.reduceAdd, Nat.reduceSub, Nat.reduceMul, Nat.reduceBEq, Nat.reduceLT, Nat.reduceLeDiff, Int.reduceToNat, Int.reduceLE, Int.reduceLT, Int.reduceEq, Int.reduceNeg, ← List.map_drop, ← List.map_take, UInt8.reduceToNat, true_implies, implies_true, List.append_eq, y_splice_Where]) (by simp -implicitDefEqProofs only [goW, goR, ↓upd_at, if_true, if_false, reduceCtorEq, ↓reduceIte, Nat.reduceEqDiff, Nat.reduceAdd, Nat.reduceSub, Nat.reduceMul, Nat.reduceBEq, Nat.reduceLT, Nat.reduceLeDiff, Int.reduceToNat, Int.reduceLE, Int.reduceLT, Int.reduceEq, Int.reduceNeg, ← List.map_drop, ← List.map_take, UInt8.reduceToNat, true_implies, implies_true, List.append_eq, y_splice_Where]) rfl
    · try simp -implicitDefEqProofs only [goR, ↓upd_at, if_true, if_false, reduceCtorEq, ↓reduceIte, Nat.reduceEqDiff, Nat.reduceAdd, Nat.reduceSub, Nat.reduceMul, Nat.reduceBEq, Nat.reduceLT, Nat.reduceLeDiff, Int.reduceToNat, Int.reduceLE, Int.reduceLT, Int.reduceEq, Int.reduceNeg, ← List.map_drop, ← List.map_take, UInt8.reduceToNat, true_implies, implies_true, List.append_eq, y_splice_Where] at hp2
      have hq2 := hp2
      try simp only [goT] at hq2
      refine w_region rfl (fun K hK => ?_)
      simp -implicitDefEqProofs only [goR, ↓upd_at, if_true, if_false, reduceCtorEq, ↓reduceIte, Nat.reduceEqDiff, Nat.reduceAdd, Nat.reduceSub, Nat.reduceMul, Nat.reduceBEq, Nat.reduceLT, Nat.reduceLeDiff, Int.reduceToNat, Int.reduceLE, Int.reduceLT, Int.reduceEq, Int.reduceNeg, ← List.map_drop, ← List.map_take, UInt8.reduceToNat, true_implies, implies_true, List.append_eq, y_splice_Where, hp2]
      (repeat' (first | ((with_reducible refine hK _ _ ?_); clear hK K) | (with_reducible apply And.intro) | (exact trivial) | (clear hK K; assumption) | (clear hK K; omega)))
      refine cut_at H ?_
      exact wk_ren ⟨[1], []⟩ rfl rfl rfl rfl rfl (by simp -implicitDefEqProofs only [goW, goR, ↓upd_at, if_true, if_false, reduceCtorEq, ↓reduceIte, Nat.reduceEqDiff, Nat.reduceAdd, Nat.reduceSub, Nat.reduceMul, Nat.reduceBEq, Nat.reduceLT, Nat.reduceLeDiff, Int.reduceToNat, Int.reduceLE, Int.reduceLT, Int.reduceEq, Int.reduceNeg, ← List.map_drop, ← List.map_take, UInt8.reduceToNat, true_implies, implies_true, List.append_eq, y_splice_Where]) (by simp -implicitDefEqProofs only [goW, goR, ↓upd_at, if_true, if_false, reduceCtorEq, ↓reduceIte, Nat.reduceEqDiff, Nat.reduceAdd, Nat.reduceSub, Nat.reduceMul, Nat.reduceBEq, Nat.reduceLT, Nat.reduceLeDiff, Int.reduceToNat, Int.reduceLE, Int.reduceLT, Int.reduceEq, Int.reduceNeg, ← List.map_drop, ← List.map_take, UInt8.reduceToNat, true_implies, implies_true, List.append_eq, y_splice_Where]) (by simp -implicitDefEqProofs only [goW, goR, ↓upd_at, if_true, if_false, reduceCtorEq, ↓reduceIte, Nat.reduceEqDiff, Nat.reduceAdd, Nat.reduceSub, Nat.reduceMul, Nat.reduceBEq, Nat.reduceLT, Nat.reduceLeDiff, Int.reduceToNat, Int.reduceLE, Int.reduceLT, Int.reduceEq, Int.reduceNeg, ← List.map_drop, ← List.map_take, UInt8.reduceToNat, true_implies, implies_true, List.append_eq, y_splice_Where]) rfl
  · rintro x1 H
    rw [splice_Where_j1] at H
    rcases bsplit H with ⟨hp1, H⟩ | ⟨hp1, H⟩
    · try simp -implicitDefEqProofs only [goR, ↓upd_at, if_true, if_false, reduceCtorEq, ↓reduceIte, Nat.reduceEqDiff, Nat.reduceAdd, Nat.reduceSub, Nat.reduceMul, Nat.reduceBEq, Nat.reduceLT, Nat.reduceLeDiff, Int.reduceToNat, Int.reduceLE, Int.reduceLT, Int.reduceEq, Int.reduceNeg, ← List.map_drop, ← List.map_take, UInt8.reduceToNat, true_implies, implies_true, List.append_eq, y_splice_Where] at hp1
      have hq1 := hp1
      try simp only [goT] at hq1
      refine w_condT (by simp -implicitDefEqProofs only [goR, ↓upd_at, if_true, if_false, reduceCtorEq, ↓reduceIte, Nat.reduceEqDiff, Nat.reduceAdd, Nat.reduceSub, Nat.reduceMul, Nat.reduceBEq, Nat.reduceLT, Nat.reduceLeDiff, Int.reduceToNat, Int.reduceLE, Int.reduceLT, Int.reduceEq, Int.reduceNeg, ← List.map_drop, ← List.map_take, UInt8.reduceToNat, true_implies, implies_true, List.append_eq, y_splice_Where, hp1]) ?_
      refine w_seq ?_
      refine w_region rfl (fun K hK => ?_)
      simp -implicitDefEqProofs only [goR, ↓upd_at, if_true, if_false, reduceCtorEq, ↓reduceIte, Nat.reduceEqDiff, Nat.reduceAdd, Nat.reduceSub, Nat.reduceMul, Nat.reduceBEq, Nat.reduceLT, Nat.reduceLeDiff, Int.reduceToNat, Int.reduceLE, Int.reduceLT, Int.reduceEq, Int.reduceNeg, ← List.map_drop, ← List.map_take, UInt8.reduceToNat, true_implies, implies_true, List.append_eq, y_splice_Where]
      (repeat' (first | ((with_reducible refine hK _ _ ?_); clear hK K) | (with_reducible apply And.intro) | (exact trivial) | (clear hK K; assumption) | (clear hK K; omega)))
      refine then_normal ?_
      refine w_ret ?_
      refine then_ret ?_
      obtain rfl := Option.some.inj H
      simp -implicitDefEqProofs only [goQ, Try.results19, goR, ↓upd_at, if_true, if_false, reduceCtorEq, ↓reduceIte, Nat.reduceEqDiff, Nat.reduceAdd, Nat.reduceSub, Nat.reduceMul, Nat.reduceBEq, Nat.reduceLT, Nat.reduceLeDiff, Int.reduceToNat, Int.reduceLE, Int.reduceLT, Int.reduceEq, Int.reduceNeg, ← List.map_drop, ← List.map_take, UInt8.reduceToNat, true_implies, implies_true, List.append_eq, y_splice_Where]
    · try simp -implicitDefEqProofs only [goR, ↓upd_at, if_true, if_false, reduceCtorEq, ↓reduceIte, Nat.reduceEqDiff, Nat.reduceAdd, Nat.reduceSub, Nat.reduceMul, Nat.reduceBEq, Nat.reduceLT, Nat.reduceLeDiff, Int.reduceToNat, Int.reduceLE, Int.reduceLT, Int.reduceEq, Int.reduceNeg, ← List.map_drop, ← List.map_take, UInt8.reduceToNat, true_implies, implies_true, List.append_eq, y_splice_Where] at hp1
      have hq1 := hp1
      try simp only [goT] at hq1
      refine w_condF (by simp -implicitDefEqProofs only [goR, ↓upd_at, if_true, if_false, reduceCtorEq, ↓reduceIte, Nat.reduceEqDiff, Nat.reduceAdd, Nat.reduceSub, Nat.reduceMul, Nat.reduceBEq, Nat.reduceLT, Nat.reduceLeDiff, Int.reduceToNat, Int.reduceLE, Int.reduceLT, Int.reduceEq, Int.reduceNeg, ← List.map_drop, ← List.map_take, UInt8.reduceToNat, true_implies, implies_true, List.append_eq, y_splice_Where, hp1]) ?_
      refine w_skip ?_
      refine then_normal ?_
      refine w_seq ?_
      obtain ⟨hg1, H⟩ := gsplit H
      have g1 := map_getD dI a0.At a1.toNat default default (by omega)
      refine w_region rfl (fun K hK => ?_)
      simp -implicitDefEqProofs only [goR, ↓upd_at, if_true, if_false, reduceCtorEq, ↓reduceIte, Nat.reduceEqDiff, Nat.reduceAdd, Nat.reduceSub, Nat.reduceMul, Nat.reduceBEq, Nat.reduceLT, Nat.reduceLeDiff, Int.reduceToNat, Int.reduceLE, Int.reduceLT, Int.reduceEq, Int.reduceNeg, ← List.map_drop, ← List.map_take, UInt8.reduceToNat, true_implies, implies_true, List.append_eq, y_splice_Where, g1]
      (repeat' (first | ((with_reducible refine hK _ _ ?_); clear hK K) | (with_reducible apply And.intro) | (exact trivial) | (clear hK K; assumption) | (clear hK K; omega)))
      refine then_normal ?_
      refine w_ret ?_
      obtain rfl := Option.some.inj H
      simp -implicitDefEqProofs only [goQ, Try.results19, goR, ↓upd_at, if_true, if_false, reduceCtorEq, ↓reduceIte, Nat.reduceEqDiff, Nat.reduceAdd, Nat.reduceSub, Nat.reduceMul, Nat.reduceBEq, Nat.reduceLT, Nat.reduceLeDiff, Int.reduceToNat, Int.reduceLE, Int.reduceLT, Int.reduceEq, Int.reduceNeg, ← List.map_drop, ← List.map_take, UInt8.reduceToNat, true_implies, implies_true, List.append_eq, y_splice_Where]
theorem splice_Where_c (a0 : Spliced) (a1 : Int) (r : Int) (H : splice_Where a0 a1 = some r) : pf_splice_Where.pre [d_Spliced a0, dI a1] = True ∧ pf_splice_Where.val [d_Spliced a0, dI a1] = dI r :=
  ⟨PF.of_pre (enc := c_splice_Where) (f := fun a => splice_Where a.1 a.2) (e := e_splice_Where) (a := (a0, a1)) H, PF.of_val (enc := c_splice_Where) (f := fun a => splice_Where a.1 a.2) (e := e_splice_Where) (a := (a0, a1)) c_splice_Where_inj H⟩
noncomputable def preref1_Splice_j2 (x2 : List UInt8) : (Int × (List UInt8) × (List Int)) → Option ((Int × (List UInt8) × (List UInt8) × (List Int)) ⊕ Spliced)
  | (x5, x6, x7) => some (.inl (IntKind.i64.wrap (x5 + 1), x2, x6, x7))
noncomputable def preref1_Splice_j5 (x1 : Int) (x2 : List UInt8) (x3 : List UInt8) (x4 : List Int) (x8 : List UInt8) : Bool → Option ((Int × (List UInt8) × (List UInt8) × (List Int)) ⊕ Spliced)
  | x11 => if x11 = true then preref1_Splice_j2 x2 (x1, x3, x4) else if (0 : Int) ≤ 0 ∧ 0 ≤ 1 ∧ 1 ≤ (x8.length : Int) then if x3.length + (List.take 1 x8).length ≤ 9223372036854775807 then if (x4.length + [x1].length) * 8 ≤ 140737488355328 then preref1_Splice_j2 x2 (x1, x3 ++ (List.take 1 x8), x4 ++ [x1]) else none else none else none
noncomputable def preref1_Splice_j4 (x1 : Int) (x2 : List UInt8) (x3 : List UInt8) (x4 : List Int) (x8 : List UInt8) : Bool → Option ((Int × (List UInt8) × (List UInt8) × (List Int)) ⊕ Spliced)
  | x10 => if x10 = true then preref1_Splice_j2 x2 (IntKind.i64.wrap (x1 + 2), x3, x4) else if (ltI 1 (x8.length : Int)) = true then if 0 < x8.length then if (eqI ((x8.getD 0 0).toNat : Int) 13) = true then if 1 < x8.length then preref1_Splice_j5 x1 x2 x3 x4 x8 (eqI ((x8.getD 1 0).toNat : Int) 10) else none else preref1_Splice_j5 x1 x2 x3 x4 x8 false else none else preref1_Splice_j5 x1 x2 x3 x4 x8 false
noncomputable def preref1_Splice_j3 (x1 : Int) (x2 : List UInt8) (x3 : List UInt8) (x4 : List Int) : ((List UInt8) × Bool) → Option ((Int × (List UInt8) × (List UInt8) × (List Int)) ⊕ Spliced)
  | (x8, x9) => if x9 = true then preref1_Splice_j2 x2 (IntKind.i64.wrap (x1 + 1), x3, x4) else if (ltI 2 (x8.length : Int)) = true then if 0 < x8.length then if (eqI ((x8.getD 0 0).toNat : Int) 92) = true then if 1 < x8.length then if (eqI ((x8.getD 1 0).toNat : Int) 13) = true then if 2 < x8.length then preref1_Splice_j4 x1 x2 x3 x4 x8 (eqI ((x8.getD 2 0).toNat : Int) 10) else none else preref1_Splice_j4 x1 x2 x3 x4 x8 false else none else preref1_Splice_j4 x1 x2 x3 x4 x8 false else none else preref1_Splice_j4 x1 x2 x3 x4 x8 false
noncomputable def preref1_Splice_b1 (a0 : List UInt8) : (Int × (List UInt8) × (List UInt8) × (List Int)) → Option ((Int × (List UInt8) × (List UInt8) × (List Int)) ⊕ Spliced)
  | (x1, x2, x3, x4) => if (ltI x1 (a0.length : Int)) = true then if (0 : Int) ≤ x1 ∧ x1 ≤ (a0.length : Int) ∧ (a0.length : Int) ≤ (a0.length : Int) then if (ltI 1 ((List.drop x1.toNat a0).length : Int)) = true then if 0 < (List.drop x1.toNat a0).length then if (eqI (((List.drop x1.toNat a0).getD 0 0).toNat : Int) 92) = true then if 1 < (List.drop x1.toNat a0).length then preref1_Splice_j3 x1 x2 x3 x4 (List.drop x1.toNat a0, eqI (((List.drop x1.toNat a0).getD 1 0).toNat : Int) 10) else none else preref1_Splice_j3 x1 x2 x3 x4 (List.drop x1.toNat a0, false) else none else preref1_Splice_j3 x1 x2 x3 x4 (List.drop x1.toNat a0, false) else none else inrO (if (x4.length + [(a0.length : Int)].length) * 8 ≤ 140737488355328 then some (⟨x3, x4 ++ [(a0.length : Int)]⟩ : Spliced) else none)
noncomputable def preref1_Splice (a0 : List UInt8) : Option Spliced :=
  loopO (preref1_Splice_b1 a0) (0, [], [], ([] : List Int))
def e_preref1_Splice : Spliced → D := fun r => d_Spliced r
def c_preref1_Splice : (List UInt8) → List D := fun a => [dS a]
theorem c_preref1_Splice_inj : Inj c_preref1_Splice := by intro a b h; simp only [c_preref1_Splice, List.map_cons, List.map_nil, List.cons.injEq, and_true] at h; exact (dS_inj _ _) h
noncomputable def pf_preref1_Splice : PF := PF.of c_preref1_Splice (fun a => preref1_Splice a) e_preref1_Splice
noncomputable def t_preref1_Splice : Tab := tabOf Try.prog [] []
theorem t_preref1_Splice_ok : TabOk t_preref1_Splice := tabOf_ok (by exact trivial) (by exact trivial)
theorem y_preref1_Splice : ((((((type_of% @Try.underlying9) ∧ (type_of% @tAgg_22)) ∧ ((type_of% @tAgg_24) ∧ (type_of% @tAgg_3))) ∧ (((type_of% @tAgg_9) ∧ (type_of% @tBytes_3)) ∧ ((type_of% @tCS_22) ∧ (type_of% @tCS_24)))) ∧ ((((type_of% @tCS_3) ∧ (type_of% @tCS_9)) ∧ ((type_of% @tElem_22) ∧ (type_of% @tFld_24_0))) ∧ (((type_of% @tFld_24_1) ∧ (type_of% @tKnown_22)) ∧ ((type_of% @tKnown_24) ∧ ((type_of% @tKnown_3) ∧ (type_of% @tKnown_9)))))) ∧ (((((type_of% @tOff_24_0) ∧ (type_of% @tOff_24_1)) ∧ ((type_of% @tSize_22) ∧ (type_of% @tSize_24))) ∧ (((type_of% @tSize_3) ∧ (type_of% @tSize_9)) ∧ ((type_of% @tSlice_22) ∧ (type_of% @tStruct_24_0)))) ∧ ((((type_of% @tStruct_24_1) ∧ (type_of% @tZ_24)) ∧ ((type_of% @tZ_3) ∧ (type_of% @tZok_24))) ∧ (((type_of% @tZok_3) ∧ (type_of% @d_Spliced.eq_1)) ∧ ((type_of% @t_preref1_Splice.eq_1) ∧ ((type_of% @c_preref1_Splice.eq_1) ∧ (type_of% @e_preref1_Splice.eq_1))))))) := ⟨⟨⟨⟨⟨@Try.underlying9, @tAgg_22⟩, ⟨@tAgg_24, @tAgg_3⟩⟩, ⟨⟨@tAgg_9, @tBytes_3⟩, ⟨@tCS_22, @tCS_24⟩⟩⟩, ⟨⟨⟨@tCS_3, @tCS_9⟩, ⟨@tElem_22, @tFld_24_0⟩⟩, ⟨⟨@tFld_24_1, @tKnown_22⟩, ⟨@tKnown_24, ⟨@tKnown_3, @tKnown_9⟩⟩⟩⟩⟩, ⟨⟨⟨⟨@tOff_24_0, @tOff_24_1⟩, ⟨@tSize_22, @tSize_24⟩⟩, ⟨⟨@tSize_3, @tSize_9⟩, ⟨@tSlice_22, @tStruct_24_0⟩⟩⟩, ⟨⟨⟨@tStruct_24_1, @tZ_24⟩, ⟨@tZ_3, @tZok_24⟩⟩, ⟨⟨@tZok_3, @d_Spliced.eq_1⟩, ⟨@t_preref1_Splice.eq_1, ⟨@c_preref1_Splice.eq_1, @e_preref1_Splice.eq_1⟩⟩⟩⟩⟩⟩
set_option maxRecDepth 100000 in
set_option maxHeartbeats 4000000 in
theorem preref1_Splice_ok : PureOk Try.prog 16 pf_preref1_Splice := by
  refine pure_of (t := t_preref1_Splice) (pure := fun n => [].contains n) c_preref1_Splice_inj rfl t_preref1_Splice_ok mixed (fun n hn => tabOf_pure rfl n hn) Try.func16 rfl (by kernel_rfl) (fun a => by simp [c_preref1_Splice, Try.ntmps16]) ?_
  rintro a0 out H
  simp only [preref1_Splice] at H
  show aC _ _ (sig0 (List.map (fun d => AV.c (C.d d)) (c_preref1_Splice a0))) _ _
  refine w_seq ?_
  refine w_region rfl (fun K hK => ?_)
  simp -implicitDefEqProofs only [goR, ↓upd_at, if_true, if_false, reduceCtorEq, ↓reduceIte, Nat.reduceEqDiff, Nat.reduceAdd, Nat.reduceSub, Nat.reduceMul, Nat.reduceBEq, Nat.reduceLT, Nat.reduceLeDiff, Int.reduceToNat, Int.reduceLE, Int.reduceLT, Int.reduceEq, Int.reduceNeg, ← List.map_drop, ← List.map_take, UInt8.reduceToNat, true_implies, implies_true, List.append_eq, y_preref1_Splice]
  (repeat' (first | ((with_reducible refine hK _ _ ?_); clear hK K) | (with_reducible apply And.intro) | (exact trivial) | (clear hK K; assumption) | (clear hK K; omega)))
  refine then_normal ?_
  refine w_seq ?_
  refine w_region rfl (fun K hK => ?_)
  simp -implicitDefEqProofs only [goR, ↓upd_at, if_true, if_false, reduceCtorEq, ↓reduceIte, Nat.reduceEqDiff, Nat.reduceAdd, Nat.reduceSub, Nat.reduceMul, Nat.reduceBEq, Nat.reduceLT, Nat.reduceLeDiff, Int.reduceToNat, Int.reduceLE, Int.reduceLT, Int.reduceEq, Int.reduceNeg, ← List.map_drop, ← List.map_take, UInt8.reduceToNat, true_implies, implies_true, List.append_eq, y_preref1_Splice]
  (repeat' (first | ((with_reducible refine hK _ _ ?_); clear hK K) | (with_reducible apply And.intro) | (exact trivial) | (clear hK K; assumption) | (clear hK K; omega)))
  refine then_normal ?_
  refine w_seq ?_
  refine w_seq ?_
  refine w_region rfl (fun K hK => ?_)
  simp -implicitDefEqProofs only [goR, ↓upd_at, if_true, if_false, reduceCtorEq, ↓reduceIte, Nat.reduceEqDiff, Nat.reduceAdd, Nat.reduceSub, Nat.reduceMul, Nat.reduceBEq, Nat.reduceLT, Nat.reduceLeDiff, Int.reduceToNat, Int.reduceLE, Int.reduceLT, Int.reduceEq, Int.reduceNeg, ← List.map_drop, ← List.map_take, UInt8.reduceToNat, true_implies, implies_true, List.append_eq, y_preref1_Splice]
  (repeat' (first | ((with_reducible refine hK _ _ ?_); clear hK K) | (with_reducible apply And.intro) | (exact trivial) | (clear hK K; assumption) | (clear hK K; omega)))
  refine then_normal ?_
  refine w_block ?_
  refine w_loop (preref1_Splice_b1 a0) (fun s => [(0, .c (.d (.v (str a0)))), (2, .c (.pt 1 0)), (3, .c (.pt 2 0)), (4, .c (.d (.v (.int .i64 s.1))))]) (fun s => [[.d (.v (str s.2.1)), .sl 1 [] 0], [.d (.v (str s.2.2.1)), .sl 1 (List.map dI s.2.2.2) 3]]) [3] H ?_ ?_
  · exact wk_ren ⟨[1, 2], [0]⟩ rfl rfl rfl rfl rfl (by simp -implicitDefEqProofs only [goW, goR, ↓upd_at, if_true, if_false, reduceCtorEq, ↓reduceIte, Nat.reduceEqDiff, Nat.reduceAdd, Nat.reduceSub, Nat.reduceMul, Nat.reduceBEq, Nat.reduceLT, Nat.reduceLeDiff, Int.reduceToNat, Int.reduceLE, Int.reduceLT, Int.reduceEq, Int.reduceNeg, ← List.map_drop, ← List.map_take, UInt8.reduceToNat, true_implies, implies_true, List.append_eq, y_preref1_Splice]) (by simp -implicitDefEqProofs only [goW, goR, ↓upd_at, if_true, if_false, reduceCtorEq, ↓reduceIte, Nat.reduceEqDiff, Nat.reduceAdd, Nat.reduceSub, Nat.reduceMul, Nat.reduceBEq, Nat.reduceLT, Nat.reduceLeDiff, Int.reduceToNat, Int.reduceLE, Int.reduceLT, Int.reduceEq, Int.reduceNeg, ← List.map_drop, ← List.map_take, UInt8.reduceToNat, true_implies, implies_true, List.append_eq, y_preref1_Splice]) (by simp -implicitDefEqProofs only [goW, goR, ↓upd_at, if_true, if_false, reduceCtorEq, ↓reduceIte, Nat.reduceEqDiff, Nat.reduceAdd, Nat.reduceSub, Nat.reduceMul, Nat.reduceBEq, Nat.reduceLT, Nat.reduceLeDiff, Int.reduceToNat, Int.reduceLE, Int.reduceLT, Int.reduceEq, Int.reduceNeg, ← List.map_drop, ← List.map_take, UInt8.reduceToNat, true_implies, implies_true, List.append_eq, y_preref1_Splice]) rfl
  · rintro n1 ⟨x1, x2, x3, x4⟩ o1 H hF1
    rw [preref1_Splice_b1] at H
    refine w_seq ?_
    refine w_seq ?_
    refine w_region rfl (fun K hK => ?_)
    simp -implicitDefEqProofs only [goR, ↓upd_at, if_true, if_false, reduceCtorEq, ↓reduceIte, Nat.reduceEqDiff, Nat.reduceAdd, Nat.reduceSub, Nat.reduceMul, Nat.reduceBEq, Nat.reduceLT, Nat.reduceLeDiff, Int.reduceToNat, Int.reduceLE, Int.reduceLT, Int.reduceEq, Int.reduceNeg, ← List.map_drop, ← List.map_take, UInt8.reduceToNat, true_implies, implies_true, List.append_eq, y_preref1_Splice]
    (repeat' (first | ((with_reducible refine hK _ _ ?_); clear hK K) | (with_reducible apply And.intro) | (exact trivial) | (clear hK K; assumption) | (clear hK K; omega)))
    refine then_normal ?_
    rcases bsplit H with ⟨hp1, H⟩ | ⟨hp1, H⟩
    · try simp -implicitDefEqProofs only [goR, ↓upd_at, if_true, if_false, reduceCtorEq, ↓reduceIte, Nat.reduceEqDiff, Nat.reduceAdd, Nat.reduceSub, Nat.reduceMul, Nat.reduceBEq, Nat.reduceLT, Nat.reduceLeDiff, Int.reduceToNat, Int.reduceLE, Int.reduceLT, Int.reduceEq, Int.reduceNeg, ← List.map_drop, ← List.map_take, UInt8.reduceToNat, true_implies, implies_true, List.append_eq, y_preref1_Splice] at hp1
      have hq1 := hp1
      try simp only [goT] at hq1
      refine w_condT (by simp -implicitDefEqProofs only [goR, ↓upd_at, if_true, if_false, reduceCtorEq, ↓reduceIte, Nat.reduceEqDiff, Nat.reduceAdd, Nat.reduceSub, Nat.reduceMul, Nat.reduceBEq, Nat.reduceLT, Nat.reduceLeDiff, Int.reduceToNat, Int.reduceLE, Int.reduceLT, Int.reduceEq, Int.reduceNeg, ← List.map_drop, ← List.map_take, UInt8.reduceToNat, true_implies, implies_true, List.append_eq, y_preref1_Splice, hp1]) ?_
      refine w_skip ?_
      refine then_normal ?_
      refine w_cut (preref1_Splice_j2 x2) (fun s => [(0, .c (.d (.v (str a0)))), (2, .c (.pt 1 0)), (3, .c (.pt 2 0)), (4, .c (.d (.v (.int .i64 s.1))))]) (fun s => [[.d (.v (str x2)), .sl 1 [] 0], [.d (.v (str s.2.1)), .sl 1 (List.map dI s.2.2) 3]]) [3] o1 ?_ ?_
      · refine w_block ?_
        refine w_seq ?_
        obtain ⟨hg1, H⟩ := gsplit H
        refine w_region rfl (fun K hK => ?_)
        simp -implicitDefEqProofs only [goR, ↓upd_at, if_true, if_false, reduceCtorEq, ↓reduceIte, Nat.reduceEqDiff, Nat.reduceAdd, Nat.reduceSub, Nat.reduceMul, Nat.reduceBEq, Nat.reduceLT, Nat.reduceLeDiff, Int.reduceToNat, Int.reduceLE, Int.reduceLT, Int.reduceEq, Int.reduceNeg, ← List.map_drop, ← List.map_take, UInt8.reduceToNat, true_implies, implies_true, List.append_eq, y_preref1_Splice]
        (repeat' (first | ((with_reducible refine hK _ _ ?_); clear hK K) | (with_reducible apply And.intro) | (exact trivial) | (clear hK K; assumption) | (clear hK K; omega)))
        refine then_normal ?_
        refine w_seq ?_
        refine w_cut (preref1_Splice_j3 x1 x2 x3 x4) (fun s => [(0, .c (.d (.v (str a0)))), (2, .c (.pt 1 0)), (3, .c (.pt 2 0)), (4, .c (.d (.v (.int .i64 x1)))), (5, .c (.d (.v (str s.1)))), (27, .c (.d (.v (.bool s.2))))]) (fun s => [[.d (.v (str x2)), .sl 1 [] 0], [.d (.v (str x3)), .sl 1 (List.map dI x4) 3]]) [3] o1 ?_ ?_
        · rcases bsplit H with ⟨hp10, H⟩ | ⟨hp10, H⟩
          · try simp -implicitDefEqProofs only [goR, ↓upd_at, if_true, if_false, reduceCtorEq, ↓reduceIte, Nat.reduceEqDiff, Nat.reduceAdd, Nat.reduceSub, Nat.reduceMul, Nat.reduceBEq, Nat.reduceLT, Nat.reduceLeDiff, Int.reduceToNat, Int.reduceLE, Int.reduceLT, Int.reduceEq, Int.reduceNeg, ← List.map_drop, ← List.map_take, UInt8.reduceToNat, true_implies, implies_true, List.append_eq, y_preref1_Splice] at hp10
            have hq10 := hp10
            try simp only [goT] at hq10
            obtain ⟨hg10, H⟩ := gsplit H
            rcases bsplit H with ⟨hp11, H⟩ | ⟨hp11, H⟩
            · try simp -implicitDefEqProofs only [goR, ↓upd_at, if_true, if_false, reduceCtorEq, ↓reduceIte, Nat.reduceEqDiff, Nat.reduceAdd, Nat.reduceSub, Nat.reduceMul, Nat.reduceBEq, Nat.reduceLT, Nat.reduceLeDiff, Int.reduceToNat, Int.reduceLE, Int.reduceLT, Int.reduceEq, Int.reduceNeg, ← List.map_drop, ← List.map_take, UInt8.reduceToNat, true_implies, implies_true, List.append_eq, y_preref1_Splice] at hp11
              have hq11 := hp11
              try simp only [goT] at hq11
              obtain ⟨hg11, H⟩ := gsplit H
              refine w_region rfl (fun K hK => ?_)
              simp -implicitDefEqProofs only [goR, ↓upd_at, if_true, if_false, reduceCtorEq, ↓reduceIte, Nat.reduceEqDiff, Nat.reduceAdd, Nat.reduceSub, Nat.reduceMul, Nat.reduceBEq, Nat.reduceLT, Nat.reduceLeDiff, Int.reduceToNat, Int.reduceLE, Int.reduceLT, Int.reduceEq, Int.reduceNeg, ← List.map_drop, ← List.map_take, UInt8.reduceToNat, true_implies, implies_true, List.append_eq, y_preref1_Splice, hp10, hp11]
              (repeat' (first | ((with_reducible refine hK _ _ ?_); clear hK K) | (with_reducible apply And.intro) | (exact trivial) | (clear hK K; assumption) | (clear hK K; omega)))
              refine cut_at H ?_
              exact wk_ren ⟨[1, 2], [3]⟩ rfl rfl rfl rfl rfl (by simp -implicitDefEqProofs only [goW, goR, ↓upd_at, if_true, if_false, reduceCtorEq, ↓reduceIte, Nat.reduceEqDiff, Nat.reduceAdd, Nat.reduceSub, Nat.reduceMul, Nat.reduceBEq, Nat.reduceLT, Nat.reduceLeDiff, Int.reduceToNat, Int.reduceLE, Int.reduceLT, Int.reduceEq, Int.reduceNeg, ← List.map_drop, ← List.map_take, UInt8.reduceToNat, true_implies, implies_true, List.append_eq, y_preref1_Splice]) (by simp -implicitDefEqProofs only [goW, goR, ↓upd_at, if_true, if_false, reduceCtorEq, ↓reduceIte, Nat.reduceEqDiff, Nat.reduceAdd, Nat.reduceSub, Nat.reduceMul, Nat.reduceBEq, Nat.reduceLT, Nat.reduceLeDiff, Int.reduceToNat, Int.reduceLE, Int.reduceLT, Int.reduceEq, Int.reduceNeg, ← List.map_drop, ← List.map_take, UInt8.reduceToNat, true_implies, implies_true, List.append_eq, y_preref1_Splice]) (by simp -implicitDefEqProofs only [goW, goR, ↓upd_at, if_true, if_false, reduceCtorEq, ↓reduceIte, Nat.reduceEqDiff, Nat.reduceAdd, Nat.reduceSub, Nat.reduceMul, Nat.reduceBEq, Nat.reduceLT, Nat.reduceLeDiff, Int.reduceToNat, Int.reduceLE, Int.reduceLT, Int.reduceEq, Int.reduceNeg, ← List.map_drop, ← List.map_take, UInt8.reduceToNat, true_implies, implies_true, List.append_eq, y_preref1_Splice]) rfl
            · try simp -implicitDefEqProofs only [goR, ↓upd_at, if_true, if_false, reduceCtorEq, ↓reduceIte, Nat.reduceEqDiff, Nat.reduceAdd, Nat.reduceSub, Nat.reduceMul, Nat.reduceBEq, Nat.reduceLT, Nat.reduceLeDiff, Int.reduceToNat, Int.reduceLE, Int.reduceLT, Int.reduceEq, Int.reduceNeg, ← List.map_drop, ← List.map_take, UInt8.reduceToNat, true_implies, implies_true, List.append_eq, y_preref1_Splice] at hp11
              have hq11 := hp11
              try simp only [goT] at hq11
              refine w_region rfl (fun K hK => ?_)
              simp -implicitDefEqProofs only [goR, ↓upd_at, if_true, if_false, reduceCtorEq, ↓reduceIte, Nat.reduceEqDiff, Nat.reduceAdd, Nat.reduceSub, Nat.reduceMul, Nat.reduceBEq, Nat.reduceLT, Nat.reduceLeDiff, Int.reduceToNat, Int.reduceLE, Int.reduceLT, Int.reduceEq, Int.reduceNeg, ← List.map_drop, ← List.map_take, UInt8.reduceToNat, true_implies, implies_true, List.append_eq, y_preref1_Splice, hp10, hp11]
              (repeat' (first | ((with_reducible refine hK _ _ ?_); clear hK K) | (with_reducible apply And.intro) | (exact trivial) | (clear hK K; assumption) | (clear hK K; omega)))
              refine cut_at H ?_
              exact wk_ren ⟨[1, 2], [3]⟩ rfl rfl rfl rfl rfl (by simp -implicitDefEqProofs only [goW, goR, ↓upd_at, if_true, if_false, reduceCtorEq, ↓reduceIte, Nat.reduceEqDiff, Nat.reduceAdd, Nat.reduceSub, Nat.reduceMul, Nat.reduceBEq, Nat.reduceLT, Nat.reduceLeDiff, Int.reduceToNat, Int.reduceLE, Int.reduceLT, Int.reduceEq, Int.reduceNeg, ← List.map_drop, ← List.map_take, UInt8.reduceToNat, true_implies, implies_true, List.append_eq, y_preref1_Splice]) (by simp -implicitDefEqProofs only [goW, goR, ↓upd_at, if_true, if_false, reduceCtorEq, ↓reduceIte, Nat.reduceEqDiff, Nat.reduceAdd, Nat.reduceSub, Nat.reduceMul, Nat.reduceBEq, Nat.reduceLT, Nat.reduceLeDiff, Int.reduceToNat, Int.reduceLE, Int.reduceLT, Int.reduceEq, Int.reduceNeg, ← List.map_drop, ← List.map_take, UInt8.reduceToNat, true_implies, implies_true, List.append_eq, y_preref1_Splice]) (by simp -implicitDefEqProofs only [goW, goR, ↓upd_at, if_true, if_false, reduceCtorEq, ↓reduceIte, Nat.reduceEqDiff, Nat.reduceAdd, Nat.reduceSub, Nat.reduceMul, Nat.reduceBEq, Nat.reduceLT, Nat.reduceLeDiff, Int.reduceToNat, Int.reduceLE, Int.reduceLT, Int.reduceEq, Int.reduceNeg, ← List.map_drop, ← List.map_take, UInt8.reduceToNat, true_implies, implies_true, List.append_eq, y_preref1_Splice]) rfl
          · try simp -implicitDefEqProofs only [goR, ↓upd_at, if_true, if_false, reduceCtorEq, ↓reduceIte, Nat.reduceEqDiff, Nat.reduceAdd, Nat.reduceSub, Nat.reduceMul, Nat.reduceBEq, Nat.reduceLT, Nat.reduceLeDiff, Int.reduceToNat, Int.reduceLE, Int.reduceLT, Int.reduceEq, Int.reduceNeg, ← List.map_drop, ← List.map_take, UInt8.reduceToNat, true_implies, implies_true, List.append_eq, y_preref1_Splice] at hp10
            have hq10 := hp10
            try simp only [goT] at hq10
            refine w_region rfl (fun K hK => ?_)
            simp -implicitDefEqProofs only [goR, ↓upd_at, if_true, if_false, reduceCtorEq, ↓reduceIte, Nat.reduceEqDiff, Nat.reduceAdd, Nat.reduceSub, Nat.reduceMul, Nat.reduceBEq, Nat.reduceLT, Nat.reduceLeDiff, Int.reduceToNat, Int.reduceLE, Int.reduceLT, Int.reduceEq, Int.reduceNeg, ← List.map_drop, ← List.map_take, UInt8.reduceToNat, true_implies, implies_true, List.append_eq, y_preref1_Splice, hp10]
            (repeat' (first | ((with_reducible refine hK _ _ ?_); clear hK K) | (with_reducible apply And.intro) | (exact trivial) | (clear hK K; assumption) | (clear hK K; omega)))
            refine cut_at H ?_
            exact wk_ren ⟨[1, 2], [3]⟩ rfl rfl rfl rfl rfl (by simp -implicitDefEqProofs only [goW, goR, ↓upd_at, if_true, if_false, reduceCtorEq, ↓reduceIte, Nat.reduceEqDiff, Nat.reduceAdd, Nat.reduceSub, Nat.reduceMul, Nat.reduceBEq, Nat.reduceLT, Nat.reduceLeDiff, Int.reduceToNat, Int.reduceLE, Int.reduceLT, Int.reduceEq, Int.reduceNeg, ← List.map_drop, ← List.map_take, UInt8.reduceToNat, true_implies, implies_true, List.append_eq, y_preref1_Splice]) (by simp -implicitDefEqProofs only [goW, goR, ↓upd_at, if_true, if_false, reduceCtorEq, ↓reduceIte, Nat.reduceEqDiff, Nat.reduceAdd, Nat.reduceSub, Nat.reduceMul, Nat.reduceBEq, Nat.reduceLT, Nat.reduceLeDiff, Int.reduceToNat, Int.reduceLE, Int.reduceLT, Int.reduceEq, Int.reduceNeg, ← List.map_drop, ← List.map_take, UInt8.reduceToNat, true_implies, implies_true, List.append_eq, y_preref1_Splice]) (by simp -implicitDefEqProofs only [goW, goR, ↓upd_at, if_true, if_false, reduceCtorEq, ↓reduceIte, Nat.reduceEqDiff, Nat.reduceAdd, Nat.reduceSub, Nat.reduceMul, Nat.reduceBEq, Nat.reduceLT, Nat.reduceLeDiff, Int.reduceToNat, Int.reduceLE, Int.reduceLT, Int.reduceEq, Int.reduceNeg, ← List.map_drop, ← List.map_take, UInt8.reduceToNat, true_implies, implies_true, List.append_eq, y_preref1_Splice]) rfl
        · rintro ⟨x8, x9⟩ H
          rw [preref1_Splice_j3] at H
          rcases bsplit H with ⟨hp2, H⟩ | ⟨hp2, H⟩
          · try simp -implicitDefEqProofs only [goR, ↓upd_at, if_true, if_false, reduceCtorEq, ↓reduceIte, Nat.reduceEqDiff, Nat.reduceAdd, Nat.reduceSub, Nat.reduceMul, Nat.reduceBEq, Nat.reduceLT, Nat.reduceLeDiff, Int.reduceToNat, Int.reduceLE, Int.reduceLT, Int.reduceEq, Int.reduceNeg, ← List.map_drop, ← List.map_take, UInt8.reduceToNat, true_implies, implies_true, List.append_eq, y_preref1_Splice] at hp2
            have hq2 := hp2
            try simp only [goT] at hq2
            refine w_condT (by simp -implicitDefEqProofs only [goR, ↓upd_at, if_true, if_false, reduceCtorEq, ↓reduceIte, Nat.reduceEqDiff, Nat.reduceAdd, Nat.reduceSub, Nat.reduceMul, Nat.reduceBEq, Nat.reduceLT, Nat.reduceLeDiff, Int.reduceToNat, Int.reduceLE, Int.reduceLT, Int.reduceEq, Int.reduceNeg, ← List.map_drop, ← List.map_take, UInt8.reduceToNat, true_implies, implies_true, List.append_eq, y_preref1_Splice, hp2]) ?_
            refine w_seq ?_
            refine w_region rfl (fun K hK => ?_)
            simp -implicitDefEqProofs only [goR, ↓upd_at, if_true, if_false, reduceCtorEq, ↓reduceIte, Nat.reduceEqDiff, Nat.reduceAdd, Nat.reduceSub, Nat.reduceMul, Nat.reduceBEq, Nat.reduceLT, Nat.reduceLeDiff, Int.reduceToNat, Int.reduceLE, Int.reduceLT, Int.reduceEq, Int.reduceNeg, ← List.map_drop, ← List.map_take, UInt8.reduceToNat, true_implies, implies_true, List.append_eq, y_preref1_Splice]
            (repeat' (first | ((with_reducible refine hK _ _ ?_); clear hK K) | (with_reducible apply And.intro) | (exact trivial) | (clear hK K; assumption) | (clear hK K; omega)))
            refine then_normal ?_
            refine w_exit ?_
            refine then_exit ?_
            refine block_exit ?_
            refine cut_at H ?_
            exact wk_ren ⟨[1, 2], [3]⟩ rfl rfl rfl rfl rfl (by simp -implicitDefEqProofs only [goW, goR, ↓upd_at, if_true, if_false, reduceCtorEq, ↓reduceIte, Nat.reduceEqDiff, Nat.reduceAdd, Nat.reduceSub, Nat.reduceMul, Nat.reduceBEq, Nat.reduceLT, Nat.reduceLeDiff, Int.reduceToNat, Int.reduceLE, Int.reduceLT, Int.reduceEq, Int.reduceNeg, ← List.map_drop, ← List.map_take, UInt8.reduceToNat, true_implies, implies_true, List.append_eq, y_preref1_Splice]) (by simp -implicitDefEqProofs only [goW, goR, ↓upd_at, if_true, if_false, reduceCtorEq, ↓reduceIte, Nat.reduceEqDiff, Nat.reduceAdd, Nat.reduceSub, Nat.reduceMul, Nat.reduceBEq, Nat.reduceLT, Nat.reduceLeDiff, Int.reduceToNat, Int.reduceLE, Int.reduceLT, Int.reduceEq, Int.reduceNeg, ← List.map_drop, ← List.map_take, UInt8.reduceToNat, true_implies, implies_true, List.append_eq, y_preref1_Splice]) (by simp -implicitDefEqProofs only [goW, goR, ↓upd_at, if_true, if_false, reduceCtorEq, ↓reduceIte, Nat.reduceEqDiff, Nat.reduceAdd, Nat.reduceSub, Nat.reduceMul, Nat.reduceBEq, Nat.reduceLT, Nat.reduceLeDiff, Int.reduceToNat, Int.reduceLE, Int.reduceLT, Int.reduceEq, Int.reduceNeg, ← List.map_drop, ← List.map_take, UInt8.reduceToNat, true_implies, implies_true, List.append_eq, y_preref1_Splice]) rfl
          · try simp -implicitDefEqProofs only [goR, ↓upd_at, if_true, if_false, reduceCtorEq, ↓reduceIte, Nat.reduceEqDiff, Nat.reduceAdd, Nat.reduceSub, Nat.reduceMul, Nat.reduceBEq, Nat.reduceLT, Nat.reduceLeDiff, Int.reduceToNat, Int.reduceLE, Int.reduceLT, Int.reduceEq, Int.reduceNeg, ← List.map_drop, ← List.map_take, UInt8.reduceToNat, true_implies, implies_true, List.append_eq, y_preref1_Splice] at hp2
            have hq2 := hp2
            try simp only [goT] at hq2
            refine w_condF (by simp -implicitDefEqProofs only [goR, ↓upd_at, if_true, if_false, reduceCtorEq, ↓reduceIte, Nat.reduceEqDiff, Nat.reduceAdd, Nat.reduceSub, Nat.reduceMul, Nat.reduceBEq, Nat.reduceLT, Nat.reduceLeDiff, Int.reduceToNat, Int.reduceLE, Int.reduceLT, Int.reduceEq, Int.reduceNeg, ← List.map_drop, ← List.map_take, UInt8.reduceToNat, true_implies, implies_true, List.append_eq, y_preref1_Splice, hp2]) ?_
            refine w_skip ?_
            refine then_normal ?_
            refine w_seq ?_
            refine w_cut (preref1_Splice_j4 x1 x2 x3 x4 x8) (fun s => [(0, .c (.d (.v (str a0)))), (2, .c (.pt 1 0)), (3, .c (.pt 2 0)), (4, .c (.d (.v (.int .i64 x1)))), (5, .c (.d (.v (str x8)))), (47, .c (.d (.v (.bool s))))]) (fun s => [[.d (.v (str x2)), .sl 1 [] 0], [.d (.v (str x3)), .sl 1 (List.map dI x4) 3]]) [3] o1 ?_ ?_
            · rcases bsplit H with ⟨hp7, H⟩ | ⟨hp7, H⟩
              · try simp -implicitDefEqProofs only [goR, ↓upd_at, if_true, if_false, reduceCtorEq, ↓reduceIte, Nat.reduceEqDiff, Nat.reduceAdd, Nat.reduceSub, Nat.reduceMul, Nat.reduceBEq, Nat.reduceLT, Nat.reduceLeDiff, Int.reduceToNat, Int.reduceLE, Int.reduceLT, Int.reduceEq, Int.reduceNeg, ← List.map_drop, ← List.map_take, UInt8.reduceToNat, true_implies, implies_true, List.append_eq, y_preref1_Splice] at hp7
                have hq7 := hp7
                try simp only [goT] at hq7
                obtain ⟨hg7, H⟩ := gsplit H
                rcases bsplit H with ⟨hp8, H⟩ | ⟨hp8, H⟩
                · try simp -implicitDefEqProofs only [goR, ↓upd_at, if_true, if_false, reduceCtorEq, ↓reduceIte, Nat.reduceEqDiff, Nat.reduceAdd, Nat.reduceSub, Nat.reduceMul, Nat.reduceBEq, Nat.reduceLT, Nat.reduceLeDiff, Int.reduceToNat, Int.reduceLE, Int.reduceLT, Int.reduceEq, Int.reduceNeg, ← List.map_drop, ← List.map_take, UInt8.reduceToNat, true_implies, implies_true, List.append_eq, y_preref1_Splice] at hp8
                  have hq8 := hp8
                  try simp only [goT] at hq8
                  obtain ⟨hg8, H⟩ := gsplit H
                  rcases bsplit H with ⟨hp9, H⟩ | ⟨hp9, H⟩
                  · try simp -implicitDefEqProofs only [goR, ↓upd_at, if_true, if_false, reduceCtorEq, ↓reduceIte, Nat.reduceEqDiff, Nat.reduceAdd, Nat.reduceSub, Nat.reduceMul, Nat.reduceBEq, Nat.reduceLT, Nat.reduceLeDiff, Int.reduceToNat, Int.reduceLE, Int.reduceLT, Int.reduceEq, Int.reduceNeg, ← List.map_drop, ← List.map_take, UInt8.reduceToNat, true_implies, implies_true, List.append_eq, y_preref1_Splice] at hp9
                    have hq9 := hp9
                    try simp only [goT] at hq9
                    obtain ⟨hg9, H⟩ := gsplit H
                    refine w_region rfl (fun K hK => ?_)
                    simp -implicitDefEqProofs only [goR, ↓upd_at, if_true, if_false, reduceCtorEq, ↓reduceIte, Nat.reduceEqDiff, Nat.reduceAdd, Nat.reduceSub, Nat.reduceMul, Nat.reduceBEq, Nat.reduceLT, Nat.reduceLeDiff, Int.reduceToNat, Int.reduceLE, Int.reduceLT, Int.reduceEq, Int.reduceNeg, ← List.map_drop, ← List.map_take, UInt8.reduceToNat, true_implies, implies_true, List.append_eq, y_preref1_Splice, hp7, hp8, hp9]
                    (repeat' (first | ((with_reducible refine hK _ _ ?_); clear hK K) | (with_reducible apply And.intro) | (exact trivial) | (clear hK K; assumption) | (clear hK K; omega)))
                    refine cut_at H ?_
                    exact wk_ren ⟨[1, 2], [3]⟩ rfl rfl rfl rfl rfl (by simp -implicitDefEqProofs only [goW, goR, ↓upd_at, if_true, if_false, reduceCtorEq, ↓reduceIte, Nat.reduceEqDiff, Nat.reduceAdd, Nat.reduceSub, Nat.reduceMul, Nat.reduceBEq, Nat.reduceLT, Nat.reduceLeDiff, Int.reduceToNat, Int.reduceLE, Int.reduceLT, Int.reduceEq, Int.reduceNeg, ← List.map_drop, ← List.map_take, UInt8.reduceToNat, true_implies, implies_true, List.append_eq, y_preref1_Splice]) (by simp -implicitDefEqProofs only [goW, goR, ↓upd_at, if_true, if_false, reduceCtorEq, ↓reduceIte, Nat.reduceEqDiff, Nat.reduceAdd, Nat.reduceSub, Nat.reduceMul, Nat.reduceBEq, Nat.reduceLT, Nat.reduceLeDiff, Int.reduceToNat, Int.reduceLE, Int.reduceLT, Int.reduceEq, Int.reduceNeg, ← List.map_drop, ← List.map_take, UInt8.reduceToNat, true_implies, implies_true, List.append_eq, y_preref1_Splice]) (by simp -implicitDefEqProofs only [goW, goR, ↓upd_at, if_true, if_false, reduceCtorEq, ↓reduceIte, Nat.reduceEqDiff, Nat.reduceAdd, Nat.reduceSub, Nat.reduceMul, Nat.reduceBEq, Nat.reduceLT, Nat.reduceLeDiff, Int.reduceToNat, Int.reduceLE, Int.reduceLT, Int.reduceEq, Int.reduceNeg, ← List.map_drop, ← List.map_take, UInt8.reduceToNat, true_implies, implies_true, List.append_eq, y_preref1_Splice]) rfl
                  · try simp -implicitDefEqProofs only [goR, ↓upd_at, if_true, if_false, reduceCtorEq, ↓reduceIte, Nat.reduceEqDiff, Nat.reduceAdd, Nat.reduceSub, Nat.reduceMul, Nat.reduceBEq, Nat.reduceLT, Nat.reduceLeDiff, Int.reduceToNat, Int.reduceLE, Int.reduceLT, Int.reduceEq, Int.reduceNeg, ← List.map_drop, ← List.map_take, UInt8.reduceToNat, true_implies, implies_true, List.append_eq, y_preref1_Splice] at hp9
                    have hq9 := hp9
                    try simp only [goT] at hq9
                    refine w_region rfl (fun K hK => ?_)
                    simp -implicitDefEqProofs only [goR, ↓upd_at, if_true, if_false, reduceCtorEq, ↓reduceIte, Nat.reduceEqDiff, Nat.reduceAdd, Nat.reduceSub, Nat.reduceMul, Nat.reduceBEq, Nat.reduceLT, Nat.reduceLeDiff, Int.reduceToNat, Int.reduceLE, Int.reduceLT, Int.reduceEq, Int.reduceNeg, ← List.map_drop, ← List.map_take, UInt8.reduceToNat, true_implies, implies_true, List.append_eq, y_preref1_Splice, hp7, hp8, hp9]
                    (repeat' (first | ((with_reducible refine hK _ _ ?_); clear hK K) | (with_reducible apply And.intro) | (exact trivial) | (clear hK K; assumption) | (clear hK K; omega)))
                    refine cut_at H ?_
                    exact wk_ren ⟨[1, 2], [3]⟩ rfl rfl rfl rfl rfl (by simp -implicitDefEqProofs only [goW, goR, ↓upd_at, if_true, if_false, reduceCtorEq, ↓reduceIte, Nat.reduceEqDiff, Nat.reduceAdd, Nat.reduceSub, Nat.reduceMul, Nat.reduceBEq, Nat.reduceLT, Nat.reduceLeDiff, Int.reduceToNat, Int.reduceLE, Int.reduceLT, Int.reduceEq, Int.reduceNeg, ← List.map_drop, ← List.map_take, UInt8.reduceToNat, true_implies, implies_true, List.append_eq, y_preref1_Splice]) (by simp -implicitDefEqProofs only [goW, goR, ↓upd_at, if_true, if_false, reduceCtorEq, ↓reduceIte, Nat.reduceEqDiff, Nat.reduceAdd, Nat.reduceSub, Nat.reduceMul, Nat.reduceBEq, Nat.reduceLT, Nat.reduceLeDiff, Int.reduceToNat, Int.reduceLE, Int.reduceLT, Int.reduceEq, Int.reduceNeg, ← List.map_drop, ← List.map_take, UInt8.reduceToNat, true_implies, implies_true, List.append_eq, y_preref1_Splice]) (by simp -implicitDefEqProofs only [goW, goR, ↓upd_at, if_true, if_false, reduceCtorEq, ↓reduceIte, Nat.reduceEqDiff, Nat.reduceAdd, Nat.reduceSub, Nat.reduceMul, Nat.reduceBEq, Nat.reduceLT, Nat.reduceLeDiff, Int.reduceToNat, Int.reduceLE, Int.reduceLT, Int.reduceEq, Int.reduceNeg, ← List.map_drop, ← List.map_take, UInt8.reduceToNat, true_implies, implies_true, List.append_eq, y_preref1_Splice]) rfl
                · try simp -implicitDefEqProofs only [goR, ↓upd_at, if_true, if_false, reduceCtorEq, ↓reduceIte, Nat.reduceEqDiff, Nat.reduceAdd, Nat.reduceSub, Nat.reduceMul, Nat.reduceBEq, Nat.reduceLT, Nat.reduceLeDiff, Int.reduceToNat, Int.reduceLE, Int.reduceLT, Int.reduceEq, Int.reduceNeg, ← List.map_drop, ← List.map_take, UInt8.reduceToNat, true_implies, implies_true, List.append_eq, y_preref1_Splice] at hp8
                  have hq8 := hp8
                  try simp only [goT] at hq8
                  refine w_region rfl (fun K hK => ?_)
                  simp -implicitDefEqProofs only [goR, ↓upd_at, if_true, if_false, reduceCtorEq, ↓reduceIte, Nat.reduceEqDiff, Nat.reduceAdd, Nat.reduceSub, Nat.reduceMul, Nat.reduceBEq, Nat.reduceLT, Nat.reduceLeDiff, Int.reduceToNat, Int.reduceLE, Int.reduceLT, Int.reduceEq, Int.reduceNeg, ← List.map_drop, ← List.map_take, UInt8.reduceToNat, true_implies, implies_true, List.append_eq, y_preref1_Splice, hp7, hp8]
                  (repeat' (first | ((with_reducible refine hK _ _ ?_); clear hK K) | (with_reducible apply And.intro) | (exact trivial) | (clear hK K; assumption) | (clear hK K; omega)))
                  refine cut_at H ?_
                  exact wk_ren ⟨[1, 2], [3]⟩ rfl rfl rfl rfl rfl (by simp -implicitDefEqProofs only [goW, goR, ↓upd_at, if_true, if_false, reduceCtorEq, ↓reduceIte, Nat.reduceEqDiff, Nat.reduceAdd, Nat.reduceSub, Nat.reduceMul, Nat.reduceBEq, Nat.reduceLT, Nat.reduceLeDiff, Int.reduceToNat, Int.reduceLE, Int.reduceLT, Int.reduceEq, Int.reduceNeg, ← List.map_drop, ← List.map_take, UInt8.reduceToNat, true_implies, implies_true, List.append_eq, y_preref1_Splice]) (by simp -implicitDefEqProofs only [goW, goR, ↓upd_at, if_true, if_false, reduceCtorEq, ↓reduceIte, Nat.reduceEqDiff, Nat.reduceAdd, Nat.reduceSub, Nat.reduceMul, Nat.reduceBEq, Nat.reduceLT, Nat.reduceLeDiff, Int.reduceToNat, Int.reduceLE, Int.reduceLT, Int.reduceEq, Int.reduceNeg, ← List.map_drop, ← List.map_take, UInt8.reduceToNat, true_implies, implies_true, List.append_eq, y_preref1_Splice]) (by simp -implicitDefEqProofs only [goW, goR, ↓upd_at, if_true, if_false, reduceCtorEq, ↓reduceIte, Nat.reduceEqDiff, Nat.reduceAdd, Nat.reduceSub, Nat.reduceMul, Nat.reduceBEq, Nat.reduceLT, Nat.reduceLeDiff, Int.reduceToNat, Int.reduceLE, Int.reduceLT, Int.reduceEq, Int.reduceNeg, ← List.map_drop, ← List.map_take, UInt8.reduceToNat, true_implies, implies_true, List.append_eq, y_preref1_Splice]) rfl
              · try simp -implicitDefEqProofs only [goR, ↓upd_at, if_true, if_false, reduceCtorEq, ↓reduceIte, Nat.reduceEqDiff, Nat.reduceAdd, Nat.reduceSub, Nat.reduceMul, Nat.reduceBEq, Nat.reduceLT, Nat.reduceLeDiff, Int.reduceToNat, Int.reduceLE, Int.reduceLT, Int.reduceEq, Int.reduceNeg, ← List.map_drop, ← List.map_take, UInt8.reduceToNat, true_implies, implies_true, List.append_eq, y_preref1_Splice] at hp7
                have hq7 := hp7
                try simp only [goT] at hq7
                refine w_region rfl (fun K hK => ?_)
                simp -implicitDefEqProofs only [goR, ↓upd_at, if_true, if_false, reduceCtorEq, ↓reduceIte, Nat.reduceEqDiff, Nat.reduceAdd, Nat.reduceSub, Nat.reduceMul, Nat.reduceBEq, Nat.reduceLT, Nat.reduceLeDiff, Int.reduceToNat, Int.reduceLE, Int.reduceLT, Int.reduceEq, Int.reduceNeg, ← List.map_drop, ← List.map_take, UInt8.reduceToNat, true_implies, implies_true, List.append_eq, y_preref1_Splice, hp7]
                (repeat' (first | ((with_reducible refine hK _ _ ?_); clear hK K) | (with_reducible apply And.intro) | (exact trivial) | (clear hK K; assumption) | (clear hK K; omega)))
                refine cut_at H ?_
                exact wk_ren ⟨[1, 2], [3]⟩ rfl rfl rfl rfl rfl (by simp -implicitDefEqProofs only [goW, goR, ↓upd_at, if_true, if_false, reduceCtorEq, ↓reduceIte, Nat.reduceEqDiff, Nat.reduceAdd, Nat.reduceSub, Nat.reduceMul, Nat.reduceBEq, Nat.reduceLT, Nat.reduceLeDiff, Int.reduceToNat, Int.reduceLE, Int.reduceLT, Int.reduceEq, Int.reduceNeg, ← List.map_drop, ← List.map_take, UInt8.reduceToNat, true_implies, implies_true, List.append_eq, y_preref1_Splice]) (by simp -implicitDefEqProofs only [goW, goR, ↓upd_at, if_true, if_false, reduceCtorEq, ↓reduceIte, Nat.reduceEqDiff, Nat.reduceAdd, Nat.reduceSub, Nat.reduceMul, Nat.reduceBEq, Nat.reduceLT, Nat.reduceLeDiff, Int.reduceToNat, Int.reduceLE, Int.reduceLT, Int.reduceEq, Int.reduceNeg, ← List.map_drop, ← List.map_take, UInt8.reduceToNat, true_implies, implies_true, List.append_eq, y_preref1_Splice]) (by simp -implicitDefEqProofs only [goW, goR, ↓upd_at, if_true, if_false, reduceCtorEq, ↓reduceIte, Nat.reduceEqDiff, Nat.reduceAdd, Nat.reduceSub, Nat.reduceMul, Nat.reduceBEq, Nat.reduceLT, Nat.reduceLeDiff, Int.reduceToNat, Int.reduceLE, Int.reduceLT, Int.reduceEq, Int.reduceNeg, ← List.map_drop, ← List.map_take, UInt8.reduceToNat, true_implies, implies_true, List.append_eq, y_preref1_Splice]) rfl
            · rintro x10 H
              rw [preref1_Splice_j4] at H
              rcases bsplit H with ⟨hp3, H⟩ | ⟨hp3, H⟩
              · try simp -implicitDefEqProofs only [goR, ↓upd_at, if_true, if_false, reduceCtorEq, ↓reduceIte, Nat.reduceEqDiff, Nat.reduceAdd, Nat.reduceSub, Nat.reduceMul, Nat.reduceBEq, Nat.reduceLT, Nat.reduceLeDiff, Int.reduceToNat, Int.reduceLE, Int.reduceLT, Int.reduceEq, Int.reduceNeg, ← List.map_drop, ← List.map_take, UInt8.reduceToNat, true_implies, implies_true, List.append_eq, y_preref1_Splice] at hp3
                have hq3 := hp3
                try simp only [goT] at hq3
                refine w_condT (by simp -implicitDefEqProofs only [goR, ↓upd_at, if_true, if_false, reduceCtorEq, ↓reduceIte, Nat.reduceEqDiff, Nat.reduceAdd, Nat.reduceSub, Nat.reduceMul, Nat.reduceBEq, Nat.reduceLT, Nat.reduceLeDiff, Int.reduceToNat, Int.reduceLE, Int.reduceLT, Int.reduceEq, Int.reduceNeg, ← List.map_drop, ← List.map_take, UInt8.reduceToNat, true_implies, implies_true, List.append_eq, y_preref1_Splice, hp3]) ?_
                refine w_seq ?_
                refine w_region rfl (fun K hK => ?_)
                simp -implicitDefEqProofs only [goR, ↓upd_at, if_true, if_false, reduceCtorEq, ↓reduceIte, Nat.reduceEqDiff, Nat.reduceAdd, Nat.reduceSub, Nat.reduceMul, Nat.reduceBEq, Nat.reduceLT, Nat.reduceLeDiff, Int.reduceToNat, Int.reduceLE, Int.reduceLT, Int.reduceEq, Int.reduceNeg, ← List.map_drop, ← List.map_take, UInt8.reduceToNat, true_implies, implies_true, List.append_eq, y_preref1_Splice]
                (repeat' (first | ((with_reducible refine hK _ _ ?_); clear hK K) | (with_reducible apply And.intro) | (exact trivial) | (clear hK K; assumption) | (clear hK K; omega)))
                refine then_normal ?_
                refine w_exit ?_
                refine then_exit ?_
                refine block_exit ?_
                refine cut_at H ?_
                exact wk_ren ⟨[1, 2], [3]⟩ rfl rfl rfl rfl rfl (by simp -implicitDefEqProofs only [goW, goR, ↓upd_at, if_true, if_false, reduceCtorEq, ↓reduceIte, Nat.reduceEqDiff, Nat.reduceAdd, Nat.reduceSub, Nat.reduceMul, Nat.reduceBEq, Nat.reduceLT, Nat.reduceLeDiff, Int.reduceToNat, Int.reduceLE, Int.reduceLT, Int.reduceEq, Int.reduceNeg, ← List.map_drop, ← List.map_take, UInt8.reduceToNat, true_implies, implies_true, List.append_eq, y_preref1_Splice]) (by simp -implicitDefEqProofs only [goW, goR, ↓upd_at, if_true, if_false, reduceCtorEq, ↓reduceIte, Nat.reduceEqDiff, Nat.reduceAdd, Nat.reduceSub, Nat.reduceMul, Nat.reduceBEq, Nat.reduceLT, Nat.reduceLeDiff, Int.reduceToNat, Int.reduceLE, Int.reduceLT, Int.reduceEq, Int.reduceNeg, ← List.map_drop, ← List.map_take, UInt8.reduceToNat, true_implies, implies_true, List.append_eq, y_preref1_Splice]) (by simp -implicitDefEqProofs only [goW, goR, ↓upd_at, if_true, if_false, reduceCtorEq, ↓reduceIte, Nat.reduceEqDiff, Nat.reduceAdd, Nat.reduceSub, Nat.reduceMul, Nat.reduceBEq, Nat.reduceLT, Nat.reduceLeDiff, Int.reduceToNat, Int.reduceLE, Int.reduceLT, Int.reduceEq, Int.reduceNeg, ← List.map_drop, ← List.map_take, UInt8.reduceToNat, true_implies, implies_true, List.append_eq, y_preref1_Splice]) rfl
              · try simp -implicitDefEqProofs only [goR, ↓upd_at, if_true, if_false, reduceCtorEq, ↓reduceIte, Nat.reduceEqDiff, Nat.reduceAdd, Nat.reduceSub, Nat.reduceMul, Nat.reduceBEq, Nat.reduceLT, Nat.reduceLeDiff, Int.reduceToNat, Int.reduceLE, Int.reduceLT, Int.reduceEq, Int.reduceNeg, ← List.map_drop, ← List.map_take, UInt8.reduceToNat, true_implies, implies_true, List.append_eq, y_preref1_Splice] at hp3
                have hq3 := hp3
                try simp only [goT] at hq3
                refine w_condF (by simp -implicitDefEqProofs only [goR, ↓upd_at, if_true, if_false, reduceCtorEq, ↓reduceIte, Nat.reduceEqDiff, Nat.reduceAdd, Nat.reduceSub, Nat.reduceMul, Nat.reduceBEq, Nat.reduceLT, Nat.reduceLeDiff, Int.reduceToNat, Int.reduceLE, Int.reduceLT, Int.reduceEq, Int.reduceNeg, ← List.map_drop, ← List.map_take, UInt8.reduceToNat, true_implies, implies_true, List.append_eq, y_preref1_Splice, hp3]) ?_
                refine w_skip ?_
                refine then_normal ?_
                refine w_seq ?_
                refine w_cut (preref1_Splice_j5 x1 x2 x3 x4 x8) (fun s => [(0, .c (.d (.v (str a0)))), (2, .c (.pt 1 0)), (3, .c (.pt 2 0)), (4, .c (.d (.v (.int .i64 x1)))), (5, .c (.d (.v (str x8)))), (62, .c (.d (.v (.bool s))))]) (fun s => [[.d (.v (str x2)), .sl 1 [] 0], [.d (.v (str x3)), .sl 1 (List.map dI x4) 3]]) [3] o1 ?_ ?_
                · rcases bsplit H with ⟨hp5, H⟩ | ⟨hp5, H⟩
                  · try simp -implicitDefEqProofs only [goR, ↓upd_at, if_true, if_false, reduceCtorEq, ↓reduceIte, Nat.reduceEqDiff, Nat.reduceAdd, Nat.reduceSub, Nat.reduceMul, Nat.reduceBEq, Nat.reduceLT, Nat.reduceLeDiff, Int.reduceToNat, Int.reduceLE, Int.reduceLT, Int.reduceEq, Int.reduceNeg, ← List.map_drop, ← List.map_take, UInt8.reduceToNat, true_implies, implies_true, List.append_eq, y_preref1_Splice] at hp5
                    have hq5 := hp5
                    try simp only [goT] at hq5
                    obtain ⟨hg5, H⟩ := gsplit H
                    rcases bsplit H with ⟨hp6, H⟩ | ⟨hp6, H⟩
                    · try simp -implicitDefEqProofs only [goR, ↓upd_at, if_true, if_false, reduceCtorEq, ↓reduceIte, Nat.reduceEqDiff, Nat.reduceAdd, Nat.reduceSub, Nat.reduceMul, Nat.reduceBEq, Nat.reduceLT, Nat.reduceLeDiff, Int.reduceToNat, Int.reduceLE, Int.reduceLT, Int.reduceEq, Int.reduceNeg, ← List.map_drop, ← List.map_take, UInt8.reduceToNat, true_implies, implies_true, List.append_eq, y_preref1_Splice] at hp6
                      have hq6 := hp6
                      try simp only [goT] at hq6
                      obtain ⟨hg6, H⟩ := gsplit H
                      refine w_region rfl (fun K hK => ?_)
                      simp -implicitDefEqProofs only [goR, ↓upd_at, if_true, if_false, reduceCtorEq, ↓reduceIte, Nat.reduceEqDiff, Nat.reduceAdd, Nat.reduceSub, Nat.reduceMul, Nat.reduceBEq, Nat.reduceLT, Nat.reduceLeDiff, Int.reduceToNat, Int.reduceLE, Int.reduceLT, Int.reduceEq, Int.reduceNeg, ← List.map_drop, ← List.map_take, UInt8.reduceToNat, true_implies, implies_true, List.append_eq, y_preref1_Splice, hp5, hp6]
                      (repeat' (first | ((with_reducible refine hK _ _ ?_); clear hK K) | (with_reducible apply And.intro) | (exact trivial) | (clear hK K; assumption) | (clear hK K; omega)))
                      refine cut_at H ?_
                      exact wk_ren ⟨[1, 2], [3]⟩ rfl rfl rfl rfl rfl (by simp -implicitDefEqProofs only [goW, goR, ↓upd_at, if_true, if_false, reduceCtorEq, ↓reduceIte, Nat.reduceEqDiff, Nat.reduceAdd, Nat.reduceSub, Nat.reduceMul, Nat.reduceBEq, Nat.reduceLT, Nat.reduceLeDiff, Int.reduceToNat, Int.reduceLE, Int.reduceLT, Int.reduceEq, Int.reduceNeg, ← List.map_drop, ← List.map_take, UInt8.reduceToNat, true_implies, implies_true, List.append_eq, y_preref1_Splice]) (by simp -implicitDefEqProofs only [goW, goR, ↓upd_at, if_true, if_false, reduceCtorEq, ↓reduceIte, Nat.reduceEqDiff, Nat.reduceAdd, Nat.reduceSub, Nat.reduceMul, Nat.reduceBEq, Nat.reduceLT, Nat.reduceLeDiff, Int.reduceToNat, Int.reduceLE, Int.reduceLT, Int.reduceEq, Int.reduceNeg, ← List.map_drop, ← List.map_take, UInt8.reduceToNat, true_implies, implies_true, List.append_eq, y_preref1_Splice]) (by simp -implicitDefEqProofs only [goW, goR, ↓upd_at, if_true, if_false, reduceCtorEq, ↓reduceIte, Nat.reduceEqDiff, Nat.reduceAdd, Nat.reduceSub, Nat.reduceMul, Nat.reduceBEq, Nat.reduceLT, Nat.reduceLeDiff, Int.reduceToNat, Int.reduceLE, Int.reduceLT, Int.reduceEq, Int.reduceNeg, ← List.map_drop, ← List.map_take, UInt8.reduceToNat, true_implies, implies_true, List.append_eq, y_preref1_Splice]) rfl
                    · try simp -implicitDefEqProofs only [goR, ↓upd_at, if_true, if_false, reduceCtorEq, ↓reduceIte, Nat.reduceEqDiff, Nat.reduceAdd, Nat.reduceSub, Nat.reduceMul, Nat.reduceBEq, Nat.reduceLT, Nat.reduceLeDiff, Int.reduceToNat, Int.reduceLE, Int.reduceLT, Int.reduceEq, Int.reduceNeg, ← List.map_drop, ← List.map_take, UInt8.reduceToNat, true_implies, implies_true, List.append_eq, y_preref1_Splice] at hp6
                      have hq6 := hp6
                      try simp only [goT] at hq6
                      refine w_region rfl (fun K hK => ?_)
                      simp -implicitDefEqProofs only [goR, ↓upd_at, if_true, if_false, reduceCtorEq, ↓reduceIte, Nat.reduceEqDiff, Nat.reduceAdd, Nat.reduceSub, Nat.reduceMul, Nat.reduceBEq, Nat.reduceLT, Nat.reduceLeDiff, Int.reduceToNat, Int.reduceLE, Int.reduceLT, Int.reduceEq, Int.reduceNeg, ← List.map_drop, ← List.map_take, UInt8.reduceToNat, true_implies, implies_true, List.append_eq, y_preref1_Splice, hp5, hp6]
                      (repeat' (first | ((with_reducible refine hK _ _ ?_); clear hK K) | (with_reducible apply And.intro) | (exact trivial) | (clear hK K; assumption) | (clear hK K; omega)))
                      refine cut_at H ?_
                      exact wk_ren ⟨[1, 2], [3]⟩ rfl rfl rfl rfl rfl (by simp -implicitDefEqProofs only [goW, goR, ↓upd_at, if_true, if_false, reduceCtorEq, ↓reduceIte, Nat.reduceEqDiff, Nat.reduceAdd, Nat.reduceSub, Nat.reduceMul, Nat.reduceBEq, Nat.reduceLT, Nat.reduceLeDiff, Int.reduceToNat, Int.reduceLE, Int.reduceLT, Int.reduceEq, Int.reduceNeg, ← List.map_drop, ← List.map_take, UInt8.reduceToNat, true_implies, implies_true, List.append_eq, y_preref1_Splice]) (by simp -implicitDefEqProofs only [goW, goR, ↓upd_at, if_true, if_false, reduceCtorEq, ↓reduceIte, Nat.reduceEqDiff, Nat.reduceAdd, Nat.reduceSub, Nat.reduceMul, Nat.reduceBEq, Nat.reduceLT, Nat.reduceLeDiff, Int.reduceToNat, Int.reduceLE, Int.reduceLT, Int.reduceEq, Int.reduceNeg, ← List.map_drop, ← List.map_take, UInt8.reduceToNat, true_implies, implies_true, List.append_eq, y_preref1_Splice]) (by simp -implicitDefEqProofs only [goW, goR, ↓upd_at, if_true, if_false, reduceCtorEq, ↓reduceIte, Nat.reduceEqDiff, Nat.reduceAdd, Nat.reduceSub, Nat.reduceMul, Nat.reduceBEq, Nat.reduceLT, Nat.reduceLeDiff, Int.reduceToNat, Int.reduceLE, Int.reduceLT, Int.reduceEq, Int.reduceNeg, ← List.map_drop, ← List.map_take, UInt8.reduceToNat, true_implies, implies_true, List.append_eq, y_preref1_Splice]) rfl
                  · try simp -implicitDefEqProofs only [goR, ↓upd_at, if_true, if_false, reduceCtorEq, ↓reduceIte, Nat.reduceEqDiff, Nat.reduceAdd, Nat.reduceSub, Nat.reduceMul, Nat.reduceBEq, Nat.reduceLT, Nat.reduceLeDiff, Int.reduceToNat, Int.reduceLE, Int.reduceLT, Int.reduceEq, Int.reduceNeg, ← List.map_drop, ← List.map_take, UInt8.reduceToNat, true_implies, implies_true, List.append_eq, y_preref1_Splice] at hp5
                    have hq5 := hp5
                    try simp only [goT] at hq5
                    refine w_region rfl (fun K hK => ?_)
                    simp -implicitDefEqProofs only [goR, ↓upd_at, if_true, if_false, reduceCtorEq, ↓reduceIte, Nat.reduceEqDiff, Nat.reduceAdd, Nat.reduceSub, Nat.reduceMul, Nat.reduceBEq, Nat.reduceLT, Nat.reduceLeDiff, Int.reduceToNat, Int.reduceLE, Int.reduceLT, Int.reduceEq, Int.reduceNeg, ← List.map_drop, ← List.map_take, UInt8.reduceToNat, true_implies, implies_true, List.append_eq, y_preref1_Splice, hp5]
                    (repeat' (first | ((with_reducible refine hK _ _ ?_); clear hK K) | (with_reducible apply And.intro) | (exact trivial) | (clear hK K; assumption) | (clear hK K; omega)))
                    refine cut_at H ?_
                    exact wk_ren ⟨[1, 2], [3]⟩ rfl rfl rfl rfl rfl (by simp -implicitDefEqProofs only [goW, goR, ↓upd_at, if_true, if_false, reduceCtorEq, ↓reduceIte, Nat.reduceEqDiff, Nat.reduceAdd, Nat.reduceSub, Nat.reduceMul, Nat.reduceBEq, Nat.reduceLT, Nat.reduceLeDiff, Int.reduceToNat, Int.reduceLE, Int.reduceLT, Int.reduceEq, Int.reduceNeg, ← List.map_drop, ← List.map_take, UInt8.reduceToNat, true_implies, implies_true, List.append_eq, y_preref1_Splice]) (by simp -implicitDefEqProofs only [goW, goR, ↓upd_at, if_true, if_false, reduceCtorEq, ↓reduceIte, Nat.reduceEqDiff, Nat.reduceAdd, Nat.reduceSub, Nat.reduceMul, Nat.reduceBEq, Nat.reduceLT, Nat.reduceLeDiff, Int.reduceToNat, Int.reduceLE, Int.reduceLT, Int.reduceEq, Int.reduceNeg, ← List.map_drop, ← List.map_take, UInt8.reduceToNat, true_implies, implies_true, List.append_eq, y_preref1_Splice]) (by simp -implicitDefEqProofs only [goW, goR, ↓upd_at, if_true, if_false, reduceCtorEq, ↓reduceIte, Nat.reduceEqDiff, Nat.reduceAdd, Nat.reduceSub, Nat.reduceMul, Nat.reduceBEq, Nat.reduceLT, Nat.reduceLeDiff, Int.reduceToNat, Int.reduceLE, Int.reduceLT, Int.reduceEq, Int.reduceNeg, ← List.map_drop, ← List.map_take, UInt8.reduceToNat, true_implies, implies_true, List.append_eq, y_preref1_Splice]) rfl
                · rintro x11 H
                  rw [preref1_Splice_j5] at H
                  rcases bsplit H with ⟨hp4, H⟩ | ⟨hp4, H⟩
                  · try simp -implicitDefEqProofs only [goR, ↓upd_at, if_true, if_false, reduceCtorEq, ↓reduceIte, Nat.reduceEqDiff, Nat.reduceAdd, Nat.reduceSub, Nat.reduceMul, Nat.reduceBEq, Nat.reduceLT, Nat.reduceLeDiff, Int.reduceToNat, Int.reduceLE, Int.reduceLT, Int.reduceEq, Int.reduceNeg, ← List.map_drop, ← List.map_take, UInt8.reduceToNat, true_implies, implies_true, List.append_eq, y_preref1_Splice] at hp4
                    have hq4 := hp4
                    try simp only [goT] at hq4
                    refine w_condT (by simp -implicitDefEqProofs only [goR, ↓upd_at, if_true, if_false, reduceCtorEq, ↓reduceIte, Nat.reduceEqDiff, Nat.reduceAdd, Nat.reduceSub, Nat.reduceMul, Nat.reduceBEq, Nat.reduceLT, Nat.reduceLeDiff, Int.reduceToNat, Int.reduceLE, Int.reduceLT, Int.reduceEq, Int.reduceNeg, ← List.map_drop, ← List.map_take, UInt8.reduceToNat, true_implies, implies_true, List.append_eq, y_preref1_Splice, hp4]) ?_
                    refine w_exit ?_
                    refine then_exit ?_
                    refine block_exit ?_
                    refine cut_at H ?_
                    exact wk_ren ⟨[1, 2], [3]⟩ rfl rfl rfl rfl rfl (by simp -implicitDefEqProofs only [goW, goR, ↓upd_at, if_true, if_false, reduceCtorEq, ↓reduceIte, Nat.reduceEqDiff, Nat.reduceAdd, Nat.reduceSub, Nat.reduceMul, Nat.reduceBEq, Nat.reduceLT, Nat.reduceLeDiff, Int.reduceToNat, Int.reduceLE, Int.reduceLT, Int.reduceEq, Int.reduceNeg, ← List.map_drop, ← List.map_take, UInt8.reduceToNat, true_implies, implies_true, List.append_eq, y_preref1_Splice]) (by simp -implicitDefEqProofs only [goW, goR, ↓upd_at, if_true, if_false, reduceCtorEq, ↓reduceIte, Nat.reduceEqDiff, Nat.reduceAdd, Nat.reduceSub, Nat.reduceMul, Nat.reduceBEq, Nat.reduceLT, Nat.reduceLeDiff, Int.reduceToNat, Int.reduceLE, Int.reduceLT, Int.reduceEq, Int.reduceNeg, ← List.map_drop, ← List.map_take, UInt8.reduceToNat, true_implies, implies_true, List.append_eq, y_preref1_Splice]) (by simp -implicitDefEqProofs only [goW, goR, ↓upd_at, if_true, if_false, reduceCtorEq, ↓reduceIte, Nat.reduceEqDiff, Nat.reduceAdd, Nat.reduceSub, Nat.reduceMul, Nat.reduceBEq, Nat.reduceLT, Nat.reduceLeDiff, Int.reduceToNat, Int.reduceLE, Int.reduceLT, Int.reduceEq, Int.reduceNeg, ← List.map_drop, ← List.map_take, UInt8.reduceToNat, true_implies, implies_true, List.append_eq, y_preref1_Splice]) rfl
                  · try simp -implicitDefEqProofs only [goR, ↓upd_at, if_true, if_false, reduceCtorEq, ↓reduceIte, Nat.reduceEqDiff, Nat.reduceAdd, Nat.reduceSub, Nat.reduceMul, Nat.reduceBEq, Nat.reduceLT, Nat.reduceLeDiff, Int.reduceToNat, Int.reduceLE, Int.reduceLT, Int.reduceEq, Int.reduceNeg, ← List.map_drop, ← List.map_take, UInt8.reduceToNat, true_implies, implies_true, List.append_eq, y_preref1_Splice] at hp4
                    have hq4 := hp4
                    try simp only [goT] at hq4
                    refine w_condF (by simp -implicitDefEqProofs only [goR, ↓upd_at, if_true, if_false, reduceCtorEq, ↓reduceIte, Nat.reduceEqDiff, Nat.reduceAdd, Nat.reduceSub, Nat.reduceMul, Nat.reduceBEq, Nat.reduceLT, Nat.reduceLeDiff, Int.reduceToNat, Int.reduceLE, Int.reduceLT, Int.reduceEq, Int.reduceNeg, ← List.map_drop, ← List.map_take, UInt8.reduceToNat, true_implies, implies_true, List.append_eq, y_preref1_Splice, hp4]) ?_
                    refine w_skip ?_
                    refine then_normal ?_
                    refine w_seq ?_
                    obtain ⟨hg2, H⟩ := gsplit H
                    obtain ⟨hg3, H⟩ := gsplit H
                    refine w_region rfl (fun K hK => ?_)
                    simp -implicitDefEqProofs only [goR, ↓upd_at, if_true, if_false, reduceCtorEq, ↓reduceIte, Nat.reduceEqDiff, Nat.reduceAdd, Nat.reduceSub, Nat.reduceMul, Nat.reduceBEq, Nat.reduceLT, Nat.reduceLeDiff, Int.reduceToNat, Int.reduceLE, Int.reduceLT, Int.reduceEq, Int.reduceNeg, ← List.map_drop, ← List.map_take, UInt8.reduceToNat, true_implies, implies_true, List.append_eq, y_preref1_Splice]
                    (repeat' (first | ((with_reducible refine hK _ _ ?_); clear hK K) | (with_reducible apply And.intro) | (exact trivial) | (clear hK K; assumption) | (clear hK K; omega)))
                    refine then_normal ?_
                    obtain ⟨hg4, H⟩ := gsplit H
                    have g1 := all_map one_dI [x1]
                    refine w_region rfl (fun K hK => ?_)
                    simp -implicitDefEqProofs only [goR, ↓upd_at, if_true, if_false, reduceCtorEq, ↓reduceIte, Nat.reduceEqDiff, Nat.reduceAdd, Nat.reduceSub, Nat.reduceMul, Nat.reduceBEq, Nat.reduceLT, Nat.reduceLeDiff, Int.reduceToNat, Int.reduceLE, Int.reduceLT, Int.reduceEq, Int.reduceNeg, ← List.map_drop, ← List.map_take, UInt8.reduceToNat, true_implies, implies_true, List.append_eq, y_preref1_Splice, g1]
                    (repeat' (first | ((with_reducible refine hK _ _ ?_); clear hK K) | (with_reducible apply And.intro) | (exact trivial) | (clear hK K; assumption) | (clear hK K; omega)))
                    refine block_normal ?_
                    refine cut_at H ?_
                    exact wk_ren ⟨[1, 2], [4]⟩ rfl rfl rfl rfl rfl (by simp -implicitDefEqProofs only [goW, goR, ↓upd_at, if_true, if_false, reduceCtorEq, ↓reduceIte, Nat.reduceEqDiff, Nat.reduceAdd, Nat.reduceSub, Nat.reduceMul, Nat.reduceBEq, Nat.reduceLT, Nat.reduceLeDiff, Int.reduceToNat, Int.reduceLE, Int.reduceLT, Int.reduceEq, Int.reduceNeg, ← List.map_drop, ← List.map_take, UInt8.reduceToNat, true_implies, implies_true, List.append_eq, y_preref1_Splice]) (by simp -implicitDefEqProofs only [goW, goR, ↓upd_at, if_true, if_false, reduceCtorEq, ↓reduceIte, Nat.reduceEqDiff, Nat.reduceAdd, Nat.reduceSub, Nat.reduceMul, Nat.reduceBEq, Nat.reduceLT, Nat.reduceLeDiff, Int.reduceToNat, Int.reduceLE, Int.reduceLT, Int.reduceEq, Int.reduceNeg, ← List.map_drop, ← List.map_take, UInt8.reduceToNat, true_implies, implies_true, List.append_eq, y_preref1_Splice]) (by simp -implicitDefEqProofs only [goW, goR, ↓upd_at, if_true, if_false, reduceCtorEq, ↓reduceIte, Nat.reduceEqDiff, Nat.reduceAdd, Nat.reduceSub, Nat.reduceMul, Nat.reduceBEq, Nat.reduceLT, Nat.reduceLeDiff, Int.reduceToNat, Int.reduceLE, Int.reduceLT, Int.reduceEq, Int.reduceNeg, ← List.map_drop, ← List.map_take, UInt8.reduceToNat, true_implies, implies_true, List.append_eq, y_preref1_Splice]) rfl
      · rintro ⟨x5, x6, x7⟩ H
        rw [preref1_Splice_j2] at H
        refine w_region rfl (fun K hK => ?_)
        simp -implicitDefEqProofs only [goR, ↓upd_at, if_true, if_false, reduceCtorEq, ↓reduceIte, Nat.reduceEqDiff, Nat.reduceAdd, Nat.reduceSub, Nat.reduceMul, Nat.reduceBEq, Nat.reduceLT, Nat.reduceLeDiff, Int.reduceToNat, Int.reduceLE, Int.reduceLT, Int.reduceEq, Int.reduceNeg, ← List.map_drop, ← List.map_take, UInt8.reduceToNat, true_implies, implies_true, List.append_eq, y_preref1_Splice]
        (repeat' (first | ((with_reducible refine hK _ _ ?_); clear hK K) | (with_reducible apply And.intro) | (exact trivial) | (clear hK K; assumption) | (clear hK K; omega)))
        refine round_at (inl_fin H hF1) ?_
        exact wk_ren ⟨[1, 2], [3]⟩ rfl rfl rfl rfl rfl (by simp -implicitDefEqProofs only [goW, goR, ↓upd_at, if_true, if_false, reduceCtorEq, ↓reduceIte, Nat.reduceEqDiff, Nat.reduceAdd, Nat.reduceSub, Nat.reduceMul, Nat.reduceBEq, Nat.reduceLT, Nat.reduceLeDiff, Int.reduceToNat, Int.reduceLE, Int.reduceLT, Int.reduceEq, Int.reduceNeg, ← List.map_drop, ← List.map_take, UInt8.reduceToNat, true_implies, implies_true, List.append_eq, y_preref1_Splice]) (by simp -implicitDefEqProofs only [goW, goR, ↓upd_at, if_true, if_false, reduceCtorEq, ↓reduceIte, Nat.reduceEqDiff, Nat.reduceAdd, Nat.reduceSub, Nat.reduceMul, Nat.reduceBEq, Nat.reduceLT, Nat.reduceLeDiff, Int.reduceToNat, Int.reduceLE, Int.reduceLT, Int.reduceEq, Int.reduceNeg, ← List.map_drop, ← List.map_take, UInt8.reduceToNat, true_implies, implies_true, List.append_eq, y_preref1_Splice]) (by simp -implicitDefEqProofs only [goW, goR, ↓upd_at, if_true, if_false, reduceCtorEq, ↓reduceIte, Nat.reduceEqDiff, Nat.reduceAdd, Nat.reduceSub, Nat.reduceMul, Nat.reduceBEq, Nat.reduceLT, Nat.reduceLeDiff, Int.reduceToNat, Int.reduceLE, Int.reduceLT, Int.reduceEq, Int.reduceNeg, ← List.map_drop, ← List.map_take, UInt8.reduceToNat, true_implies, implies_true, List.append_eq, y_preref1_Splice]) rfl
    · try simp -implicitDefEqProofs only [goR, ↓upd_at, if_true, if_false, reduceCtorEq, ↓reduceIte, Nat.reduceEqDiff, Nat.reduceAdd, Nat.reduceSub, Nat.reduceMul, Nat.reduceBEq, Nat.reduceLT, Nat.reduceLeDiff, Int.reduceToNat, Int.reduceLE, Int.reduceLT, Int.reduceEq, Int.reduceNeg, ← List.map_drop, ← List.map_take, UInt8.reduceToNat, true_implies, implies_true, List.append_eq, y_preref1_Splice] at hp1
      have hq1 := hp1
      try simp only [goT] at hq1
      refine w_condF (by simp -implicitDefEqProofs only [goR, ↓upd_at, if_true, if_false, reduceCtorEq, ↓reduceIte, Nat.reduceEqDiff, Nat.reduceAdd, Nat.reduceSub, Nat.reduceMul, Nat.reduceBEq, Nat.reduceLT, Nat.reduceLeDiff, Int.reduceToNat, Int.reduceLE, Int.reduceLT, Int.reduceEq, Int.reduceNeg, ← List.map_drop, ← List.map_take, UInt8.reduceToNat, true_implies, implies_true, List.append_eq, y_preref1_Splice, hp1]) ?_
      refine w_exit ?_
      refine then_exit ?_
      replace H := inrO_fin H hF1
      refine round_exit ?_
      refine block_exit ?_
      refine then_normal ?_
      refine w_seq ?_
      obtain ⟨hg12, H⟩ := gsplit H
      have g2 := all_map one_dI [(a0.length : Int)]
      refine w_region rfl (fun K hK => ?_)
      simp -implicitDefEqProofs only [goR, ↓upd_at, if_true, if_false, reduceCtorEq, ↓reduceIte, Nat.reduceEqDiff, Nat.reduceAdd, Nat.reduceSub, Nat.reduceMul, Nat.reduceBEq, Nat.reduceLT, Nat.reduceLeDiff, Int.reduceToNat, Int.reduceLE, Int.reduceLT, Int.reduceEq, Int.reduceNeg, ← List.map_drop, ← List.map_take, UInt8.reduceToNat, true_implies, implies_true, List.append_eq, y_preref1_Splice, g2]
      (repeat' (first | ((with_reducible refine hK _ _ ?_); clear hK K) | (with_reducible apply And.intro) | (exact trivial) | (clear hK K; assumption) | (clear hK K; omega)))
      refine then_normal ?_
      refine w_seq ?_
      refine w_region rfl (fun K hK => ?_)
      simp -implicitDefEqProofs only [goR, ↓upd_at, if_true, if_false, reduceCtorEq, ↓reduceIte, Nat.reduceEqDiff, Nat.reduceAdd, Nat.reduceSub, Nat.reduceMul, Nat.reduceBEq, Nat.reduceLT, Nat.reduceLeDiff, Int.reduceToNat, Int.reduceLE, Int.reduceLT, Int.reduceEq, Int.reduceNeg, ← List.map_drop, ← List.map_take, UInt8.reduceToNat, true_implies, implies_true, List.append_eq, y_preref1_Splice]
      (repeat' (first | ((with_reducible refine hK _ _ ?_); clear hK K) | (with_reducible apply And.intro) | (exact trivial) | (clear hK K; assumption) | (clear hK K; omega)))
      refine then_normal ?_
      refine w_ret ?_
      obtain rfl := Option.some.inj H
      simp -implicitDefEqProofs only [goQ, Try.results16, goR, ↓upd_at, if_true, if_false, reduceCtorEq, ↓reduceIte, Nat.reduceEqDiff, Nat.reduceAdd, Nat.reduceSub, Nat.reduceMul, Nat.reduceBEq, Nat.reduceLT, Nat.reduceLeDiff, Int.reduceToNat, Int.reduceLE, Int.reduceLT, Int.reduceEq, Int.reduceNeg, ← List.map_drop, ← List.map_take, UInt8.reduceToNat, true_implies, implies_true, List.append_eq, y_preref1_Splice]
theorem preref1_Splice_c (a0 : List UInt8) (r : Spliced) (H : preref1_Splice a0 = some r) : pf_preref1_Splice.pre [dS a0] = True ∧ pf_preref1_Splice.val [dS a0] = d_Spliced r :=
  ⟨PF.of_pre (enc := c_preref1_Splice) (f := fun a => preref1_Splice a) (e := e_preref1_Splice) (a := a0) H, PF.of_val (enc := c_preref1_Splice) (f := fun a => preref1_Splice a) (e := e_preref1_Splice) (a := a0) c_preref1_Splice_inj H⟩
end Go.Proofs.Ytgkacglpjmndbaa
