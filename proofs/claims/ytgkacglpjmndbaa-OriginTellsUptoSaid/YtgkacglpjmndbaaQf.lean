/- Functions of data for functions of the program: lex_Letter, preref1_Letter, lex_Digit, preref1_Digit, lex_Name, preref1_Name, lex_Signs, preref1_Signs, prelaw8_same, preref1_SameToken, preref1_SameTokens. Written by dec.py. -/
import Derived.Test.YtgkacglpjmndbaaQs
namespace Go.Proofs.Ytgkacglpjmndbaa
open Go.RowKit
set_option linter.unusedVariables false
set_option linter.unusedSimpArgs false
structure Call where
  Name : List UInt8
  File : Int
  At : Int
  deriving Inhabited, DecidableEq
def d_Call (x : Call) : D := .ag [.v (str x.Name), .v (.int .i64 x.File), .v (.int .i64 x.At)]
theorem d_Call_inj (x y : Call) (h : d_Call x = d_Call y) : x = y := by
  cases x; cases y
  simp only [d_Call, D.ag.injEq, List.cons.injEq, and_true] at h
  obtain ⟨h0, h1, h2⟩ := h
  have h0 := dS_inj _ _ h0
  have h1 := dI_inj _ _ h1
  have h2 := dI_inj _ _ h2
  subst_vars
  rfl
theorem d_Call_sinj (x y : Call) (h : strip1 (d_Call x) = strip1 (d_Call y)) : x = y := by
  cases x; cases y
  simp only [d_Call, strip1, strip0, List.map_cons, List.map_nil, D.ag.injEq, List.cons.injEq, and_true] at h
  obtain ⟨h0, h1, h2⟩ := h
  have h0 := dS_inj _ _ h0
  have h1 := dI_inj _ _ h1
  have h2 := dI_inj _ _ h2
  subst_vars
  rfl
theorem d_Call_binj (x y : Call) (h : (d_Call x).cells.map strip1 = (d_Call y).cells.map strip1) : x = y := by
  cases x; cases y
  simp only [d_Call, D.cells, strip1, strip0, List.map_cons, List.map_nil, List.cons.injEq, and_true] at h
  obtain ⟨h0, h1, h2⟩ := h
  have h0 := dS_inj _ _ h0
  have h1 := dI_inj _ _ h1
  have h2 := dI_inj _ _ h2
  subst_vars
  rfl
theorem one_Call (x : Call) : (d_Call x).cells.all D.one = true := rfl
structure Token where
  Kind : Int
  Text : List UInt8
  Space : Bool
  First : Bool
  File : Int
  At : Int
  End : Int
  Line : Int
  Hide : List (List UInt8)
  Calls : List Call
  Made : Int
  deriving Inhabited, DecidableEq
def d_Token (x : Token) : D := .ag [.v (.int .i64 x.Kind), .v (str x.Text), .v (.bool x.Space), .v (.bool x.First), .v (.int .i64 x.File), .v (.int .i64 x.At), .v (.int .i64 x.End), .v (.int .i64 x.Line), .sl 1 (List.map dS x.Hide), .sl 3 (List.map d_Call x.Calls), .v (.int .i64 x.Made)]
theorem d_Token_inj (x y : Token) (h : d_Token x = d_Token y) : x = y := by
  cases x; cases y
  simp only [d_Token, D.ag.injEq, List.cons.injEq, and_true] at h
  obtain ⟨h0, h1, h2, h3, h4, h5, h6, h7, h8, h9, h10⟩ := h
  have h0 := dI_inj _ _ h0
  have h1 := dS_inj _ _ h1
  have h2 := dB_inj _ _ h2
  have h3 := dB_inj _ _ h3
  have h4 := dI_inj _ _ h4
  have h5 := dI_inj _ _ h5
  have h6 := dI_inj _ _ h6
  have h7 := dI_inj _ _ h7
  have h8 := dL_inj (sz := 1) dS_inj _ _ h8
  have h9 := dL_inj (sz := 3) d_Call_inj _ _ h9
  have h10 := dI_inj _ _ h10
  subst_vars
  rfl
theorem d_Token_sinj (x y : Token) (h : strip1 (d_Token x) = strip1 (d_Token y)) : x = y := by
  cases x; cases y
  simp only [d_Token, strip1, strip0, List.map_cons, List.map_nil, D.ag.injEq, List.cons.injEq, and_true] at h
  obtain ⟨h0, h1, h2, h3, h4, h5, h6, h7, h8, h9, h10⟩ := h
  have h0 := dI_inj _ _ h0
  have h1 := dS_inj _ _ h1
  have h2 := dB_inj _ _ h2
  have h3 := dB_inj _ _ h3
  have h4 := dI_inj _ _ h4
  have h5 := dI_inj _ _ h5
  have h6 := dI_inj _ _ h6
  have h7 := dI_inj _ _ h7
  have h8 := dL_inj (sz := 0) dS_inj _ _ h8
  have h9 := dL_inj (sz := 0) d_Call_inj _ _ h9
  have h10 := dI_inj _ _ h10
  subst_vars
  rfl
theorem d_Token_binj (x y : Token) (h : (d_Token x).cells.map strip1 = (d_Token y).cells.map strip1) : x = y := by
  cases x; cases y
  simp only [d_Token, D.cells, strip1, strip0, List.map_cons, List.map_nil, List.cons.injEq, and_true] at h
  obtain ⟨h0, h1, h2, h3, h4, h5, h6, h7, h8, h9, h10⟩ := h
  have h0 := dI_inj _ _ h0
  have h1 := dS_inj _ _ h1
  have h2 := dB_inj _ _ h2
  have h3 := dB_inj _ _ h3
  have h4 := dI_inj _ _ h4
  have h5 := dI_inj _ _ h5
  have h6 := dI_inj _ _ h6
  have h7 := dI_inj _ _ h7
  have h8 := dL_inj (sz := 0) dS_inj _ _ h8
  have h9 := dL_inj (sz := 0) d_Call_inj _ _ h9
  have h10 := dI_inj _ _ h10
  subst_vars
  rfl
theorem one_Token (x : Token) : (d_Token x).cells.all D.one = true := rfl
noncomputable def lex_Letter_j1 : Bool → Option Bool
  | x1 => some x1
noncomputable def lex_Letter (a0 : UInt8) : Option Bool :=
  if (leI 97 (a0.toNat : Int)) = true then if (leI (a0.toNat : Int) 122) = true then lex_Letter_j1 true else if (leI 65 (a0.toNat : Int)) = true then if (leI (a0.toNat : Int) 90) = true then lex_Letter_j1 true else lex_Letter_j1 (eqI (a0.toNat : Int) 95) else lex_Letter_j1 (eqI (a0.toNat : Int) 95) else if (leI 65 (a0.toNat : Int)) = true then if (leI (a0.toNat : Int) 90) = true then lex_Letter_j1 true else lex_Letter_j1 (eqI (a0.toNat : Int) 95) else lex_Letter_j1 (eqI (a0.toNat : Int) 95)
def e_lex_Letter : Bool → D := fun r => dB r
def c_lex_Letter : UInt8 → List D := fun a => [dU a]
theorem c_lex_Letter_inj : Inj c_lex_Letter := by intro a b h; simp only [c_lex_Letter, List.map_cons, List.map_nil, List.cons.injEq, and_true] at h; exact (dU_inj _ _) h
noncomputable def pf_lex_Letter : PF := PF.of c_lex_Letter (fun a => lex_Letter a) e_lex_Letter
noncomputable def t_lex_Letter : Tab := tabOf Try.prog [] []
theorem t_lex_Letter_ok : TabOk t_lex_Letter := tabOf_ok (by exact trivial) (by exact trivial)
theorem y_lex_Letter : ((type_of% @t_lex_Letter.eq_1) ∧ ((type_of% @c_lex_Letter.eq_1) ∧ (type_of% @e_lex_Letter.eq_1))) := ⟨@t_lex_Letter.eq_1, ⟨@c_lex_Letter.eq_1, @e_lex_Letter.eq_1⟩⟩
set_option maxRecDepth 100000 in
set_option maxHeartbeats 4000000 in
theorem lex_Letter_ok : PureOk Try.prog 42 pf_lex_Letter := by
  refine pure_of (t := t_lex_Letter) (pure := fun n => [].contains n) c_lex_Letter_inj rfl t_lex_Letter_ok mixed (fun n hn => tabOf_pure rfl n hn) Try.func42 rfl (by kernel_rfl) (fun a => by simp [c_lex_Letter, Try.ntmps42]) ?_
  rintro a0 out H
  simp only [lex_Letter] at H
  show aC _ _ (sig0 (List.map (fun d => AV.c (C.d d)) (c_lex_Letter a0))) _ _
  refine w_seq ?_
  refine w_region rfl (fun K hK => ?_)
  simp -implicitDefEqProofs only [goR, ↓upd_at, if_true, if_false, reduceCtorEq, ↓reduceIte, Nat.reduceEqDiff, Nat.reduceAdd, Nat.reduceSub, Nat.reduceMul, Nat.reduceBEq, Nat.reduceLT, Nat.reduceLeDiff, Int.reduceToNat, Int.reduceLE, Int.reduceLT, Int.reduceEq, Int.reduceNeg, ← List.map_drop, ← List.map_take, UInt8.reduceToNat, true_implies, implies_true, List.append_eq, y_lex_Letter]
  (repeat' (first | ((with_reducible refine hK _ _ ?_); clear hK K) | (with_reducible apply And.intro) | (exact trivial) | (clear hK K; assumption) | (clear hK K; omega)))
  refine then_normal ?_
  refine w_cut lex_Letter_j1 (fun s => [(2, .c (.d (.v (.bool s))))]) (fun s => []) [] out ?_ ?_
  · rcases bsplit H with ⟨hp1, H⟩ | ⟨hp1, H⟩
    · try simp -implicitDefEqProofs only [goR, ↓upd_at, if_true, if_false, reduceCtorEq, ↓reduceIte, Nat.reduceEqDiff, Nat.reduceAdd, Nat.reduceSub, Nat.reduceMul, Nat.reduceBEq, Nat.reduceLT, Nat.reduceLeDiff, Int.reduceToNat, Int.reduceLE, Int.reduceLT, Int.reduceEq, Int.reduceNeg, ← List.map_drop, ← List.map_take, UInt8.reduceToNat, true_implies, implies_true, List.append_eq, y_lex_Letter] at hp1
      have hq1 := hp1
      try simp only [goT] at hq1
      rcases bsplit H with ⟨hp2, H⟩ | ⟨hp2, H⟩
      · try simp -implicitDefEqProofs only [goR, ↓upd_at, if_true, if_false, reduceCtorEq, ↓reduceIte, Nat.reduceEqDiff, Nat.reduceAdd, Nat.reduceSub, Nat.reduceMul, Nat.reduceBEq, Nat.reduceLT, Nat.reduceLeDiff, Int.reduceToNat, Int.reduceLE, Int.reduceLT, Int.reduceEq, Int.reduceNeg, ← List.map_drop, ← List.map_take, UInt8.reduceToNat, true_implies, implies_true, List.append_eq, y_lex_Letter] at hp2
        have hq2 := hp2
        try simp only [goT] at hq2
        refine w_region rfl (fun K hK => ?_)
        simp -implicitDefEqProofs only [goR, ↓upd_at, if_true, if_false, reduceCtorEq, ↓reduceIte, Nat.reduceEqDiff, Nat.reduceAdd, Nat.reduceSub, Nat.reduceMul, Nat.reduceBEq, Nat.reduceLT, Nat.reduceLeDiff, Int.reduceToNat, Int.reduceLE, Int.reduceLT, Int.reduceEq, Int.reduceNeg, ← List.map_drop, ← List.map_take, UInt8.reduceToNat, true_implies, implies_true, List.append_eq, y_lex_Letter, hp1, hp2]
        (repeat' (first | ((with_reducible refine hK _ _ ?_); clear hK K) | (with_reducible apply And.intro) | (exact trivial) | (clear hK K; assumption) | (clear hK K; omega)))
        refine cut_at H ?_
        exact wk_ren ⟨[], []⟩ rfl rfl rfl rfl rfl (by simp -implicitDefEqProofs only [goW, goR, ↓upd_at, if_true, if_false, reduceCtorEq, ↓reduceIte, Nat.reduceEqDiff, Nat.reduceAdd, Nat.reduceSub, Nat.reduceMul, Nat.reduceBEq, Nat.reduceLT, Nat.reduceLeDiff, Int.reduceToNat, Int.reduceLE, Int.reduceLT, Int.reduceEq, Int.reduceNeg, ← List.map_drop, ← List.map_take, UInt8.reduceToNat, true_implies, implies_true, List.append_eq, y_lex_Letter]) (by simp -implicitDefEqProofs only [goW, goR, ↓upd_at, if_true, if_false, reduceCtorEq, ↓reduceIte, Nat.reduceEqDiff, Nat.reduceAdd, Nat.reduceSub, Nat.reduceMul, Nat.reduceBEq, Nat.reduceLT, Nat.reduceLeDiff, Int.reduceToNat, Int.reduceLE, Int.reduceLT, Int.reduceEq, Int.reduceNeg, ← List.map_drop, ← List.map_take, UInt8.reduceToNat, true_implies, implies_true, List.append_eq, y_lex_Letter]) (by simp -implicitDefEqProofs only [goW, goR, ↓upd_at, if_true, if_false, reduceCtorEq, ↓reduceIte, Nat.reduceEqDiff, Nat.reduceAdd, Nat.reduceSub, Nat.reduceMul, Nat.reduceBEq, Nat.reduceLT, Nat.reduceLeDiff, Int.reduceToNat, Int.reduceLE, Int.reduceLT, Int.reduceEq, Int.reduceNeg, ← List.map_drop, ← List.map_take, UInt8.reduceToNat, true_implies, implies_true, List.append_eq, y_lex_Letter]) rfl
      · try simp -implicitDefEqProofs only [goR, ↓upd_at, if_true, if_false, reduceCtorEq, ↓reduceIte, Nat.reduceEqDiff, Nat.reduceAdd, Nat.reduceSub, Nat.reduceMul, Nat.reduceBEq, Nat.reduceLT, Nat.reduceLeDiff, Int.reduceToNat, Int.reduceLE, Int.reduceLT, Int.reduceEq, Int.reduceNeg, ← List.map_drop, ← List.map_take, UInt8.reduceToNat, true_implies, implies_true, List.append_eq, y_lex_Letter] at hp2
        have hq2 := hp2
        try simp only [goT] at hq2
        rcases bsplit H with ⟨hp3, H⟩ | ⟨hp3, H⟩
        · try simp -implicitDefEqProofs only [goR, ↓upd_at, if_true, if_false, reduceCtorEq, ↓reduceIte, Nat.reduceEqDiff, Nat.reduceAdd, Nat.reduceSub, Nat.reduceMul, Nat.reduceBEq, Nat.reduceLT, Nat.reduceLeDiff, Int.reduceToNat, Int.reduceLE, Int.reduceLT, Int.reduceEq, Int.reduceNeg, ← List.map_drop, ← List.map_take, UInt8.reduceToNat, true_implies, implies_true, List.append_eq, y_lex_Letter] at hp3
          have hq3 := hp3
          try simp only [goT] at hq3
          rcases bsplit H with ⟨hp4, H⟩ | ⟨hp4, H⟩
          · try simp -implicitDefEqProofs only [goR, ↓upd_at, if_true, if_false, reduceCtorEq, ↓reduceIte, Nat.reduceEqDiff, Nat.reduceAdd, Nat.reduceSub, Nat.reduceMul, Nat.reduceBEq, Nat.reduceLT, Nat.reduceLeDiff, Int.reduceToNat, Int.reduceLE, Int.reduceLT, Int.reduceEq, Int.reduceNeg, ← List.map_drop, ← List.map_take, UInt8.reduceToNat, true_implies, implies_true, List.append_eq, y_lex_Letter] at hp4
            have hq4 := hp4
            try simp only [goT] at hq4
            refine w_region rfl (fun K hK => ?_)
            simp -implicitDefEqProofs only [goR, ↓upd_at, if_true, if_false, reduceCtorEq, ↓reduceIte, Nat.reduceEqDiff, Nat.reduceAdd, Nat.reduceSub, Nat.reduceMul, Nat.reduceBEq, Nat.reduceLT, Nat.reduceLeDiff, Int.reduceToNat, Int.reduceLE, Int.reduceLT, Int.reduceEq, Int.reduceNeg, ← List.map_drop, ← List.map_take, UInt8.reduceToNat, true_implies, implies_true, List.append_eq, y_lex_Letter, hp1, hp2, hp3, hp4]
            (repeat' (first | ((with_reducible refine hK _ _ ?_); clear hK K) | (with_reducible apply And.intro) | (exact trivial) | (clear hK K; assumption) | (clear hK K; omega)))
            refine cut_at H ?_
            exact wk_ren ⟨[], []⟩ rfl rfl rfl rfl rfl (by simp -implicitDefEqProofs only [goW, goR, ↓upd_at, if_true, if_false, reduceCtorEq, ↓reduceIte, Nat.reduceEqDiff, Nat.reduceAdd, Nat.reduceSub, Nat.reduceMul, Nat.reduceBEq, Nat.reduceLT, Nat.reduceLeDiff, Int.reduceToNat, Int.reduceLE, Int.reduceLT, Int.reduceEq, Int.reduceNeg, ← List.map_drop, ← List.map_take, UInt8.reduceToNat, true_implies, implies_true, List.append_eq, y_lex_Letter]) (by simp -implicitDefEqProofs only [goW, goR, ↓upd_at, if_true, if_false, reduceCtorEq, ↓reduceIte, Nat.reduceEqDiff, Nat.reduceAdd, Nat.reduceSub, Nat.reduceMul, Nat.reduceBEq, Nat.reduceLT, Nat.reduceLeDiff, Int.reduceToNat, Int.reduceLE, Int.reduceLT, Int.reduceEq, Int.reduceNeg, ← List.map_drop, ← List.map_take, UInt8.reduceToNat, true_implies, implies_true, List.append_eq, y_lex_Letter]) (by simp -implicitDefEqProofs only [goW, goR, ↓upd_at, if_true, if_false, reduceCtorEq, ↓reduceIte, Nat.reduceEqDiff, Nat.reduceAdd, Nat.reduceSub, Nat.reduceMul, Nat.reduceBEq, Nat.reduceLT, Nat.reduceLeDiff, Int.reduceToNat, Int.reduceLE, Int.reduceLT, Int.reduceEq, Int.reduceNeg, ← List.map_drop, ← List.map_take, UInt8.reduceToNat, true_implies, implies_true, List.append_eq, y_lex_Letter]) rfl
          · try simp -implicitDefEqProofs only [goR, ↓upd_at, if_true, if_false, reduceCtorEq, ↓reduceIte, Nat.reduceEqDiff, Nat.reduceAdd, Nat.reduceSub, Nat.reduceMul, Nat.reduceBEq, Nat.reduceLT, Nat.reduceLeDiff, Int.reduceToNat, Int.reduceLE, Int.reduceLT, Int.reduceEq, Int.reduceNeg, ← List.map_drop, ← List.map_take, UInt8.reduceToNat, true_implies, implies_true, List.append_eq, y_lex_Letter] at hp4
            have hq4 := hp4
            try simp only [goT] at hq4
            refine w_region rfl (fun K hK => ?_)
            simp -implicitDefEqProofs only [goR, ↓upd_at, if_true, if_false, reduceCtorEq, ↓reduceIte, Nat.reduceEqDiff, Nat.reduceAdd, Nat.reduceSub, Nat.reduceMul, Nat.reduceBEq, Nat.reduceLT, Nat.reduceLeDiff, Int.reduceToNat, Int.reduceLE, Int.reduceLT, Int.reduceEq, Int.reduceNeg, ← List.map_drop, ← List.map_take, UInt8.reduceToNat, true_implies, implies_true, List.append_eq, y_lex_Letter, hp1, hp2, hp3, hp4]
            (repeat' (first | ((with_reducible refine hK _ _ ?_); clear hK K) | (with_reducible apply And.intro) | (exact trivial) | (clear hK K; assumption) | (clear hK K; omega)))
            refine cut_at H ?_
            exact wk_ren ⟨[], []⟩ rfl rfl rfl rfl rfl (by simp -implicitDefEqProofs only [goW, goR, ↓upd_at, if_true, if_false, reduceCtorEq, ↓reduceIte, Nat.reduceEqDiff, Nat.reduceAdd, Nat.reduceSub, Nat.reduceMul, Nat.reduceBEq, Nat.reduceLT, Nat.reduceLeDiff, Int.reduceToNat, Int.reduceLE, Int.reduceLT, Int.reduceEq, Int.reduceNeg, ← List.map_drop, ← List.map_take, UInt8.reduceToNat, true_implies, implies_true, List.append_eq, y_lex_Letter]) (by simp -implicitDefEqProofs only [goW, goR, ↓upd_at, if_true, if_false, reduceCtorEq, ↓reduceIte, Nat.reduceEqDiff, Nat.reduceAdd, Nat.reduceSub, Nat.reduceMul, Nat.reduceBEq, Nat.reduceLT, Nat.reduceLeDiff, Int.reduceToNat, Int.reduceLE, Int.reduceLT, Int.reduceEq, Int.reduceNeg, ← List.map_drop, ← List.map_take, UInt8.reduceToNat, true_implies, implies_true, List.append_eq, y_lex_Letter]) (by simp -implicitDefEqProofs only [goW, goR, ↓upd_at, if_true, if_false, reduceCtorEq, ↓reduceIte, Nat.reduceEqDiff, Nat.reduceAdd, Nat.reduceSub, Nat.reduceMul, Nat.reduceBEq, Nat.reduceLT, Nat.reduceLeDiff, Int.reduceToNat, Int.reduceLE, Int.reduceLT, Int.reduceEq, Int.reduceNeg, ← List.map_drop, ← List.map_take, UInt8.reduceToNat, true_implies, implies_true, List.append_eq, y_lex_Letter]) rfl
        · try simp -implicitDefEqProofs only [goR, ↓upd_at, if_true, if_false, reduceCtorEq, ↓reduceIte, Nat.reduceEqDiff, Nat.reduceAdd, Nat.reduceSub, Nat.reduceMul, Nat.reduceBEq, Nat.reduceLT, Nat.reduceLeDiff, Int.reduceToNat, Int.reduceLE, Int.reduceLT, Int.reduceEq, Int.reduceNeg, ← List.map_drop, ← List.map_take, UInt8.reduceToNat, true_implies, implies_true, List.append_eq, y_lex_Letter] at hp3
          have hq3 := hp3
          try simp only [goT] at hq3
          refine w_region rfl (fun K hK => ?_)
          simp -implicitDefEqProofs only [goR, ↓upd_at, if_true, if_false, reduceCtorEq, ↓reduceIte, Nat.reduceEqDiff, Nat.reduceAdd, Nat.reduceSub, Nat.reduceMul, Nat.reduceBEq, Nat.reduceLT, Nat.reduceLeDiff, Int.reduceToNat, Int.reduceLE, Int.reduceLT, Int.reduceEq, Int.reduceNeg, ← List.map_drop, ← List.map_take, UInt8.reduceToNat, true_implies, implies_true, List.append_eq, y_lex_Letter, hp1, hp2, hp3]
          (repeat' (first | ((with_reducible refine hK _ _ ?_); clear hK K) | (with_reducible apply And.intro) | (exact trivial) | (clear hK K; assumption) | (clear hK K; omega)))
          refine cut_at H ?_
          exact wk_ren ⟨[], []⟩ rfl rfl rfl rfl rfl (by simp -implicitDefEqProofs only [goW, goR, ↓upd_at, if_true, if_false, reduceCtorEq, ↓reduceIte, Nat.reduceEqDiff, Nat.reduceAdd, Nat.reduceSub, Nat.reduceMul, Nat.reduceBEq, Nat.reduceLT, Nat.reduceLeDiff, Int.reduceToNat, Int.reduceLE, Int.reduceLT, Int.reduceEq, Int.reduceNeg, ← List.map_drop, ← List.map_take, UInt8.reduceToNat, true_implies, implies_true, List.append_eq, y_lex_Letter]) (by simp -implicitDefEqProofs only [goW, goR, ↓upd_at, if_true, if_false, reduceCtorEq, ↓reduceIte, Nat.reduceEqDiff, Nat.reduceAdd, Nat.reduceSub, Nat.reduceMul, Nat.reduceBEq, Nat.reduceLT, Nat.reduceLeDiff, Int.reduceToNat, Int.reduceLE, Int.reduceLT, Int.reduceEq, Int.reduceNeg, ← List.map_drop, ← List.map_take, UInt8.reduceToNat, true_implies, implies_true, List.append_eq, y_lex_Letter]) (by simp -implicitDefEqProofs only [goW, goR, ↓upd_at, if_true, if_false, reduceCtorEq, ↓reduceIte, Nat.reduceEqDiff, Nat.reduceAdd, Nat.reduceSub, Nat.reduceMul, Nat.reduceBEq, Nat.reduceLT, Nat.reduceLeDiff, Int.reduceToNat, Int.reduceLE, Int.reduceLT, Int.reduceEq, Int.reduceNeg, ← List.map_drop, ← List.map_take, UInt8.reduceToNat, true_implies, implies_true, List.append_eq, y_lex_Letter]) rfl
    · try simp -implicitDefEqProofs only [goR, ↓upd_at, if_true, if_false, reduceCtorEq, ↓reduceIte, Nat.reduceEqDiff, Nat.reduceAdd, Nat.reduceSub, Nat.reduceMul, Nat.reduceBEq, Nat.reduceLT, Nat.reduceLeDiff, Int.reduceToNat, Int.reduceLE, Int.reduceLT, Int.reduceEq, Int.reduceNeg, ← List.map_drop, ← List.map_take, UInt8.reduceToNat, true_implies, implies_true, List.append_eq, y_lex_Letter] at hp1
      have hq1 := hp1
      try simp only [goT] at hq1
      rcases bsplit H with ⟨hp5, H⟩ | ⟨hp5, H⟩
      · try simp -implicitDefEqProofs only [goR, ↓upd_at, if_true, if_false, reduceCtorEq, ↓reduceIte, Nat.reduceEqDiff, Nat.reduceAdd, Nat.reduceSub, Nat.reduceMul, Nat.reduceBEq, Nat.reduceLT, Nat.reduceLeDiff, Int.reduceToNat, Int.reduceLE, Int.reduceLT, Int.reduceEq, Int.reduceNeg, ← List.map_drop, ← List.map_take, UInt8.reduceToNat, true_implies, implies_true, List.append_eq, y_lex_Letter] at hp5
        have hq5 := hp5
        try simp only [goT] at hq5
        rcases bsplit H with ⟨hp6, H⟩ | ⟨hp6, H⟩
        · try simp -implicitDefEqProofs only [goR, ↓upd_at, if_true, if_false, reduceCtorEq, ↓reduceIte, Nat.reduceEqDiff, Nat.reduceAdd, Nat.reduceSub, Nat.reduceMul, Nat.reduceBEq, Nat.reduceLT, Nat.reduceLeDiff, Int.reduceToNat, Int.reduceLE, Int.reduceLT, Int.reduceEq, Int.reduceNeg, ← List.map_drop, ← List.map_take, UInt8.reduceToNat, true_implies, implies_true, List.append_eq, y_lex_Letter] at hp6
          have hq6 := hp6
          try simp only [goT] at hq6
          refine w_region rfl (fun K hK => ?_)
          simp -implicitDefEqProofs only [goR, ↓upd_at, if_true, if_false, reduceCtorEq, ↓reduceIte, Nat.reduceEqDiff, Nat.reduceAdd, Nat.reduceSub, Nat.reduceMul, Nat.reduceBEq, Nat.reduceLT, Nat.reduceLeDiff, Int.reduceToNat, Int.reduceLE, Int.reduceLT, Int.reduceEq, Int.reduceNeg, ← List.map_drop, ← List.map_take, UInt8.reduceToNat, true_implies, implies_true, List.append_eq, y_lex_Letter, hp1, hp5, hp6]
          (repeat' (first | ((with_reducible refine hK _ _ ?_); clear hK K) | (with_reducible apply And.intro) | (exact trivial) | (clear hK K; assumption) | (clear hK K; omega)))
          refine cut_at H ?_
          exact wk_ren ⟨[], []⟩ rfl rfl rfl rfl rfl (by simp -implicitDefEqProofs only [goW, goR, ↓upd_at, if_true, if_false, reduceCtorEq, ↓reduceIte, Nat.reduceEqDiff, Nat.reduceAdd, Nat.reduceSub, Nat.reduceMul, Nat.reduceBEq, Nat.reduceLT, Nat.reduceLeDiff, Int.reduceToNat, Int.reduceLE, Int.reduceLT, Int.reduceEq, Int.reduceNeg, ← List.map_drop, ← List.map_take, UInt8.reduceToNat, true_implies, implies_true, List.append_eq, y_lex_Letter]) (by simp -implicitDefEqProofs only [goW, goR, ↓upd_at, if_true, if_false, reduceCtorEq, ↓reduceIte, Nat.reduceEqDiff, Nat.reduceAdd, Nat.reduceSub, Nat.reduceMul, Nat.reduceBEq, Nat.reduceLT, Nat.reduceLeDiff, Int.reduceToNat, Int.reduceLE, Int.reduceLT, Int.reduceEq, Int.reduceNeg, ← List.map_drop, ← List.map_take, UInt8.reduceToNat, true_implies, implies_true, List.append_eq, y_lex_Letter]) (by simp -implicitDefEqProofs only [goW, goR, ↓upd_at, if_true, if_false, reduceCtorEq, ↓reduceIte, Nat.reduceEqDiff, Nat.reduceAdd, Nat.reduceSub, Nat.reduceMul, Nat.reduceBEq, Nat.reduceLT, Nat.reduceLeDiff, Int.reduceToNat, Int.reduceLE, Int.reduceLT, Int.reduceEq, Int.reduceNeg, ← List.map_drop, ← List.map_take, UInt8.reduceToNat, true_implies, implies_true, List.append_eq, y_lex_Letter]) rfl
        · try simp -implicitDefEqProofs only [goR, ↓upd_at, if_true, if_false, reduceCtorEq, ↓reduceIte, Nat.reduceEqDiff, Nat.reduceAdd, Nat.reduceSub, Nat.reduceMul, Nat.reduceBEq, Nat.reduceLT, Nat.reduceLeDiff, Int.reduceToNat, Int.reduceLE, Int.reduceLT, Int.reduceEq, Int.reduceNeg, ← List.map_drop, ← List.map_take, UInt8.reduceToNat, true_implies, implies_true, List.append_eq, y_lex_Letter] at hp6
          have hq6 := hp6
          try simp only [goT] at hq6
          refine w_region rfl (fun K hK => ?_)
          simp -implicitDefEqProofs only [goR, ↓upd_at, if_true, if_false, reduceCtorEq, ↓reduceIte, Nat.reduceEqDiff, Nat.reduceAdd, Nat.reduceSub, Nat.reduceMul, Nat.reduceBEq, Nat.reduceLT, Nat.reduceLeDiff, Int.reduceToNat, Int.reduceLE, Int.reduceLT, Int.reduceEq, Int.reduceNeg, ← List.map_drop, ← List.map_take, UInt8.reduceToNat, true_implies, implies_true, List.append_eq, y_lex_Letter, hp1, hp5, hp6]
          (repeat' (first | ((with_reducible refine hK _ _ ?_); clear hK K) | (with_reducible apply And.intro) | (exact trivial) | (clear hK K; assumption) | (clear hK K; omega)))
          refine cut_at H ?_
          exact wk_ren ⟨[], []⟩ rfl rfl rfl rfl rfl (by simp -implicitDefEqProofs only [goW, goR, ↓upd_at, if_true, if_false, reduceCtorEq, ↓reduceIte, Nat.reduceEqDiff, Nat.reduceAdd, Nat.reduceSub, Nat.reduceMul, Nat.reduceBEq, Nat.reduceLT, Nat.reduceLeDiff, Int.reduceToNat, Int.reduceLE, Int.reduceLT, Int.reduceEq, Int.reduceNeg, ← List.map_drop, ← List.map_take, UInt8.reduceToNat, true_implies, implies_true, List.append_eq, y_lex_Letter]) (by simp -implicitDefEqProofs only [goW, goR, ↓upd_at, if_true, if_false, reduceCtorEq, ↓reduceIte, Nat.reduceEqDiff, Nat.reduceAdd, Nat.reduceSub, Nat.reduceMul, Nat.reduceBEq, Nat.reduceLT, Nat.reduceLeDiff, Int.reduceToNat, Int.reduceLE, Int.reduceLT, Int.reduceEq, Int.reduceNeg, ← List.map_drop, ← List.map_take, UInt8.reduceToNat, true_implies, implies_true, List.append_eq, y_lex_Letter]) (by simp -implicitDefEqProofs only [goW, goR, ↓upd_at, if_true, if_false, reduceCtorEq, ↓reduceIte, Nat.reduceEqDiff, Nat.reduceAdd, Nat.reduceSub, Nat.reduceMul, Nat.reduceBEq, Nat.reduceLT, Nat.reduceLeDiff, Int.reduceToNat, Int.reduceLE, Int.reduceLT, Int.reduceEq, Int.reduceNeg, ← List.map_drop, ← List.map_take, UInt8.reduceToNat, true_implies, implies_true, List.append_eq, y_lex_Letter]) rfl
      · try simp -implicitDefEqProofs only [goR, ↓upd_at, if_true, if_false, reduceCtorEq, ↓reduceIte, Nat.reduceEqDiff, Nat.reduceAdd, Nat.reduceSub, Nat.reduceMul, Nat.reduceBEq, Nat.reduceLT, Nat.reduceLeDiff, Int.reduceToNat, Int.reduceLE, Int.reduceLT, Int.reduceEq, Int.reduceNeg, ← List.map_drop, ← List.map_take, UInt8.reduceToNat, true_implies, implies_true, List.append_eq, y_lex_Letter] at hp5
        have hq5 := hp5
        try simp only [goT] at hq5
        refine w_region rfl (fun K hK => ?_)
        simp -implicitDefEqProofs only [goR, ↓upd_at, if_true, if_false, reduceCtorEq, ↓reduceIte, Nat.reduceEqDiff, Nat.reduceAdd, Nat.reduceSub, Nat.reduceMul, Nat.reduceBEq, Nat.reduceLT, Nat.reduceLeDiff, Int.reduceToNat, Int.reduceLE, Int.reduceLT, Int.reduceEq, Int.reduceNeg, ← List.map_drop, ← List.map_take, UInt8.reduceToNat, true_implies, implies_true, List.append_eq, y_lex_Letter, hp1, hp5]
        (repeat' (first | ((with_reducible refine hK _ _ ?_); clear hK K) | (with_reducible apply And.intro) | (exact trivial) | (clear hK K; assumption) | (clear hK K; omega)))
        refine cut_at H ?_
        exact wk_ren ⟨[], []⟩ rfl rfl rfl rfl rfl (by simp -implicitDefEqProofs only [goW, goR, ↓upd_at, if_true, if_false, reduceCtorEq, ↓reduceIte, Nat.reduceEqDiff, Nat.reduceAdd, Nat.reduceSub, Nat.reduceMul, Nat.reduceBEq, Nat.reduceLT, Nat.reduceLeDiff, Int.reduceToNat, Int.reduceLE, Int.reduceLT, Int.reduceEq, Int.reduceNeg, ← List.map_drop, ← List.map_take, UInt8.reduceToNat, true_implies, implies_true, List.append_eq, y_lex_Letter]) (by simp -implicitDefEqProofs only [goW, goR, ↓upd_at, if_true, if_false, reduceCtorEq, ↓reduceIte, Nat.reduceEqDiff, Nat.reduceAdd, Nat.reduceSub, Nat.reduceMul, Nat.reduceBEq, Nat.reduceLT, Nat.reduceLeDiff, Int.reduceToNat, Int.reduceLE, Int.reduceLT, Int.reduceEq, Int.reduceNeg, ← List.map_drop, ← List.map_take, UInt8.reduceToNat, true_implies, implies_true, List.append_eq, y_lex_Letter]) (by simp -implicitDefEqProofs only [goW, goR, ↓upd_at, if_true, if_false, reduceCtorEq, ↓reduceIte, Nat.reduceEqDiff, Nat.reduceAdd, Nat.reduceSub, Nat.reduceMul, Nat.reduceBEq, Nat.reduceLT, Nat.reduceLeDiff, Int.reduceToNat, Int.reduceLE, Int.reduceLT, Int.reduceEq, Int.reduceNeg, ← List.map_drop, ← List.map_take, UInt8.reduceToNat, true_implies, implies_true, List.append_eq, y_lex_Letter]) rfl
  · rintro x1 H
    rw [lex_Letter_j1] at H
    refine w_ret ?_
    obtain rfl := Option.some.inj H
    simp -implicitDefEqProofs only [goQ, Try.results42, goR, ↓upd_at, if_true, if_false, reduceCtorEq, ↓reduceIte, Nat.reduceEqDiff, Nat.reduceAdd, Nat.reduceSub, Nat.reduceMul, Nat.reduceBEq, Nat.reduceLT, Nat.reduceLeDiff, Int.reduceToNat, Int.reduceLE, Int.reduceLT, Int.reduceEq, Int.reduceNeg, ← List.map_drop, ← List.map_take, UInt8.reduceToNat, true_implies, implies_true, List.append_eq, y_lex_Letter]
theorem lex_Letter_c (a0 : UInt8) (r : Bool) (H : lex_Letter a0 = some r) : pf_lex_Letter.pre [dU a0] = True ∧ pf_lex_Letter.val [dU a0] = dB r :=
  ⟨PF.of_pre (enc := c_lex_Letter) (f := fun a => lex_Letter a) (e := e_lex_Letter) (a := a0) H, PF.of_val (enc := c_lex_Letter) (f := fun a => lex_Letter a) (e := e_lex_Letter) (a := a0) c_lex_Letter_inj H⟩
noncomputable def preref1_Letter_j1 : Bool → Option Bool
  | x1 => some x1
noncomputable def preref1_Letter (a0 : UInt8) : Option Bool :=
  if (leI 97 (a0.toNat : Int)) = true then if (leI (a0.toNat : Int) 122) = true then preref1_Letter_j1 true else if (leI 65 (a0.toNat : Int)) = true then if (leI (a0.toNat : Int) 90) = true then preref1_Letter_j1 true else preref1_Letter_j1 (eqI (a0.toNat : Int) 95) else preref1_Letter_j1 (eqI (a0.toNat : Int) 95) else if (leI 65 (a0.toNat : Int)) = true then if (leI (a0.toNat : Int) 90) = true then preref1_Letter_j1 true else preref1_Letter_j1 (eqI (a0.toNat : Int) 95) else preref1_Letter_j1 (eqI (a0.toNat : Int) 95)
def e_preref1_Letter : Bool → D := fun r => dB r
def c_preref1_Letter : UInt8 → List D := fun a => [dU a]
theorem c_preref1_Letter_inj : Inj c_preref1_Letter := by intro a b h; simp only [c_preref1_Letter, List.map_cons, List.map_nil, List.cons.injEq, and_true] at h; exact (dU_inj _ _) h
noncomputable def pf_preref1_Letter : PF := PF.of c_preref1_Letter (fun a => preref1_Letter a) e_preref1_Letter
noncomputable def t_preref1_Letter : Tab := tabOf Try.prog [] []
theorem t_preref1_Letter_ok : TabOk t_preref1_Letter := tabOf_ok (by exact trivial) (by exact trivial)
theorem y_preref1_Letter : ((type_of% @t_preref1_Letter.eq_1) ∧ ((type_of% @c_preref1_Letter.eq_1) ∧ (type_of% @e_preref1_Letter.eq_1))) := ⟨@t_preref1_Letter.eq_1, ⟨@c_preref1_Letter.eq_1, @e_preref1_Letter.eq_1⟩⟩
set_option maxRecDepth 100000 in
set_option maxHeartbeats 4000000 in
theorem preref1_Letter_ok : PureOk Try.prog 43 pf_preref1_Letter := by
  refine pure_of (t := t_preref1_Letter) (pure := fun n => [].contains n) c_preref1_Letter_inj rfl t_preref1_Letter_ok mixed (fun n hn => tabOf_pure rfl n hn) Try.func43 rfl (by kernel_rfl) (fun a => by simp [c_preref1_Letter, Try.ntmps43]) ?_
  rintro a0 out H
  simp only [preref1_Letter] at H
  show aC _ _ (sig0 (List.map (fun d => AV.c (C.d d)) (c_preref1_Letter a0))) _ _
  refine w_seq ?_
  refine w_region rfl (fun K hK => ?_)
  simp -implicitDefEqProofs only [goR, ↓upd_at, if_true, if_false, reduceCtorEq, ↓reduceIte, Nat.reduceEqDiff, Nat.reduceAdd, Nat.reduceSub, Nat.reduceMul, Nat.reduceBEq, Nat.reduceLT, Nat.reduceLeDiff, Int.reduceToNat, Int.reduceLE, Int.reduceLT, Int.reduceEq, Int.reduceNeg, ← List.map_drop, ← List.map_take, UInt8.reduceToNat, true_implies, implies_true, List.append_eq, y_preref1_Letter]
  (repeat' (first | ((with_reducible refine hK _ _ ?_); clear hK K) | (with_reducible apply And.intro) | (exact trivial) | (clear hK K; assumption) | (clear hK K; omega)))
  refine then_normal ?_
  refine w_cut preref1_Letter_j1 (fun s => [(2, .c (.d (.v (.bool s))))]) (fun s => []) [] out ?_ ?_
  · rcases bsplit H with ⟨hp1, H⟩ | ⟨hp1, H⟩
    · try simp -implicitDefEqProofs only [goR, ↓upd_at, if_true, if_false, reduceCtorEq, ↓reduceIte, Nat.reduceEqDiff, Nat.reduceAdd, Nat.reduceSub, Nat.reduceMul, Nat.reduceBEq, Nat.reduceLT, Nat.reduceLeDiff, Int.reduceToNat, Int.reduceLE, Int.reduceLT, Int.reduceEq, Int.reduceNeg, ← List.map_drop, ← List.map_take, UInt8.reduceToNat, true_implies, implies_true, List.append_eq, y_preref1_Letter] at hp1
      have hq1 := hp1
      try simp only [goT] at hq1
      rcases bsplit H with ⟨hp2, H⟩ | ⟨hp2, H⟩
      · try simp -implicitDefEqProofs only [goR, ↓upd_at, if_true, if_false, reduceCtorEq, ↓reduceIte, Nat.reduceEqDiff, Nat.reduceAdd, Nat.reduceSub, Nat.reduceMul, Nat.reduceBEq, Nat.reduceLT, Nat.reduceLeDiff, Int.reduceToNat, Int.reduceLE, Int.reduceLT, Int.reduceEq, Int.reduceNeg, ← List.map_drop, ← List.map_take, UInt8.reduceToNat, true_implies, implies_true, List.append_eq, y_preref1_Letter] at hp2
        have hq2 := hp2
        try simp only [goT] at hq2
        refine w_region rfl (fun K hK => ?_)
        simp -implicitDefEqProofs only [goR, ↓upd_at, if_true, if_false, reduceCtorEq, ↓reduceIte, Nat.reduceEqDiff, Nat.reduceAdd, Nat.reduceSub, Nat.reduceMul, Nat.reduceBEq, Nat.reduceLT, Nat.reduceLeDiff, Int.reduceToNat, Int.reduceLE, Int.reduceLT, Int.reduceEq, Int.reduceNeg, ← List.map_drop, ← List.map_take, UInt8.reduceToNat, true_implies, implies_true, List.append_eq, y_preref1_Letter, hp1, hp2]
        (repeat' (first | ((with_reducible refine hK _ _ ?_); clear hK K) | (with_reducible apply And.intro) | (exact trivial) | (clear hK K; assumption) | (clear hK K; omega)))
        refine cut_at H ?_
        exact wk_ren ⟨[], []⟩ rfl rfl rfl rfl rfl (by simp -implicitDefEqProofs only [goW, goR, ↓upd_at, if_true, if_false, reduceCtorEq, ↓reduceIte, Nat.reduceEqDiff, Nat.reduceAdd, Nat.reduceSub, Nat.reduceMul, Nat.reduceBEq, Nat.reduceLT, Nat.reduceLeDiff, Int.reduceToNat, Int.reduceLE, Int.reduceLT, Int.reduceEq, Int.reduceNeg, ← List.map_drop, ← List.map_take, UInt8.reduceToNat, true_implies, implies_true, List.append_eq, y_preref1_Letter]) (by simp -implicitDefEqProofs only [goW, goR, ↓upd_at, if_true, if_false, reduceCtorEq, ↓reduceIte, Nat.reduceEqDiff, Nat.reduceAdd, Nat.reduceSub, Nat.reduceMul, Nat.reduceBEq, Nat.reduceLT, Nat.reduceLeDiff, Int.reduceToNat, Int.reduceLE, Int.reduceLT, Int.reduceEq, Int.reduceNeg, ← List.map_drop, ← List.map_take, UInt8.reduceToNat, true_implies, implies_true, List.append_eq, y_preref1_Letter]) (by simp -implicitDefEqProofs only [goW, goR, ↓upd_at, if_true, if_false, reduceCtorEq, ↓reduceIte, Nat.reduceEqDiff, Nat.reduceAdd, Nat.reduceSub, Nat.reduceMul, Nat.reduceBEq, Nat.reduceLT, Nat.reduceLeDiff, Int.reduceToNat, Int.reduceLE, Int.reduceLT, Int.reduceEq, Int.reduceNeg, ← List.map_drop, ← List.map_take, UInt8.reduceToNat, true_implies, implies_true, List.append_eq, y_preref1_Letter]) rfl
      · try simp -implicitDefEqProofs only [goR, ↓upd_at, if_true, if_false, reduceCtorEq, ↓reduceIte, Nat.reduceEqDiff, Nat.reduceAdd, Nat.reduceSub, Nat.reduceMul, Nat.reduceBEq, Nat.reduceLT, Nat.reduceLeDiff, Int.reduceToNat, Int.reduceLE, Int.reduceLT, Int.reduceEq, Int.reduceNeg, ← List.map_drop, ← List.map_take, UInt8.reduceToNat, true_implies, implies_true, List.append_eq, y_preref1_Letter] at hp2
        have hq2 := hp2
        try simp only [goT] at hq2
        rcases bsplit H with ⟨hp3, H⟩ | ⟨hp3, H⟩
        · try simp -implicitDefEqProofs only [goR, ↓upd_at, if_true, if_false, reduceCtorEq, ↓reduceIte, Nat.reduceEqDiff, Nat.reduceAdd, Nat.reduceSub, Nat.reduceMul, Nat.reduceBEq, Nat.reduceLT, Nat.reduceLeDiff, Int.reduceToNat, Int.reduceLE, Int.reduceLT, Int.reduceEq, Int.reduceNeg, ← List.map_drop, ← List.map_take, UInt8.reduceToNat, true_implies, implies_true, List.append_eq, y_preref1_Letter] at hp3
          have hq3 := hp3
          try simp only [goT] at hq3
          rcases bsplit H with ⟨hp4, H⟩ | ⟨hp4, H⟩
          · try simp -implicitDefEqProofs only [goR, ↓upd_at, if_true, if_false, reduceCtorEq, ↓reduceIte, Nat.reduceEqDiff, Nat.reduceAdd, Nat.reduceSub, Nat.reduceMul, Nat.reduceBEq, Nat.reduceLT, Nat.reduceLeDiff, Int.reduceToNat, Int.reduceLE, Int.reduceLT, Int.reduceEq, Int.reduceNeg, ← List.map_drop, ← List.map_take, UInt8.reduceToNat, true_implies, implies_true, List.append_eq, y_preref1_Letter] at hp4
            have hq4 := hp4
            try simp only [goT] at hq4
            refine w_region rfl (fun K hK => ?_)
            simp -implicitDefEqProofs only [goR, ↓upd_at, if_true, if_false, reduceCtorEq, ↓reduceIte, Nat.reduceEqDiff, Nat.reduceAdd, Nat.reduceSub, Nat.reduceMul, Nat.reduceBEq, Nat.reduceLT, Nat.reduceLeDiff, Int.reduceToNat, Int.reduceLE, Int.reduceLT, Int.reduceEq, Int.reduceNeg, ← List.map_drop, ← List.map_take, UInt8.reduceToNat, true_implies, implies_true, List.append_eq, y_preref1_Letter, hp1, hp2, hp3, hp4]
            (repeat' (first | ((with_reducible refine hK _ _ ?_); clear hK K) | (with_reducible apply And.intro) | (exact trivial) | (clear hK K; assumption) | (clear hK K; omega)))
            refine cut_at H ?_
            exact wk_ren ⟨[], []⟩ rfl rfl rfl rfl rfl (by simp -implicitDefEqProofs only [goW, goR, ↓upd_at, if_true, if_false, reduceCtorEq, ↓reduceIte, Nat.reduceEqDiff, Nat.reduceAdd, Nat.reduceSub, Nat.reduceMul, Nat.reduceBEq, Nat.reduceLT, Nat.reduceLeDiff, Int.reduceToNat, Int.reduceLE, Int.reduceLT, Int.reduceEq, Int.reduceNeg, ← List.map_drop, ← List.map_take, UInt8.reduceToNat, true_implies, implies_true, List.append_eq, y_preref1_Letter]) (by simp -implicitDefEqProofs only [goW, goR, ↓upd_at, if_true, if_false, reduceCtorEq, ↓reduceIte, Nat.reduceEqDiff, Nat.reduceAdd, Nat.reduceSub, Nat.reduceMul, Nat.reduceBEq, Nat.reduceLT, Nat.reduceLeDiff, Int.reduceToNat, Int.reduceLE, Int.reduceLT, Int.reduceEq, Int.reduceNeg, ← List.map_drop, ← List.map_take, UInt8.reduceToNat, true_implies, implies_true, List.append_eq, y_preref1_Letter]) (by simp -implicitDefEqProofs only [goW, goR, ↓upd_at, if_true, if_false, reduceCtorEq, ↓reduceIte, Nat.reduceEqDiff, Nat.reduceAdd, Nat.reduceSub, Nat.reduceMul, Nat.reduceBEq, Nat.reduceLT, Nat.reduceLeDiff, Int.reduceToNat, Int.reduceLE, Int.reduceLT, Int.reduceEq, Int.reduceNeg, ← List.map_drop, ← List.map_take, UInt8.reduceToNat, true_implies, implies_true, List.append_eq, y_preref1_Letter]) rfl
          · try simp -implicitDefEqProofs only [goR, ↓upd_at, if_true, if_false, reduceCtorEq, ↓reduceIte, Nat.reduceEqDiff, Nat.reduceAdd, Nat.reduceSub, Nat.reduceMul, Nat.reduceBEq, Nat.reduceLT, Nat.reduceLeDiff, Int.reduceToNat, Int.reduceLE, Int.reduceLT, Int.reduceEq, Int.reduceNeg, ← List.map_drop, ← List.map_take, UInt8.reduceToNat, true_implies, implies_true, List.append_eq, y_preref1_Letter] at hp4
            have hq4 := hp4
            try simp only [goT] at hq4
            refine w_region rfl (fun K hK => ?_)
            simp -implicitDefEqProofs only [goR, ↓upd_at, if_true, if_false, reduceCtorEq, ↓reduceIte, Nat.reduceEqDiff, Nat.reduceAdd, Nat.reduceSub, Nat.reduceMul, Nat.reduceBEq, Nat.reduceLT, Nat.reduceLeDiff, Int.reduceToNat, Int.reduceLE, Int.reduceLT, Int.reduceEq, Int.reduceNeg, ← List.map_drop, ← List.map_take, UInt8.reduceToNat, true_implies, implies_true, List.append_eq, y_preref1_Letter, hp1, hp2, hp3, hp4]
            (repeat' (first | ((with_reducible refine hK _ _ ?_); clear hK K) | (with_reducible apply And.intro) | (exact trivial) | (clear hK K; assumption) | (clear hK K; omega)))
            refine cut_at H ?_
            exact wk_ren ⟨[], []⟩ rfl rfl rfl rfl rfl (by simp -implicitDefEqProofs only [goW, goR, ↓upd_at, if_true, if_false, reduceCtorEq, ↓reduceIte, Nat.reduceEqDiff, Nat.reduceAdd, Nat.reduceSub, Nat.reduceMul, Nat.reduceBEq, Nat.reduceLT, Nat.reduceLeDiff, Int.reduceToNat, Int.reduceLE, Int.reduceLT, Int.reduceEq, Int.reduceNeg, ← List.map_drop, ← List.map_take, UInt8.reduceToNat, true_implies, implies_true, List.append_eq, y_preref1_Letter]) (by simp -implicitDefEqProofs only [goW, goR, ↓upd_at, if_true, if_false, reduceCtorEq, ↓reduceIte, Nat.reduceEqDiff, Nat.reduceAdd, Nat.reduceSub, Nat.reduceMul, Nat.reduceBEq, Nat.reduceLT, Nat.reduceLeDiff, Int.reduceToNat, Int.reduceLE, Int.reduceLT, Int.reduceEq, Int.reduceNeg, ← List.map_drop, ← List.map_take, UInt8.reduceToNat, true_implies, implies_true, List.append_eq, y_preref1_Letter]) (by simp -implicitDefEqProofs only [goW, goR, ↓upd_at, if_true, if_false, reduceCtorEq, ↓reduceIte, Nat.reduceEqDiff, Nat.reduceAdd, Nat.reduceSub, Nat.reduceMul, Nat.reduceBEq, Nat.reduceLT, Nat.reduceLeDiff, Int.reduceToNat, Int.reduceLE, Int.reduceLT, Int.reduceEq, Int.reduceNeg, ← List.map_drop, ← List.map_take, UInt8.reduceToNat, true_implies, implies_true, List.append_eq, y_preref1_Letter]) rfl
        · try simp -implicitDefEqProofs only [goR, ↓upd_at, if_true, if_false, reduceCtorEq, ↓reduceIte, Nat.reduceEqDiff, Nat.reduceAdd, Nat.reduceSub, Nat.reduceMul, Nat.reduceBEq, Nat.reduceLT, Nat.reduceLeDiff, Int.reduceToNat, Int.reduceLE, Int.reduceLT, Int.reduceEq, Int.reduceNeg, ← List.map_drop, ← List.map_take, UInt8.reduceToNat, true_implies, implies_true, List.append_eq, y_preref1_Letter] at hp3
          have hq3 := hp3
          try simp only [goT] at hq3
          refine w_region rfl (fun K hK => ?_)
          simp -implicitDefEqProofs only [goR, ↓upd_at, if_true, if_false, reduceCtorEq, ↓reduceIte, Nat.reduceEqDiff, Nat.reduceAdd, Nat.reduceSub, Nat.reduceMul, Nat.reduceBEq, Nat.reduceLT, Nat.reduceLeDiff, Int.reduceToNat, Int.reduceLE, Int.reduceLT, Int.reduceEq, Int.reduceNeg, ← List.map_drop, ← List.map_take, UInt8.reduceToNat, true_implies, implies_true, List.append_eq, y_preref1_Letter, hp1, hp2, hp3]
          (repeat' (first | ((with_reducible refine hK _ _ ?_); clear hK K) | (with_reducible apply And.intro) | (exact trivial) | (clear hK K; assumption) | (clear hK K; omega)))
          refine cut_at H ?_
          exact wk_ren ⟨[], []⟩ rfl rfl rfl rfl rfl (by simp -implicitDefEqProofs only [goW, goR, ↓upd_at, if_true, if_false, reduceCtorEq, ↓reduceIte, Nat.reduceEqDiff, Nat.reduceAdd, Nat.reduceSub, Nat.reduceMul, Nat.reduceBEq, Nat.reduceLT, Nat.reduceLeDiff, Int.reduceToNat, Int.reduceLE, Int.reduceLT, Int.reduceEq, Int.reduceNeg, ← List.map_drop, ← List.map_take, UInt8.reduceToNat, true_implies, implies_true, List.append_eq, y_preref1_Letter]) (by simp -implicitDefEqProofs only [goW, goR, ↓upd_at, if_true, if_false, reduceCtorEq, ↓reduceIte, Nat.reduceEqDiff, Nat.reduceAdd, Nat.reduceSub, Nat.reduceMul, Nat.reduceBEq, Nat.reduceLT, Nat.reduceLeDiff, Int.reduceToNat, Int.reduceLE, Int.reduceLT, Int.reduceEq, Int.reduceNeg, ← List.map_drop, ← List.map_take, UInt8.reduceToNat, true_implies, implies_true, List.append_eq, y_preref1_Letter]) (by simp -implicitDefEqProofs only [goW, goR, ↓upd_at, if_true, if_false, reduceCtorEq, ↓reduceIte, Nat.reduceEqDiff, Nat.reduceAdd, Nat.reduceSub, Nat.reduceMul, Nat.reduceBEq, Nat.reduceLT, Nat.reduceLeDiff, Int.reduceToNat, Int.reduceLE, Int.reduceLT, Int.reduceEq, Int.reduceNeg, ← List.map_drop, ← List.map_take, UInt8.reduceToNat, true_implies, implies_true, List.append_eq, y_preref1_Letter]) rfl
    · try simp -implicitDefEqProofs only [goR, ↓upd_at, if_true, if_false, reduceCtorEq, ↓reduceIte, Nat.reduceEqDiff, Nat.reduceAdd, Nat.reduceSub, Nat.reduceMul, Nat.reduceBEq, Nat.reduceLT, Nat.reduceLeDiff, Int.reduceToNat, Int.reduceLE, Int.reduceLT, Int.reduceEq, Int.reduceNeg, ← List.map_drop, ← List.map_take, UInt8.reduceToNat, true_implies, implies_true, List.append_eq, y_preref1_Letter] at hp1
      have hq1 := hp1
      try simp only [goT] at hq1
      rcases bsplit H with ⟨hp5, H⟩ | ⟨hp5, H⟩
      · try simp -implicitDefEqProofs only [goR, ↓upd_at, if_true, if_false, reduceCtorEq, ↓reduceIte, Nat.reduceEqDiff, Nat.reduceAdd, Nat.reduceSub, Nat.reduceMul, Nat.reduceBEq, Nat.reduceLT, Nat.reduceLeDiff, Int.reduceToNat, Int.reduceLE, Int.reduceLT, Int.reduceEq, Int.reduceNeg, ← List.map_drop, ← List.map_take, UInt8.reduceToNat, true_implies, implies_true, List.append_eq, y_preref1_Letter] at hp5
        have hq5 := hp5
        try simp only [goT] at hq5
        rcases bsplit H with ⟨hp6, H⟩ | ⟨hp6, H⟩
        · try simp -implicitDefEqProofs only [goR, ↓upd_at, if_true, if_false, reduceCtorEq, ↓reduceIte, Nat.reduceEqDiff, Nat.reduceAdd, Nat.reduceSub, Nat.reduceMul, Nat.reduceBEq, Nat.reduceLT, Nat.reduceLeDiff, Int.reduceToNat, Int.reduceLE, Int.reduceLT, Int.reduceEq, Int.reduceNeg, ← List.map_drop, ← List.map_take, UInt8.reduceToNat, true_implies, implies_true, List.append_eq, y_preref1_Letter] at hp6
          have hq6 := hp6
          try simp only [goT] at hq6
          refine w_region rfl (fun K hK => ?_)
          simp -implicitDefEqProofs only [goR, ↓upd_at, if_true, if_false, reduceCtorEq, ↓reduceIte, Nat.reduceEqDiff, Nat.reduceAdd, Nat.reduceSub, Nat.reduceMul, Nat.reduceBEq, Nat.reduceLT, Nat.reduceLeDiff, Int.reduceToNat, Int.reduceLE, Int.reduceLT, Int.reduceEq, Int.reduceNeg, ← List.map_drop, ← List.map_take, UInt8.reduceToNat, true_implies, implies_true, List.append_eq, y_preref1_Letter, hp1, hp5, hp6]
          (repeat' (first | ((with_reducible refine hK _ _ ?_); clear hK K) | (with_reducible apply And.intro) | (exact trivial) | (clear hK K; assumption) | (clear hK K; omega)))
          refine cut_at H ?_
          exact wk_ren ⟨[], []⟩ rfl rfl rfl rfl rfl (by simp -implicitDefEqProofs only [goW, goR, ↓upd_at, if_true, if_false, reduceCtorEq, ↓reduceIte, Nat.reduceEqDiff, Nat.reduceAdd, Nat.reduceSub, Nat.reduceMul, Nat.reduceBEq, Nat.reduceLT, Nat.reduceLeDiff, Int.reduceToNat, Int.reduceLE, Int.reduceLT, Int.reduceEq, Int.reduceNeg, ← List.map_drop, ← List.map_take, UInt8.reduceToNat, true_implies, implies_true, List.append_eq, y_preref1_Letter]) (by simp -implicitDefEqProofs only [goW, goR, ↓upd_at, if_true, if_false, reduceCtorEq, ↓reduceIte, Nat.reduceEqDiff, Nat.reduceAdd, Nat.reduceSub, Nat.reduceMul, Nat.reduceBEq, Nat.reduceLT, Nat.reduceLeDiff, Int.reduceToNat, Int.reduceLE, Int.reduceLT, Int.reduceEq, Int.reduceNeg, ← List.map_drop, ← List.map_take, UInt8.reduceToNat, true_implies, implies_true, List.append_eq, y_preref1_Letter]) (by simp -implicitDefEqProofs only [goW, goR, ↓upd_at, if_true, if_false, reduceCtorEq, ↓reduceIte, Nat.reduceEqDiff, Nat.reduceAdd, Nat.reduceSub, Nat.reduceMul, Nat.reduceBEq, Nat.reduceLT, Nat.reduceLeDiff, Int.reduceToNat, Int.reduceLE, Int.reduceLT, Int.reduceEq, Int.reduceNeg, ← List.map_drop, ← List.map_take, UInt8.reduceToNat, true_implies, implies_true, List.append_eq, y_preref1_Letter]) rfl
        · try simp -implicitDefEqProofs only [goR, ↓upd_at, if_true, if_false, reduceCtorEq, ↓reduceIte, Nat.reduceEqDiff, Nat.reduceAdd, Nat.reduceSub, Nat.reduceMul, Nat.reduceBEq, Nat.reduceLT, Nat.reduceLeDiff, Int.reduceToNat, Int.reduceLE, Int.reduceLT, Int.reduceEq, Int.reduceNeg, ← List.map_drop, ← List.map_take, UInt8.reduceToNat, true_implies, implies_true, List.append_eq, y_preref1_Letter] at hp6
          have hq6 := hp6
          try simp only [goT] at hq6
          refine w_region rfl (fun K hK => ?_)
          simp -implicitDefEqProofs only [goR, ↓upd_at, if_true, if_false, reduceCtorEq, ↓reduceIte, Nat.reduceEqDiff, Nat.reduceAdd, Nat.reduceSub, Nat.reduceMul, Nat.reduceBEq, Nat.reduceLT, Nat.reduceLeDiff, Int.reduceToNat, Int.reduceLE, Int.reduceLT, Int.reduceEq, Int.reduceNeg, ← List.map_drop, ← List.map_take, UInt8.reduceToNat, true_implies, implies_true, List.append_eq, y_preref1_Letter, hp1, hp5, hp6]
          (repeat' (first | ((with_reducible refine hK _ _ ?_); clear hK K) | (with_reducible apply And.intro) | (exact trivial) | (clear hK K; assumption) | (clear hK K; omega)))
          refine cut_at H ?_
          exact wk_ren ⟨[], []⟩ rfl rfl rfl rfl rfl (by simp -implicitDefEqProofs only [goW, goR, ↓upd_at, if_true, if_false, reduceCtorEq, ↓reduceIte, Nat.reduceEqDiff, Nat.reduceAdd, Nat.reduceSub, Nat.reduceMul, Nat.reduceBEq, Nat.reduceLT, Nat.reduceLeDiff, Int.reduceToNat, Int.reduceLE, Int.reduceLT, Int.reduceEq, Int.reduceNeg, ← List.map_drop, ← List.map_take, UInt8.reduceToNat, true_implies, implies_true, List.append_eq, y_preref1_Letter]) (by simp -implicitDefEqProofs only [goW, goR, ↓upd_at, if_true, if_false, reduceCtorEq, ↓reduceIte, Nat.reduceEqDiff, Nat.reduceAdd, Nat.reduceSub, Nat.reduceMul, Nat.reduceBEq, Nat.reduceLT, Nat.reduceLeDiff, Int.reduceToNat, Int.reduceLE, Int.reduceLT, Int.reduceEq, Int.reduceNeg, ← List.map_drop, ← List.map_take, UInt8.reduceToNat, true_implies, implies_true, List.append_eq, y_preref1_Letter]) (by simp -implicitDefEqProofs only [goW, goR, ↓upd_at, if_true, if_false, reduceCtorEq, ↓reduceIte, Nat.reduceEqDiff, Nat.reduceAdd, Nat.reduceSub, Nat.reduceMul, Nat.reduceBEq, Nat.reduceLT, Nat.reduceLeDiff, Int.reduceToNat, Int.reduceLE, Int.reduceLT, Int.reduceEq, Int.reduceNeg, ← List.map_drop, ← List.map_take, UInt8.reduceToNat, true_implies, implies_true, List.append_eq, y_preref1_Letter]) rfl
      · try simp -implicitDefEqProofs only [goR, ↓upd_at, if_true, if_false, reduceCtorEq, ↓reduceIte, Nat.reduceEqDiff, Nat.reduceAdd, Nat.reduceSub, Nat.reduceMul, Nat.reduceBEq, Nat.reduceLT, Nat.reduceLeDiff, Int.reduceToNat, Int.reduceLE, Int.reduceLT, Int.reduceEq, Int.reduceNeg, ← List.map_drop, ← List.map_take, UInt8.reduceToNat, true_implies, implies_true, List.append_eq, y_preref1_Letter] at hp5
        have hq5 := hp5
        try simp only [goT] at hq5
        refine w_region rfl (fun K hK => ?_)
        simp -implicitDefEqProofs only [goR, ↓upd_at, if_true, if_false, reduceCtorEq, ↓reduceIte, Nat.reduceEqDiff, Nat.reduceAdd, Nat.reduceSub, Nat.reduceMul, Nat.reduceBEq, Nat.reduceLT, Nat.reduceLeDiff, Int.reduceToNat, Int.reduceLE, Int.reduceLT, Int.reduceEq, Int.reduceNeg, ← List.map_drop, ← List.map_take, UInt8.reduceToNat, true_implies, implies_true, List.append_eq, y_preref1_Letter, hp1, hp5]
        (repeat' (first | ((with_reducible refine hK _ _ ?_); clear hK K) | (with_reducible apply And.intro) | (exact trivial) | (clear hK K; assumption) | (clear hK K; omega)))
        refine cut_at H ?_
        exact wk_ren ⟨[], []⟩ rfl rfl rfl rfl rfl (by simp -implicitDefEqProofs only [goW, goR, ↓upd_at, if_true, if_false, reduceCtorEq, ↓reduceIte, Nat.reduceEqDiff, Nat.reduceAdd, Nat.reduceSub, Nat.reduceMul, Nat.reduceBEq, Nat.reduceLT, Nat.reduceLeDiff, Int.reduceToNat, Int.reduceLE, Int.reduceLT, Int.reduceEq, Int.reduceNeg, ← List.map_drop, ← List.map_take, UInt8.reduceToNat, true_implies, implies_true, List.append_eq, y_preref1_Letter]) (by simp -implicitDefEqProofs only [goW, goR, ↓upd_at, if_true, if_false, reduceCtorEq, ↓reduceIte, Nat.reduceEqDiff, Nat.reduceAdd, Nat.reduceSub, Nat.reduceMul, Nat.reduceBEq, Nat.reduceLT, Nat.reduceLeDiff, Int.reduceToNat, Int.reduceLE, Int.reduceLT, Int.reduceEq, Int.reduceNeg, ← List.map_drop, ← List.map_take, UInt8.reduceToNat, true_implies, implies_true, List.append_eq, y_preref1_Letter]) (by simp -implicitDefEqProofs only [goW, goR, ↓upd_at, if_true, if_false, reduceCtorEq, ↓reduceIte, Nat.reduceEqDiff, Nat.reduceAdd, Nat.reduceSub, Nat.reduceMul, Nat.reduceBEq, Nat.reduceLT, Nat.reduceLeDiff, Int.reduceToNat, Int.reduceLE, Int.reduceLT, Int.reduceEq, Int.reduceNeg, ← List.map_drop, ← List.map_take, UInt8.reduceToNat, true_implies, implies_true, List.append_eq, y_preref1_Letter]) rfl
  · rintro x1 H
    rw [preref1_Letter_j1] at H
    refine w_ret ?_
    obtain rfl := Option.some.inj H
    simp -implicitDefEqProofs only [goQ, Try.results43, goR, ↓upd_at, if_true, if_false, reduceCtorEq, ↓reduceIte, Nat.reduceEqDiff, Nat.reduceAdd, Nat.reduceSub, Nat.reduceMul, Nat.reduceBEq, Nat.reduceLT, Nat.reduceLeDiff, Int.reduceToNat, Int.reduceLE, Int.reduceLT, Int.reduceEq, Int.reduceNeg, ← List.map_drop, ← List.map_take, UInt8.reduceToNat, true_implies, implies_true, List.append_eq, y_preref1_Letter]
theorem preref1_Letter_c (a0 : UInt8) (r : Bool) (H : preref1_Letter a0 = some r) : pf_preref1_Letter.pre [dU a0] = True ∧ pf_preref1_Letter.val [dU a0] = dB r :=
  ⟨PF.of_pre (enc := c_preref1_Letter) (f := fun a => preref1_Letter a) (e := e_preref1_Letter) (a := a0) H, PF.of_val (enc := c_preref1_Letter) (f := fun a => preref1_Letter a) (e := e_preref1_Letter) (a := a0) c_preref1_Letter_inj H⟩
noncomputable def lex_Digit_j1 : Bool → Option Bool
  | x1 => some x1
noncomputable def lex_Digit (a0 : UInt8) : Option Bool :=
  if (leI 48 (a0.toNat : Int)) = true then lex_Digit_j1 (leI (a0.toNat : Int) 57) else lex_Digit_j1 false
def e_lex_Digit : Bool → D := fun r => dB r
def c_lex_Digit : UInt8 → List D := fun a => [dU a]
theorem c_lex_Digit_inj : Inj c_lex_Digit := by intro a b h; simp only [c_lex_Digit, List.map_cons, List.map_nil, List.cons.injEq, and_true] at h; exact (dU_inj _ _) h
noncomputable def pf_lex_Digit : PF := PF.of c_lex_Digit (fun a => lex_Digit a) e_lex_Digit
noncomputable def t_lex_Digit : Tab := tabOf Try.prog [] []
theorem t_lex_Digit_ok : TabOk t_lex_Digit := tabOf_ok (by exact trivial) (by exact trivial)
theorem y_lex_Digit : ((type_of% @t_lex_Digit.eq_1) ∧ ((type_of% @c_lex_Digit.eq_1) ∧ (type_of% @e_lex_Digit.eq_1))) := ⟨@t_lex_Digit.eq_1, ⟨@c_lex_Digit.eq_1, @e_lex_Digit.eq_1⟩⟩
set_option maxRecDepth 100000 in
set_option maxHeartbeats 4000000 in
theorem lex_Digit_ok : PureOk Try.prog 44 pf_lex_Digit := by
  refine pure_of (t := t_lex_Digit) (pure := fun n => [].contains n) c_lex_Digit_inj rfl t_lex_Digit_ok mixed (fun n hn => tabOf_pure rfl n hn) Try.func44 rfl (by kernel_rfl) (fun a => by simp [c_lex_Digit, Try.ntmps44]) ?_
  rintro a0 out H
  simp only [lex_Digit] at H
  show aC _ _ (sig0 (List.map (fun d => AV.c (C.d d)) (c_lex_Digit a0))) _ _
  refine w_seq ?_
  refine w_region rfl (fun K hK => ?_)
  simp -implicitDefEqProofs only [goR, ↓upd_at, if_true, if_false, reduceCtorEq, ↓reduceIte, Nat.reduceEqDiff, Nat.reduceAdd, Nat.reduceSub, Nat.reduceMul, Nat.reduceBEq, Nat.reduceLT, Nat.reduceLeDiff, Int.reduceToNat, Int.reduceLE, Int.reduceLT, Int.reduceEq, Int.reduceNeg, ← List.map_drop, ← List.map_take, UInt8.reduceToNat, true_implies, implies_true, List.append_eq, y_lex_Digit]
  (repeat' (first | ((with_reducible refine hK _ _ ?_); clear hK K) | (with_reducible apply And.intro) | (exact trivial) | (clear hK K; assumption) | (clear hK K; omega)))
  refine then_normal ?_
  refine w_cut lex_Digit_j1 (fun s => [(2, .c (.d (.v (.bool s))))]) (fun s => []) [] out ?_ ?_
  · rcases bsplit H with ⟨hp1, H⟩ | ⟨hp1, H⟩
    · try simp -implicitDefEqProofs only [goR, ↓upd_at, if_true, if_false, reduceCtorEq, ↓reduceIte, Nat.reduceEqDiff, Nat.reduceAdd, Nat.reduceSub, Nat.reduceMul, Nat.reduceBEq, Nat.reduceLT, Nat.reduceLeDiff, Int.reduceToNat, Int.reduceLE, Int.reduceLT, Int.reduceEq, Int.reduceNeg, ← List.map_drop, ← List.map_take, UInt8.reduceToNat, true_implies, implies_true, List.append_eq, y_lex_Digit] at hp1
      have hq1 := hp1
      try simp only [goT] at hq1
      refine w_region rfl (fun K hK => ?_)
      simp -implicitDefEqProofs only [goR, ↓upd_at, if_true, if_false, reduceCtorEq, ↓reduceIte, Nat.reduceEqDiff, Nat.reduceAdd, Nat.reduceSub, Nat.reduceMul, Nat.reduceBEq, Nat.reduceLT, Nat.reduceLeDiff, Int.reduceToNat, Int.reduceLE, Int.reduceLT, Int.reduceEq, Int.reduceNeg, ← List.map_drop, ← List.map_take, UInt8.reduceToNat, true_implies, implies_true, List.append_eq, y_lex_Digit, hp1]
      (repeat' (first | ((with_reducible refine hK _ _ ?_); clear hK K) | (with_reducible apply And.intro) | (exact trivial) | (clear hK K; assumption) | (clear hK K; omega)))
      refine cut_at H ?_
      exact wk_ren ⟨[], []⟩ rfl rfl rfl rfl rfl (by simp -implicitDefEqProofs only [goW, goR, ↓upd_at, if_true, if_false, reduceCtorEq, ↓reduceIte, Nat.reduceEqDiff, Nat.reduceAdd, Nat.reduceSub, Nat.reduceMul, Nat.reduceBEq, Nat.reduceLT, Nat.reduceLeDiff, Int.reduceToNat, Int.reduceLE, Int.reduceLT, Int.reduceEq, Int.reduceNeg, ← List.map_drop, ← List.map_take, UInt8.reduceToNat, true_implies, implies_true, List.append_eq, y_lex_Digit]) (by simp -implicitDefEqProofs only [goW, goR, ↓upd_at, if_true, if_false, reduceCtorEq, ↓reduceIte, Nat.reduceEqDiff, Nat.reduceAdd, Nat.reduceSub, Nat.reduceMul, Nat.reduceBEq, Nat.reduceLT, Nat.reduceLeDiff, Int.reduceToNat, Int.reduceLE, Int.reduceLT, Int.reduceEq, Int.reduceNeg, ← List.map_drop, ← List.map_take, UInt8.reduceToNat, true_implies, implies_true, List.append_eq, y_lex_Digit]) (by simp -implicitDefEqProofs only [goW, goR, ↓upd_at, if_true, if_false, reduceCtorEq, ↓reduceIte, Nat.reduceEqDiff, Nat.reduceAdd, Nat.reduceSub, Nat.reduceMul, Nat.reduceBEq, Nat.reduceLT, Nat.reduceLeDiff, Int.reduceToNat, Int.reduceLE, Int.reduceLT, Int.reduceEq, Int.reduceNeg, ← List.map_drop, ← List.map_take, UInt8.reduceToNat, true_implies, implies_true, List.append_eq, y_lex_Digit]) rfl
    · try simp -implicitDefEqProofs only [goR, ↓upd_at, if_true, if_false, reduceCtorEq, ↓reduceIte, Nat.reduceEqDiff, Nat.reduceAdd, Nat.reduceSub, Nat.reduceMul, Nat.reduceBEq, Nat.reduceLT, Nat.reduceLeDiff, Int.reduceToNat, Int.reduceLE, Int.reduceLT, Int.reduceEq, Int.reduceNeg, ← List.map_drop, ← List.map_take, UInt8.reduceToNat, true_implies, implies_true, List.append_eq, y_lex_Digit] at hp1
      have hq1 := hp1
      try simp only [goT] at hq1
      refine w_region rfl (fun K hK => ?_)
      simp -implicitDefEqProofs only [goR, ↓upd_at, if_true, if_false, reduceCtorEq, ↓reduceIte, Nat.reduceEqDiff, Nat.reduceAdd, Nat.reduceSub, Nat.reduceMul, Nat.reduceBEq, Nat.reduceLT, Nat.reduceLeDiff, Int.reduceToNat, Int.reduceLE, Int.reduceLT, Int.reduceEq, Int.reduceNeg, ← List.map_drop, ← List.map_take, UInt8.reduceToNat, true_implies, implies_true, List.append_eq, y_lex_Digit, hp1]
      (repeat' (first | ((with_reducible refine hK _ _ ?_); clear hK K) | (with_reducible apply And.intro) | (exact trivial) | (clear hK K; assumption) | (clear hK K; omega)))
      refine cut_at H ?_
      exact wk_ren ⟨[], []⟩ rfl rfl rfl rfl rfl (by simp -implicitDefEqProofs only [goW, goR, ↓upd_at, if_true, if_false, reduceCtorEq, ↓reduceIte, Nat.reduceEqDiff, Nat.reduceAdd, Nat.reduceSub, Nat.reduceMul, Nat.reduceBEq, Nat.reduceLT, Nat.reduceLeDiff, Int.reduceToNat, Int.reduceLE, Int.reduceLT, Int.reduceEq, Int.reduceNeg, ← List.map_drop, ← List.map_take, UInt8.reduceToNat, true_implies, implies_true, List.append_eq, y_lex_Digit]) (by simp -implicitDefEqProofs only [goW, goR, ↓upd_at, if_true, if_false, reduceCtorEq, ↓reduceIte, Nat.reduceEqDiff, Nat.reduceAdd, Nat.reduceSub, Nat.reduceMul, Nat.reduceBEq, Nat.reduceLT, Nat.reduceLeDiff, Int.reduceToNat, Int.reduceLE, Int.reduceLT, Int.reduceEq, Int.reduceNeg, ← List.map_drop, ← List.map_take, UInt8.reduceToNat, true_implies, implies_true, List.append_eq, y_lex_Digit]) (by simp -implicitDefEqProofs only [goW, goR, ↓upd_at, if_true, if_false, reduceCtorEq, ↓reduceIte, Nat.reduceEqDiff, Nat.reduceAdd, Nat.reduceSub, Nat.reduceMul, Nat.reduceBEq, Nat.reduceLT, Nat.reduceLeDiff, Int.reduceToNat, Int.reduceLE, Int.reduceLT, Int.reduceEq, Int.reduceNeg, ← List.map_drop, ← List.map_take, UInt8.reduceToNat, true_implies, implies_true, List.append_eq, y_lex_Digit]) rfl
  · rintro x1 H
    rw [lex_Digit_j1] at H
    refine w_ret ?_
    obtain rfl := Option.some.inj H
    simp -implicitDefEqProofs only [goQ, Try.results44, goR, ↓upd_at, if_true, if_false, reduceCtorEq, ↓reduceIte, Nat.reduceEqDiff, Nat.reduceAdd, Nat.reduceSub, Nat.reduceMul, Nat.reduceBEq, Nat.reduceLT, Nat.reduceLeDiff, Int.reduceToNat, Int.reduceLE, Int.reduceLT, Int.reduceEq, Int.reduceNeg, ← List.map_drop, ← List.map_take, UInt8.reduceToNat, true_implies, implies_true, List.append_eq, y_lex_Digit]
theorem lex_Digit_c (a0 : UInt8) (r : Bool) (H : lex_Digit a0 = some r) : pf_lex_Digit.pre [dU a0] = True ∧ pf_lex_Digit.val [dU a0] = dB r :=
  ⟨PF.of_pre (enc := c_lex_Digit) (f := fun a => lex_Digit a) (e := e_lex_Digit) (a := a0) H, PF.of_val (enc := c_lex_Digit) (f := fun a => lex_Digit a) (e := e_lex_Digit) (a := a0) c_lex_Digit_inj H⟩
noncomputable def preref1_Digit_j1 : Bool → Option Bool
  | x1 => some x1
noncomputable def preref1_Digit (a0 : UInt8) : Option Bool :=
  if (leI 48 (a0.toNat : Int)) = true then preref1_Digit_j1 (leI (a0.toNat : Int) 57) else preref1_Digit_j1 false
def e_preref1_Digit : Bool → D := fun r => dB r
def c_preref1_Digit : UInt8 → List D := fun a => [dU a]
theorem c_preref1_Digit_inj : Inj c_preref1_Digit := by intro a b h; simp only [c_preref1_Digit, List.map_cons, List.map_nil, List.cons.injEq, and_true] at h; exact (dU_inj _ _) h
noncomputable def pf_preref1_Digit : PF := PF.of c_preref1_Digit (fun a => preref1_Digit a) e_preref1_Digit
noncomputable def t_preref1_Digit : Tab := tabOf Try.prog [] []
theorem t_preref1_Digit_ok : TabOk t_preref1_Digit := tabOf_ok (by exact trivial) (by exact trivial)
theorem y_preref1_Digit : ((type_of% @t_preref1_Digit.eq_1) ∧ ((type_of% @c_preref1_Digit.eq_1) ∧ (type_of% @e_preref1_Digit.eq_1))) := ⟨@t_preref1_Digit.eq_1, ⟨@c_preref1_Digit.eq_1, @e_preref1_Digit.eq_1⟩⟩
set_option maxRecDepth 100000 in
set_option maxHeartbeats 4000000 in
theorem preref1_Digit_ok : PureOk Try.prog 45 pf_preref1_Digit := by
  refine pure_of (t := t_preref1_Digit) (pure := fun n => [].contains n) c_preref1_Digit_inj rfl t_preref1_Digit_ok mixed (fun n hn => tabOf_pure rfl n hn) Try.func45 rfl (by kernel_rfl) (fun a => by simp [c_preref1_Digit, Try.ntmps45]) ?_
  rintro a0 out H
  simp only [preref1_Digit] at H
  show aC _ _ (sig0 (List.map (fun d => AV.c (C.d d)) (c_preref1_Digit a0))) _ _
  refine w_seq ?_
  refine w_region rfl (fun K hK => ?_)
  simp -implicitDefEqProofs only [goR, ↓upd_at, if_true, if_false, reduceCtorEq, ↓reduceIte, Nat.reduceEqDiff, Nat.reduceAdd, Nat.reduceSub, Nat.reduceMul, Nat.reduceBEq, Nat.reduceLT, Nat.reduceLeDiff, Int.reduceToNat, Int.reduceLE, Int.reduceLT, Int.reduceEq, Int.reduceNeg, ← List.map_drop, ← List.map_take, UInt8.reduceToNat, true_implies, implies_true, List.append_eq, y_preref1_Digit]
  (repeat' (first | ((with_reducible refine hK _ _ ?_); clear hK K) | (with_reducible apply And.intro) | (exact trivial) | (clear hK K; assumption) | (clear hK K; omega)))
  refine then_normal ?_
  refine w_cut preref1_Digit_j1 (fun s => [(2, .c (.d (.v (.bool s))))]) (fun s => []) [] out ?_ ?_
  · rcases bsplit H with ⟨hp1, H⟩ | ⟨hp1, H⟩
    · try simp -implicitDefEqProofs only [goR, ↓upd_at, if_true, if_false, reduceCtorEq, ↓reduceIte, Nat.reduceEqDiff, Nat.reduceAdd, Nat.reduceSub, Nat.reduceMul, Nat.reduceBEq, Nat.reduceLT, Nat.reduceLeDiff, Int.reduceToNat, Int.reduceLE, Int.reduceLT, Int.reduceEq, Int.reduceNeg, ← List.map_drop, ← List.map_take, UInt8.reduceToNat, true_implies, implies_true, List.append_eq, y_preref1_Digit] at hp1
      have hq1 := hp1
      try simp only [goT] at hq1
      refine w_region rfl (fun K hK => ?_)
      simp -implicitDefEqProofs only [goR, ↓upd_at, if_true, if_false, reduceCtorEq, ↓reduceIte, Nat.reduceEqDiff, Nat.reduceAdd, Nat.reduceSub, Nat.reduceMul, Nat.reduceBEq, Nat.reduceLT, Nat.reduceLeDiff, Int.reduceToNat, Int.reduceLE, Int.reduceLT, Int.reduceEq, Int.reduceNeg, ← List.map_drop, ← List.map_take, UInt8.reduceToNat, true_implies, implies_true, List.append_eq, y_preref1_Digit, hp1]
      (repeat' (first | ((with_reducible refine hK _ _ ?_); clear hK K) | (with_reducible apply And.intro) | (exact trivial) | (clear hK K; assumption) | (clear hK K; omega)))
      refine cut_at H ?_
      exact wk_ren ⟨[], []⟩ rfl rfl rfl rfl rfl (by simp -implicitDefEqProofs only [goW, goR, ↓upd_at, if_true, if_false, reduceCtorEq, ↓reduceIte, Nat.reduceEqDiff, Nat.reduceAdd, Nat.reduceSub, Nat.reduceMul, Nat.reduceBEq, Nat.reduceLT, Nat.reduceLeDiff, Int.reduceToNat, Int.reduceLE, Int.reduceLT, Int.reduceEq, Int.reduceNeg, ← List.map_drop, ← List.map_take, UInt8.reduceToNat, true_implies, implies_true, List.append_eq, y_preref1_Digit]) (by simp -implicitDefEqProofs only [goW, goR, ↓upd_at, if_true, if_false, reduceCtorEq, ↓reduceIte, Nat.reduceEqDiff, Nat.reduceAdd, Nat.reduceSub, Nat.reduceMul, Nat.reduceBEq, Nat.reduceLT, Nat.reduceLeDiff, Int.reduceToNat, Int.reduceLE, Int.reduceLT, Int.reduceEq, Int.reduceNeg, ← List.map_drop, ← List.map_take, UInt8.reduceToNat, true_implies, implies_true, List.append_eq, y_preref1_Digit]) (by simp -implicitDefEqProofs only [goW, goR, ↓upd_at, if_true, if_false, reduceCtorEq, ↓reduceIte, Nat.reduceEqDiff, Nat.reduceAdd, Nat.reduceSub, Nat.reduceMul, Nat.reduceBEq, Nat.reduceLT, Nat.reduceLeDiff, Int.reduceToNat, Int.reduceLE, Int.reduceLT, Int.reduceEq, Int.reduceNeg, ← List.map_drop, ← List.map_take, UInt8.reduceToNat, true_implies, implies_true, List.append_eq, y_preref1_Digit]) rfl
    · try simp -implicitDefEqProofs only [goR, ↓upd_at, if_true, if_false, reduceCtorEq, ↓reduceIte, Nat.reduceEqDiff, Nat.reduceAdd, Nat.reduceSub, Nat.reduceMul, Nat.reduceBEq, Nat.reduceLT, Nat.reduceLeDiff, Int.reduceToNat, Int.reduceLE, Int.reduceLT, Int.reduceEq, Int.reduceNeg, ← List.map_drop, ← List.map_take, UInt8.reduceToNat, true_implies, implies_true, List.append_eq, y_preref1_Digit] at hp1
      have hq1 := hp1
      try simp only [goT] at hq1
      refine w_region rfl (fun K hK => ?_)
      simp -implicitDefEqProofs only [goR, ↓upd_at, if_true, if_false, reduceCtorEq, ↓reduceIte, Nat.reduceEqDiff, Nat.reduceAdd, Nat.reduceSub, Nat.reduceMul, Nat.reduceBEq, Nat.reduceLT, Nat.reduceLeDiff, Int.reduceToNat, Int.reduceLE, Int.reduceLT, Int.reduceEq, Int.reduceNeg, ← List.map_drop, ← List.map_take, UInt8.reduceToNat, true_implies, implies_true, List.append_eq, y_preref1_Digit, hp1]
      (repeat' (first | ((with_reducible refine hK _ _ ?_); clear hK K) | (with_reducible apply And.intro) | (exact trivial) | (clear hK K; assumption) | (clear hK K; omega)))
      refine cut_at H ?_
      exact wk_ren ⟨[], []⟩ rfl rfl rfl rfl rfl (by simp -implicitDefEqProofs only [goW, goR, ↓upd_at, if_true, if_false, reduceCtorEq, ↓reduceIte, Nat.reduceEqDiff, Nat.reduceAdd, Nat.reduceSub, Nat.reduceMul, Nat.reduceBEq, Nat.reduceLT, Nat.reduceLeDiff, Int.reduceToNat, Int.reduceLE, Int.reduceLT, Int.reduceEq, Int.reduceNeg, ← List.map_drop, ← List.map_take, UInt8.reduceToNat, true_implies, implies_true, List.append_eq, y_preref1_Digit]) (by simp -implicitDefEqProofs only [goW, goR, ↓upd_at, if_true, if_false, reduceCtorEq, ↓reduceIte, Nat.reduceEqDiff, Nat.reduceAdd, Nat.reduceSub, Nat.reduceMul, Nat.reduceBEq, Nat.reduceLT, Nat.reduceLeDiff, Int.reduceToNat, Int.reduceLE, Int.reduceLT, Int.reduceEq, Int.reduceNeg, ← List.map_drop, ← List.map_take, UInt8.reduceToNat, true_implies, implies_true, List.append_eq, y_preref1_Digit]) (by simp -implicitDefEqProofs only [goW, goR, ↓upd_at, if_true, if_false, reduceCtorEq, ↓reduceIte, Nat.reduceEqDiff, Nat.reduceAdd, Nat.reduceSub, Nat.reduceMul, Nat.reduceBEq, Nat.reduceLT, Nat.reduceLeDiff, Int.reduceToNat, Int.reduceLE, Int.reduceLT, Int.reduceEq, Int.reduceNeg, ← List.map_drop, ← List.map_take, UInt8.reduceToNat, true_implies, implies_true, List.append_eq, y_preref1_Digit]) rfl
  · rintro x1 H
    rw [preref1_Digit_j1] at H
    refine w_ret ?_
    obtain rfl := Option.some.inj H
    simp -implicitDefEqProofs only [goQ, Try.results45, goR, ↓upd_at, if_true, if_false, reduceCtorEq, ↓reduceIte, Nat.reduceEqDiff, Nat.reduceAdd, Nat.reduceSub, Nat.reduceMul, Nat.reduceBEq, Nat.reduceLT, Nat.reduceLeDiff, Int.reduceToNat, Int.reduceLE, Int.reduceLT, Int.reduceEq, Int.reduceNeg, ← List.map_drop, ← List.map_take, UInt8.reduceToNat, true_implies, implies_true, List.append_eq, y_preref1_Digit]
theorem preref1_Digit_c (a0 : UInt8) (r : Bool) (H : preref1_Digit a0 = some r) : pf_preref1_Digit.pre [dU a0] = True ∧ pf_preref1_Digit.val [dU a0] = dB r :=
  ⟨PF.of_pre (enc := c_preref1_Digit) (f := fun a => preref1_Digit a) (e := e_preref1_Digit) (a := a0) H, PF.of_val (enc := c_preref1_Digit) (f := fun a => preref1_Digit a) (e := e_preref1_Digit) (a := a0) c_preref1_Digit_inj H⟩
noncomputable def lex_Name_j3 (x2 : Int) (x3 : Int) : Bool → Option ((Int × Int) ⊕ Bool)
  | x4 => if x4 = true then inrO (some false) else some (.inl (x2, IntKind.i64.wrap (x3 + 1)))
noncomputable def lex_Name_b2 (a0 : List UInt8) : (Int × Int) → Option ((Int × Int) ⊕ Bool)
  | (x2, x3) => if (ltI x3 x2) = true then if (0 : Int) ≤ x3 ∧ x3.toNat < a0.length then (lex_Letter (a0.getD x3.toNat 0)).bind fun r1 => if (!r1) = true then if (0 : Int) ≤ x3 ∧ x3.toNat < a0.length then (lex_Digit (a0.getD x3.toNat 0)).bind fun r2 => lex_Name_j3 x2 x3 (!r2) else none else lex_Name_j3 x2 x3 false else none else inrO (some true)
noncomputable def lex_Name_j1 (a0 : List UInt8) : Bool → Option Bool
  | x1 => if x1 = true then some false else loopO (lex_Name_b2 a0) ((a0.length : Int), 0)
noncomputable def lex_Name (a0 : List UInt8) : Option Bool :=
  if (eqS a0 []) = true then lex_Name_j1 a0 true else if 0 < a0.length then (lex_Letter (a0.getD 0 0)).bind fun r3 => lex_Name_j1 a0 (!r3) else none
def e_lex_Name : Bool → D := fun r => dB r
def c_lex_Name : (List UInt8) → List D := fun a => [dS a]
theorem c_lex_Name_inj : Inj c_lex_Name := by intro a b h; simp only [c_lex_Name, List.map_cons, List.map_nil, List.cons.injEq, and_true] at h; exact (dS_inj _ _) h
noncomputable def pf_lex_Name : PF := PF.of c_lex_Name (fun a => lex_Name a) e_lex_Name
noncomputable def t_lex_Name : Tab := tabOf Try.prog [(42, pf_lex_Letter), (44, pf_lex_Digit)] []
theorem t_lex_Name_ok : TabOk t_lex_Name := tabOf_ok (by exact ⟨⟨call_42, lex_Letter_ok⟩, ⟨call_44, lex_Digit_ok⟩, trivial⟩) (by exact trivial)
theorem y_lex_Name : (((type_of% @Try.underlying9) ∧ (type_of% @t_lex_Name.eq_1)) ∧ ((type_of% @c_lex_Name.eq_1) ∧ (type_of% @e_lex_Name.eq_1))) := ⟨⟨@Try.underlying9, @t_lex_Name.eq_1⟩, ⟨@c_lex_Name.eq_1, @e_lex_Name.eq_1⟩⟩
set_option maxRecDepth 100000 in
set_option maxHeartbeats 4000000 in
theorem lex_Name_ok : PureOk Try.prog 33 pf_lex_Name := by
  refine pure_of (t := t_lex_Name) (pure := fun n => [42, 44].contains n) c_lex_Name_inj rfl t_lex_Name_ok mixed (fun n hn => tabOf_pure rfl n hn) Try.func33 rfl (by kernel_rfl) (fun a => by simp [c_lex_Name, Try.ntmps33]) ?_
  rintro a0 out H
  simp only [lex_Name] at H
  show aC _ _ (sig0 (List.map (fun d => AV.c (C.d d)) (c_lex_Name a0))) _ _
  refine w_seq ?_
  refine w_region rfl (fun K hK => ?_)
  simp -implicitDefEqProofs only [goR, ↓upd_at, if_true, if_false, reduceCtorEq, ↓reduceIte, Nat.reduceEqDiff, Nat.reduceAdd, Nat.reduceSub, Nat.reduceMul, Nat.reduceBEq, Nat.reduceLT, Nat.reduceLeDiff, Int.reduceToNat, Int.reduceLE, Int.reduceLT, Int.reduceEq, Int.reduceNeg, ← List.map_drop, ← List.map_take, UInt8.reduceToNat, true_implies, implies_true, List.append_eq, y_lex_Name]
  (repeat' (first | ((with_reducible refine hK _ _ ?_); clear hK K) | (with_reducible apply And.intro) | (exact trivial) | (clear hK K; assumption) | (clear hK K; omega)))
  refine then_normal ?_
  refine w_seq ?_
  refine w_cut (lex_Name_j1 a0) (fun s => [(0, .c (.d (.v (str a0)))), (11, .c (.d (.v (.bool s))))]) (fun s => []) [] out ?_ ?_
  · rcases bsplit H with ⟨hp5, H⟩ | ⟨hp5, H⟩
    · try simp -implicitDefEqProofs only [goR, ↓upd_at, if_true, if_false, reduceCtorEq, ↓reduceIte, Nat.reduceEqDiff, Nat.reduceAdd, Nat.reduceSub, Nat.reduceMul, Nat.reduceBEq, Nat.reduceLT, Nat.reduceLeDiff, Int.reduceToNat, Int.reduceLE, Int.reduceLT, Int.reduceEq, Int.reduceNeg, ← List.map_drop, ← List.map_take, UInt8.reduceToNat, true_implies, implies_true, List.append_eq, y_lex_Name] at hp5
      have hq5 := hp5
      try simp only [goT] at hq5
      refine w_region rfl (fun K hK => ?_)
      simp -implicitDefEqProofs only [goR, ↓upd_at, if_true, if_false, reduceCtorEq, ↓reduceIte, Nat.reduceEqDiff, Nat.reduceAdd, Nat.reduceSub, Nat.reduceMul, Nat.reduceBEq, Nat.reduceLT, Nat.reduceLeDiff, Int.reduceToNat, Int.reduceLE, Int.reduceLT, Int.reduceEq, Int.reduceNeg, ← List.map_drop, ← List.map_take, UInt8.reduceToNat, true_implies, implies_true, List.append_eq, y_lex_Name, hp5]
      (repeat' (first | ((with_reducible refine hK _ _ ?_); clear hK K) | (with_reducible apply And.intro) | (exact trivial) | (clear hK K; assumption) | (clear hK K; omega)))
      refine cut_at H ?_
      exact wk_ren ⟨[], []⟩ rfl rfl rfl rfl rfl (by simp -implicitDefEqProofs only [goW, goR, ↓upd_at, if_true, if_false, reduceCtorEq, ↓reduceIte, Nat.reduceEqDiff, Nat.reduceAdd, Nat.reduceSub, Nat.reduceMul, Nat.reduceBEq, Nat.reduceLT, Nat.reduceLeDiff, Int.reduceToNat, Int.reduceLE, Int.reduceLT, Int.reduceEq, Int.reduceNeg, ← List.map_drop, ← List.map_take, UInt8.reduceToNat, true_implies, implies_true, List.append_eq, y_lex_Name]) (by simp -implicitDefEqProofs only [goW, goR, ↓upd_at, if_true, if_false, reduceCtorEq, ↓reduceIte, Nat.reduceEqDiff, Nat.reduceAdd, Nat.reduceSub, Nat.reduceMul, Nat.reduceBEq, Nat.reduceLT, Nat.reduceLeDiff, Int.reduceToNat, Int.reduceLE, Int.reduceLT, Int.reduceEq, Int.reduceNeg, ← List.map_drop, ← List.map_take, UInt8.reduceToNat, true_implies, implies_true, List.append_eq, y_lex_Name]) (by simp -implicitDefEqProofs only [goW, goR, ↓upd_at, if_true, if_false, reduceCtorEq, ↓reduceIte, Nat.reduceEqDiff, Nat.reduceAdd, Nat.reduceSub, Nat.reduceMul, Nat.reduceBEq, Nat.reduceLT, Nat.reduceLeDiff, Int.reduceToNat, Int.reduceLE, Int.reduceLT, Int.reduceEq, Int.reduceNeg, ← List.map_drop, ← List.map_take, UInt8.reduceToNat, true_implies, implies_true, List.append_eq, y_lex_Name]) rfl
    · try simp -implicitDefEqProofs only [goR, ↓upd_at, if_true, if_false, reduceCtorEq, ↓reduceIte, Nat.reduceEqDiff, Nat.reduceAdd, Nat.reduceSub, Nat.reduceMul, Nat.reduceBEq, Nat.reduceLT, Nat.reduceLeDiff, Int.reduceToNat, Int.reduceLE, Int.reduceLT, Int.reduceEq, Int.reduceNeg, ← List.map_drop, ← List.map_take, UInt8.reduceToNat, true_implies, implies_true, List.append_eq, y_lex_Name] at hp5
      have hq5 := hp5
      try simp only [goT] at hq5
      obtain ⟨hg3, H⟩ := gsplit H
      obtain ⟨r3, hr3, H⟩ := osplit H
      have hc3 := lex_Letter_c (a0.getD 0 0) r3 hr3
      simp -implicitDefEqProofs only [goR, ↓upd_at, if_true, if_false, reduceCtorEq, ↓reduceIte, Nat.reduceEqDiff, Nat.reduceAdd, Nat.reduceSub, Nat.reduceMul, Nat.reduceBEq, Nat.reduceLT, Nat.reduceLeDiff, Int.reduceToNat, Int.reduceLE, Int.reduceLT, Int.reduceEq, Int.reduceNeg, ← List.map_drop, ← List.map_take, UInt8.reduceToNat, true_implies, implies_true, List.append_eq, y_lex_Name] at hc3
      refine w_region rfl (fun K hK => ?_)
      simp -implicitDefEqProofs only [goR, ↓upd_at, if_true, if_false, reduceCtorEq, ↓reduceIte, Nat.reduceEqDiff, Nat.reduceAdd, Nat.reduceSub, Nat.reduceMul, Nat.reduceBEq, Nat.reduceLT, Nat.reduceLeDiff, Int.reduceToNat, Int.reduceLE, Int.reduceLT, Int.reduceEq, Int.reduceNeg, ← List.map_drop, ← List.map_take, UInt8.reduceToNat, true_implies, implies_true, List.append_eq, y_lex_Name, hp5, hc3.1, hc3.2]
      (repeat' (first | ((with_reducible refine hK _ _ ?_); clear hK K) | (with_reducible apply And.intro) | (exact trivial) | (clear hK K; assumption) | (clear hK K; omega)))
      refine cut_at H ?_
      exact wk_ren ⟨[], []⟩ rfl rfl rfl rfl rfl (by simp -implicitDefEqProofs only [goW, goR, ↓upd_at, if_true, if_false, reduceCtorEq, ↓reduceIte, Nat.reduceEqDiff, Nat.reduceAdd, Nat.reduceSub, Nat.reduceMul, Nat.reduceBEq, Nat.reduceLT, Nat.reduceLeDiff, Int.reduceToNat, Int.reduceLE, Int.reduceLT, Int.reduceEq, Int.reduceNeg, ← List.map_drop, ← List.map_take, UInt8.reduceToNat, true_implies, implies_true, List.append_eq, y_lex_Name]) (by simp -implicitDefEqProofs only [goW, goR, ↓upd_at, if_true, if_false, reduceCtorEq, ↓reduceIte, Nat.reduceEqDiff, Nat.reduceAdd, Nat.reduceSub, Nat.reduceMul, Nat.reduceBEq, Nat.reduceLT, Nat.reduceLeDiff, Int.reduceToNat, Int.reduceLE, Int.reduceLT, Int.reduceEq, Int.reduceNeg, ← List.map_drop, ← List.map_take, UInt8.reduceToNat, true_implies, implies_true, List.append_eq, y_lex_Name]) (by simp -implicitDefEqProofs only [goW, goR, ↓upd_at, if_true, if_false, reduceCtorEq, ↓reduceIte, Nat.reduceEqDiff, Nat.reduceAdd, Nat.reduceSub, Nat.reduceMul, Nat.reduceBEq, Nat.reduceLT, Nat.reduceLeDiff, Int.reduceToNat, Int.reduceLE, Int.reduceLT, Int.reduceEq, Int.reduceNeg, ← List.map_drop, ← List.map_take, UInt8.reduceToNat, true_implies, implies_true, List.append_eq, y_lex_Name]) rfl
  · rintro x1 H
    rw [lex_Name_j1] at H
    rcases bsplit H with ⟨hp1, H⟩ | ⟨hp1, H⟩
    · try simp -implicitDefEqProofs only [goR, ↓upd_at, if_true, if_false, reduceCtorEq, ↓reduceIte, Nat.reduceEqDiff, Nat.reduceAdd, Nat.reduceSub, Nat.reduceMul, Nat.reduceBEq, Nat.reduceLT, Nat.reduceLeDiff, Int.reduceToNat, Int.reduceLE, Int.reduceLT, Int.reduceEq, Int.reduceNeg, ← List.map_drop, ← List.map_take, UInt8.reduceToNat, true_implies, implies_true, List.append_eq, y_lex_Name] at hp1
      have hq1 := hp1
      try simp only [goT] at hq1
      refine w_condT (by simp -implicitDefEqProofs only [goR, ↓upd_at, if_true, if_false, reduceCtorEq, ↓reduceIte, Nat.reduceEqDiff, Nat.reduceAdd, Nat.reduceSub, Nat.reduceMul, Nat.reduceBEq, Nat.reduceLT, Nat.reduceLeDiff, Int.reduceToNat, Int.reduceLE, Int.reduceLT, Int.reduceEq, Int.reduceNeg, ← List.map_drop, ← List.map_take, UInt8.reduceToNat, true_implies, implies_true, List.append_eq, y_lex_Name, hp1]) ?_
      refine w_seq ?_
      refine w_region rfl (fun K hK => ?_)
      simp -implicitDefEqProofs only [goR, ↓upd_at, if_true, if_false, reduceCtorEq, ↓reduceIte, Nat.reduceEqDiff, Nat.reduceAdd, Nat.reduceSub, Nat.reduceMul, Nat.reduceBEq, Nat.reduceLT, Nat.reduceLeDiff, Int.reduceToNat, Int.reduceLE, Int.reduceLT, Int.reduceEq, Int.reduceNeg, ← List.map_drop, ← List.map_take, UInt8.reduceToNat, true_implies, implies_true, List.append_eq, y_lex_Name]
      (repeat' (first | ((with_reducible refine hK _ _ ?_); clear hK K) | (with_reducible apply And.intro) | (exact trivial) | (clear hK K; assumption) | (clear hK K; omega)))
      refine then_normal ?_
      refine w_ret ?_
      refine then_ret ?_
      obtain rfl := Option.some.inj H
      simp -implicitDefEqProofs only [goQ, Try.results33, goR, ↓upd_at, if_true, if_false, reduceCtorEq, ↓reduceIte, Nat.reduceEqDiff, Nat.reduceAdd, Nat.reduceSub, Nat.reduceMul, Nat.reduceBEq, Nat.reduceLT, Nat.reduceLeDiff, Int.reduceToNat, Int.reduceLE, Int.reduceLT, Int.reduceEq, Int.reduceNeg, ← List.map_drop, ← List.map_take, UInt8.reduceToNat, true_implies, implies_true, List.append_eq, y_lex_Name]
    · try simp -implicitDefEqProofs only [goR, ↓upd_at, if_true, if_false, reduceCtorEq, ↓reduceIte, Nat.reduceEqDiff, Nat.reduceAdd, Nat.reduceSub, Nat.reduceMul, Nat.reduceBEq, Nat.reduceLT, Nat.reduceLeDiff, Int.reduceToNat, Int.reduceLE, Int.reduceLT, Int.reduceEq, Int.reduceNeg, ← List.map_drop, ← List.map_take, UInt8.reduceToNat, true_implies, implies_true, List.append_eq, y_lex_Name] at hp1
      have hq1 := hp1
      try simp only [goT] at hq1
      refine w_condF (by simp -implicitDefEqProofs only [goR, ↓upd_at, if_true, if_false, reduceCtorEq, ↓reduceIte, Nat.reduceEqDiff, Nat.reduceAdd, Nat.reduceSub, Nat.reduceMul, Nat.reduceBEq, Nat.reduceLT, Nat.reduceLeDiff, Int.reduceToNat, Int.reduceLE, Int.reduceLT, Int.reduceEq, Int.reduceNeg, ← List.map_drop, ← List.map_take, UInt8.reduceToNat, true_implies, implies_true, List.append_eq, y_lex_Name, hp1]) ?_
      refine w_skip ?_
      refine then_normal ?_
      refine w_seq ?_
      refine w_seq ?_
      refine w_region rfl (fun K hK => ?_)
      simp -implicitDefEqProofs only [goR, ↓upd_at, if_true, if_false, reduceCtorEq, ↓reduceIte, Nat.reduceEqDiff, Nat.reduceAdd, Nat.reduceSub, Nat.reduceMul, Nat.reduceBEq, Nat.reduceLT, Nat.reduceLeDiff, Int.reduceToNat, Int.reduceLE, Int.reduceLT, Int.reduceEq, Int.reduceNeg, ← List.map_drop, ← List.map_take, UInt8.reduceToNat, true_implies, implies_true, List.append_eq, y_lex_Name]
      (repeat' (first | ((with_reducible refine hK _ _ ?_); clear hK K) | (with_reducible apply And.intro) | (exact trivial) | (clear hK K; assumption) | (clear hK K; omega)))
      refine then_normal ?_
      refine w_block ?_
      refine w_loop (lex_Name_b2 a0) (fun s => [(0, .c (.d (.v (str a0)))), (13, .c (.d (.v (.int .i64 s.1)))), (14, .c (.d (.v (.int .i64 s.2))))]) (fun s => []) [] H ?_ ?_
      · exact wk_ren ⟨[], []⟩ rfl rfl rfl rfl rfl (by simp -implicitDefEqProofs only [goW, goR, ↓upd_at, if_true, if_false, reduceCtorEq, ↓reduceIte, Nat.reduceEqDiff, Nat.reduceAdd, Nat.reduceSub, Nat.reduceMul, Nat.reduceBEq, Nat.reduceLT, Nat.reduceLeDiff, Int.reduceToNat, Int.reduceLE, Int.reduceLT, Int.reduceEq, Int.reduceNeg, ← List.map_drop, ← List.map_take, UInt8.reduceToNat, true_implies, implies_true, List.append_eq, y_lex_Name]) (by simp -implicitDefEqProofs only [goW, goR, ↓upd_at, if_true, if_false, reduceCtorEq, ↓reduceIte, Nat.reduceEqDiff, Nat.reduceAdd, Nat.reduceSub, Nat.reduceMul, Nat.reduceBEq, Nat.reduceLT, Nat.reduceLeDiff, Int.reduceToNat, Int.reduceLE, Int.reduceLT, Int.reduceEq, Int.reduceNeg, ← List.map_drop, ← List.map_take, UInt8.reduceToNat, true_implies, implies_true, List.append_eq, y_lex_Name]) (by simp -implicitDefEqProofs only [goW, goR, ↓upd_at, if_true, if_false, reduceCtorEq, ↓reduceIte, Nat.reduceEqDiff, Nat.reduceAdd, Nat.reduceSub, Nat.reduceMul, Nat.reduceBEq, Nat.reduceLT, Nat.reduceLeDiff, Int.reduceToNat, Int.reduceLE, Int.reduceLT, Int.reduceEq, Int.reduceNeg, ← List.map_drop, ← List.map_take, UInt8.reduceToNat, true_implies, implies_true, List.append_eq, y_lex_Name]) rfl
      · rintro n1 ⟨x2, x3⟩ o1 H hF1
        rw [lex_Name_b2] at H
        refine w_seq ?_
        refine w_region rfl (fun K hK => ?_)
        simp -implicitDefEqProofs only [goR, ↓upd_at, if_true, if_false, reduceCtorEq, ↓reduceIte, Nat.reduceEqDiff, Nat.reduceAdd, Nat.reduceSub, Nat.reduceMul, Nat.reduceBEq, Nat.reduceLT, Nat.reduceLeDiff, Int.reduceToNat, Int.reduceLE, Int.reduceLT, Int.reduceEq, Int.reduceNeg, ← List.map_drop, ← List.map_take, UInt8.reduceToNat, true_implies, implies_true, List.append_eq, y_lex_Name]
        (repeat' (first | ((with_reducible refine hK _ _ ?_); clear hK K) | (with_reducible apply And.intro) | (exact trivial) | (clear hK K; assumption) | (clear hK K; omega)))
        refine then_normal ?_
        refine w_seq ?_
        rcases bsplit H with ⟨hp2, H⟩ | ⟨hp2, H⟩
        · try simp -implicitDefEqProofs only [goR, ↓upd_at, if_true, if_false, reduceCtorEq, ↓reduceIte, Nat.reduceEqDiff, Nat.reduceAdd, Nat.reduceSub, Nat.reduceMul, Nat.reduceBEq, Nat.reduceLT, Nat.reduceLeDiff, Int.reduceToNat, Int.reduceLE, Int.reduceLT, Int.reduceEq, Int.reduceNeg, ← List.map_drop, ← List.map_take, UInt8.reduceToNat, true_implies, implies_true, List.append_eq, y_lex_Name] at hp2
          have hq2 := hp2
          try simp only [goT] at hq2
          refine w_condT (by simp -implicitDefEqProofs only [goR, ↓upd_at, if_true, if_false, reduceCtorEq, ↓reduceIte, Nat.reduceEqDiff, Nat.reduceAdd, Nat.reduceSub, Nat.reduceMul, Nat.reduceBEq, Nat.reduceLT, Nat.reduceLeDiff, Int.reduceToNat, Int.reduceLE, Int.reduceLT, Int.reduceEq, Int.reduceNeg, ← List.map_drop, ← List.map_take, UInt8.reduceToNat, true_implies, implies_true, List.append_eq, y_lex_Name, hp2]) ?_
          refine w_skip ?_
          refine then_normal ?_
          refine w_seq ?_
          refine w_block ?_
          refine w_seq ?_
          refine w_region rfl (fun K hK => ?_)
          simp -implicitDefEqProofs only [goR, ↓upd_at, if_true, if_false, reduceCtorEq, ↓reduceIte, Nat.reduceEqDiff, Nat.reduceAdd, Nat.reduceSub, Nat.reduceMul, Nat.reduceBEq, Nat.reduceLT, Nat.reduceLeDiff, Int.reduceToNat, Int.reduceLE, Int.reduceLT, Int.reduceEq, Int.reduceNeg, ← List.map_drop, ← List.map_take, UInt8.reduceToNat, true_implies, implies_true, List.append_eq, y_lex_Name]
          (repeat' (first | ((with_reducible refine hK _ _ ?_); clear hK K) | (with_reducible apply And.intro) | (exact trivial) | (clear hK K; assumption) | (clear hK K; omega)))
          refine then_normal ?_
          refine w_cut (lex_Name_j3 x2 x3) (fun s => [(0, .c (.d (.v (str a0)))), (13, .c (.d (.v (.int .i64 x2)))), (14, .c (.d (.v (.int .i64 x3)))), (28, .c (.d (.v (.bool s))))]) (fun s => []) [] o1 ?_ ?_
          · obtain ⟨hg1, H⟩ := gsplit H
            obtain ⟨r1, hr1, H⟩ := osplit H
            have hc1 := lex_Letter_c (a0.getD x3.toNat 0) r1 hr1
            simp -implicitDefEqProofs only [goR, ↓upd_at, if_true, if_false, reduceCtorEq, ↓reduceIte, Nat.reduceEqDiff, Nat.reduceAdd, Nat.reduceSub, Nat.reduceMul, Nat.reduceBEq, Nat.reduceLT, Nat.reduceLeDiff, Int.reduceToNat, Int.reduceLE, Int.reduceLT, Int.reduceEq, Int.reduceNeg, ← List.map_drop, ← List.map_take, UInt8.reduceToNat, true_implies, implies_true, List.append_eq, y_lex_Name] at hc1
            rcases bsplit H with ⟨hp4, H⟩ | ⟨hp4, H⟩
            · try simp -implicitDefEqProofs only [goR, ↓upd_at, if_true, if_false, reduceCtorEq, ↓reduceIte, Nat.reduceEqDiff, Nat.reduceAdd, Nat.reduceSub, Nat.reduceMul, Nat.reduceBEq, Nat.reduceLT, Nat.reduceLeDiff, Int.reduceToNat, Int.reduceLE, Int.reduceLT, Int.reduceEq, Int.reduceNeg, ← List.map_drop, ← List.map_take, UInt8.reduceToNat, true_implies, implies_true, List.append_eq, y_lex_Name] at hp4
              have hq4 := hp4
              try simp only [goT] at hq4
              obtain ⟨hg2, H⟩ := gsplit H
              obtain ⟨r2, hr2, H⟩ := osplit H
              have hc2 := lex_Digit_c (a0.getD x3.toNat 0) r2 hr2
              simp -implicitDefEqProofs only [goR, ↓upd_at, if_true, if_false, reduceCtorEq, ↓reduceIte, Nat.reduceEqDiff, Nat.reduceAdd, Nat.reduceSub, Nat.reduceMul, Nat.reduceBEq, Nat.reduceLT, Nat.reduceLeDiff, Int.reduceToNat, Int.reduceLE, Int.reduceLT, Int.reduceEq, Int.reduceNeg, ← List.map_drop, ← List.map_take, UInt8.reduceToNat, true_implies, implies_true, List.append_eq, y_lex_Name] at hc2
              refine w_region rfl (fun K hK => ?_)
              simp -implicitDefEqProofs only [goR, ↓upd_at, if_true, if_false, reduceCtorEq, ↓reduceIte, Nat.reduceEqDiff, Nat.reduceAdd, Nat.reduceSub, Nat.reduceMul, Nat.reduceBEq, Nat.reduceLT, Nat.reduceLeDiff, Int.reduceToNat, Int.reduceLE, Int.reduceLT, Int.reduceEq, Int.reduceNeg, ← List.map_drop, ← List.map_take, UInt8.reduceToNat, true_implies, implies_true, List.append_eq, y_lex_Name, hc1.1, hc1.2, hp4, hc2.1, hc2.2]
              (repeat' (first | ((with_reducible refine hK _ _ ?_); clear hK K) | (with_reducible apply And.intro) | (exact trivial) | (clear hK K; assumption) | (clear hK K; omega)))
              refine cut_at H ?_
              exact wk_ren ⟨[], []⟩ rfl rfl rfl rfl rfl (by simp -implicitDefEqProofs only [goW, goR, ↓upd_at, if_true, if_false, reduceCtorEq, ↓reduceIte, Nat.reduceEqDiff, Nat.reduceAdd, Nat.reduceSub, Nat.reduceMul, Nat.reduceBEq, Nat.reduceLT, Nat.reduceLeDiff, Int.reduceToNat, Int.reduceLE, Int.reduceLT, Int.reduceEq, Int.reduceNeg, ← List.map_drop, ← List.map_take, UInt8.reduceToNat, true_implies, implies_true, List.append_eq, y_lex_Name]) (by simp -implicitDefEqProofs only [goW, goR, ↓upd_at, if_true, if_false, reduceCtorEq, ↓reduceIte, Nat.reduceEqDiff, Nat.reduceAdd, Nat.reduceSub, Nat.reduceMul, Nat.reduceBEq, Nat.reduceLT, Nat.reduceLeDiff, Int.reduceToNat, Int.reduceLE, Int.reduceLT, Int.reduceEq, Int.reduceNeg, ← List.map_drop, ← List.map_take, UInt8.reduceToNat, true_implies, implies_true, List.append_eq, y_lex_Name]) (by simp -implicitDefEqProofs only [goW, goR, ↓upd_at, if_true, if_false, reduceCtorEq, ↓reduceIte, Nat.reduceEqDiff, Nat.reduceAdd, Nat.reduceSub, Nat.reduceMul, Nat.reduceBEq, Nat.reduceLT, Nat.reduceLeDiff, Int.reduceToNat, Int.reduceLE, Int.reduceLT, Int.reduceEq, Int.reduceNeg, ← List.map_drop, ← List.map_take, UInt8.reduceToNat, true_implies, implies_true, List.append_eq, y_lex_Name]) rfl
            · try simp -implicitDefEqProofs only [goR, ↓upd_at, if_true, if_false, reduceCtorEq, ↓reduceIte, Nat.reduceEqDiff, Nat.reduceAdd, Nat.reduceSub, Nat.reduceMul, Nat.reduceBEq, Nat.reduceLT, Nat.reduceLeDiff, Int.reduceToNat, Int.reduceLE, Int.reduceLT, Int.reduceEq, Int.reduceNeg, ← List.map_drop, ← List.map_take, UInt8.reduceToNat, true_implies, implies_true, List.append_eq, y_lex_Name] at hp4
              have hq4 := hp4
              try simp only [goT] at hq4
              refine w_region rfl (fun K hK => ?_)
              simp -implicitDefEqProofs only [goR, ↓upd_at, if_true, if_false, reduceCtorEq, ↓reduceIte, Nat.reduceEqDiff, Nat.reduceAdd, Nat.reduceSub, Nat.reduceMul, Nat.reduceBEq, Nat.reduceLT, Nat.reduceLeDiff, Int.reduceToNat, Int.reduceLE, Int.reduceLT, Int.reduceEq, Int.reduceNeg, ← List.map_drop, ← List.map_take, UInt8.reduceToNat, true_implies, implies_true, List.append_eq, y_lex_Name, hc1.1, hc1.2, hp4]
              (repeat' (first | ((with_reducible refine hK _ _ ?_); clear hK K) | (with_reducible apply And.intro) | (exact trivial) | (clear hK K; assumption) | (clear hK K; omega)))
              refine cut_at H ?_
              exact wk_ren ⟨[], []⟩ rfl rfl rfl rfl rfl (by simp -implicitDefEqProofs only [goW, goR, ↓upd_at, if_true, if_false, reduceCtorEq, ↓reduceIte, Nat.reduceEqDiff, Nat.reduceAdd, Nat.reduceSub, Nat.reduceMul, Nat.reduceBEq, Nat.reduceLT, Nat.reduceLeDiff, Int.reduceToNat, Int.reduceLE, Int.reduceLT, Int.reduceEq, Int.reduceNeg, ← List.map_drop, ← List.map_take, UInt8.reduceToNat, true_implies, implies_true, List.append_eq, y_lex_Name]) (by simp -implicitDefEqProofs only [goW, goR, ↓upd_at, if_true, if_false, reduceCtorEq, ↓reduceIte, Nat.reduceEqDiff, Nat.reduceAdd, Nat.reduceSub, Nat.reduceMul, Nat.reduceBEq, Nat.reduceLT, Nat.reduceLeDiff, Int.reduceToNat, Int.reduceLE, Int.reduceLT, Int.reduceEq, Int.reduceNeg, ← List.map_drop, ← List.map_take, UInt8.reduceToNat, true_implies, implies_true, List.append_eq, y_lex_Name]) (by simp -implicitDefEqProofs only [goW, goR, ↓upd_at, if_true, if_false, reduceCtorEq, ↓reduceIte, Nat.reduceEqDiff, Nat.reduceAdd, Nat.reduceSub, Nat.reduceMul, Nat.reduceBEq, Nat.reduceLT, Nat.reduceLeDiff, Int.reduceToNat, Int.reduceLE, Int.reduceLT, Int.reduceEq, Int.reduceNeg, ← List.map_drop, ← List.map_take, UInt8.reduceToNat, true_implies, implies_true, List.append_eq, y_lex_Name]) rfl
          · rintro x4 H
            rw [lex_Name_j3] at H
            rcases bsplit H with ⟨hp3, H⟩ | ⟨hp3, H⟩
            · try simp -implicitDefEqProofs only [goR, ↓upd_at, if_true, if_false, reduceCtorEq, ↓reduceIte, Nat.reduceEqDiff, Nat.reduceAdd, Nat.reduceSub, Nat.reduceMul, Nat.reduceBEq, Nat.reduceLT, Nat.reduceLeDiff, Int.reduceToNat, Int.reduceLE, Int.reduceLT, Int.reduceEq, Int.reduceNeg, ← List.map_drop, ← List.map_take, UInt8.reduceToNat, true_implies, implies_true, List.append_eq, y_lex_Name] at hp3
              have hq3 := hp3
              try simp only [goT] at hq3
              refine w_condT (by simp -implicitDefEqProofs only [goR, ↓upd_at, if_true, if_false, reduceCtorEq, ↓reduceIte, Nat.reduceEqDiff, Nat.reduceAdd, Nat.reduceSub, Nat.reduceMul, Nat.reduceBEq, Nat.reduceLT, Nat.reduceLeDiff, Int.reduceToNat, Int.reduceLE, Int.reduceLT, Int.reduceEq, Int.reduceNeg, ← List.map_drop, ← List.map_take, UInt8.reduceToNat, true_implies, implies_true, List.append_eq, y_lex_Name, hp3]) ?_
              refine w_seq ?_
              refine w_region rfl (fun K hK => ?_)
              simp -implicitDefEqProofs only [goR, ↓upd_at, if_true, if_false, reduceCtorEq, ↓reduceIte, Nat.reduceEqDiff, Nat.reduceAdd, Nat.reduceSub, Nat.reduceMul, Nat.reduceBEq, Nat.reduceLT, Nat.reduceLeDiff, Int.reduceToNat, Int.reduceLE, Int.reduceLT, Int.reduceEq, Int.reduceNeg, ← List.map_drop, ← List.map_take, UInt8.reduceToNat, true_implies, implies_true, List.append_eq, y_lex_Name]
              (repeat' (first | ((with_reducible refine hK _ _ ?_); clear hK K) | (with_reducible apply And.intro) | (exact trivial) | (clear hK K; assumption) | (clear hK K; omega)))
              refine then_normal ?_
              refine w_ret ?_
              refine block_ret ?_
              refine then_ret ?_
              replace H := inrO_fin H hF1
              refine round_ret ?_
              refine block_ret ?_
              refine then_ret ?_
              obtain rfl := Option.some.inj H
              simp -implicitDefEqProofs only [goQ, Try.results33, goR, ↓upd_at, if_true, if_false, reduceCtorEq, ↓reduceIte, Nat.reduceEqDiff, Nat.reduceAdd, Nat.reduceSub, Nat.reduceMul, Nat.reduceBEq, Nat.reduceLT, Nat.reduceLeDiff, Int.reduceToNat, Int.reduceLE, Int.reduceLT, Int.reduceEq, Int.reduceNeg, ← List.map_drop, ← List.map_take, UInt8.reduceToNat, true_implies, implies_true, List.append_eq, y_lex_Name]
            · try simp -implicitDefEqProofs only [goR, ↓upd_at, if_true, if_false, reduceCtorEq, ↓reduceIte, Nat.reduceEqDiff, Nat.reduceAdd, Nat.reduceSub, Nat.reduceMul, Nat.reduceBEq, Nat.reduceLT, Nat.reduceLeDiff, Int.reduceToNat, Int.reduceLE, Int.reduceLT, Int.reduceEq, Int.reduceNeg, ← List.map_drop, ← List.map_take, UInt8.reduceToNat, true_implies, implies_true, List.append_eq, y_lex_Name] at hp3
              have hq3 := hp3
              try simp only [goT] at hq3
              refine w_condF (by simp -implicitDefEqProofs only [goR, ↓upd_at, if_true, if_false, reduceCtorEq, ↓reduceIte, Nat.reduceEqDiff, Nat.reduceAdd, Nat.reduceSub, Nat.reduceMul, Nat.reduceBEq, Nat.reduceLT, Nat.reduceLeDiff, Int.reduceToNat, Int.reduceLE, Int.reduceLT, Int.reduceEq, Int.reduceNeg, ← List.map_drop, ← List.map_take, UInt8.reduceToNat, true_implies, implies_true, List.append_eq, y_lex_Name, hp3]) ?_
              refine w_skip ?_
              refine block_normal ?_
              refine then_normal ?_
              refine w_region rfl (fun K hK => ?_)
              simp -implicitDefEqProofs only [goR, ↓upd_at, if_true, if_false, reduceCtorEq, ↓reduceIte, Nat.reduceEqDiff, Nat.reduceAdd, Nat.reduceSub, Nat.reduceMul, Nat.reduceBEq, Nat.reduceLT, Nat.reduceLeDiff, Int.reduceToNat, Int.reduceLE, Int.reduceLT, Int.reduceEq, Int.reduceNeg, ← List.map_drop, ← List.map_take, UInt8.reduceToNat, true_implies, implies_true, List.append_eq, y_lex_Name]
              (repeat' (first | ((with_reducible refine hK _ _ ?_); clear hK K) | (with_reducible apply And.intro) | (exact trivial) | (clear hK K; assumption) | (clear hK K; omega)))
              refine round_at (inl_fin H hF1) ?_
              exact wk_ren ⟨[], []⟩ rfl rfl rfl rfl rfl (by simp -implicitDefEqProofs only [goW, goR, ↓upd_at, if_true, if_false, reduceCtorEq, ↓reduceIte, Nat.reduceEqDiff, Nat.reduceAdd, Nat.reduceSub, Nat.reduceMul, Nat.reduceBEq, Nat.reduceLT, Nat.reduceLeDiff, Int.reduceToNat, Int.reduceLE, Int.reduceLT, Int.reduceEq, Int.reduceNeg, ← List.map_drop, ← List.map_take, UInt8.reduceToNat, true_implies, implies_true, List.append_eq, y_lex_Name]) (by simp -implicitDefEqProofs only [goW, goR, ↓upd_at, if_true, if_false, reduceCtorEq, ↓reduceIte, Nat.reduceEqDiff, Nat.reduceAdd, Nat.reduceSub, Nat.reduceMul, Nat.reduceBEq, Nat.reduceLT, Nat.reduceLeDiff, Int.reduceToNat, Int.reduceLE, Int.reduceLT, Int.reduceEq, Int.reduceNeg, ← List.map_drop, ← List.map_take, UInt8.reduceToNat, true_implies, implies_true, List.append_eq, y_lex_Name]) (by simp -implicitDefEqProofs only [goW, goR, ↓upd_at, if_true, if_false, reduceCtorEq, ↓reduceIte, Nat.reduceEqDiff, Nat.reduceAdd, Nat.reduceSub, Nat.reduceMul, Nat.reduceBEq, Nat.reduceLT, Nat.reduceLeDiff, Int.reduceToNat, Int.reduceLE, Int.reduceLT, Int.reduceEq, Int.reduceNeg, ← List.map_drop, ← List.map_take, UInt8.reduceToNat, true_implies, implies_true, List.append_eq, y_lex_Name]) rfl
        · try simp -implicitDefEqProofs only [goR, ↓upd_at, if_true, if_false, reduceCtorEq, ↓reduceIte, Nat.reduceEqDiff, Nat.reduceAdd, Nat.reduceSub, Nat.reduceMul, Nat.reduceBEq, Nat.reduceLT, Nat.reduceLeDiff, Int.reduceToNat, Int.reduceLE, Int.reduceLT, Int.reduceEq, Int.reduceNeg, ← List.map_drop, ← List.map_take, UInt8.reduceToNat, true_implies, implies_true, List.append_eq, y_lex_Name] at hp2
          have hq2 := hp2
          try simp only [goT] at hq2
          refine w_condF (by simp -implicitDefEqProofs only [goR, ↓upd_at, if_true, if_false, reduceCtorEq, ↓reduceIte, Nat.reduceEqDiff, Nat.reduceAdd, Nat.reduceSub, Nat.reduceMul, Nat.reduceBEq, Nat.reduceLT, Nat.reduceLeDiff, Int.reduceToNat, Int.reduceLE, Int.reduceLT, Int.reduceEq, Int.reduceNeg, ← List.map_drop, ← List.map_take, UInt8.reduceToNat, true_implies, implies_true, List.append_eq, y_lex_Name, hp2]) ?_
          refine w_exit ?_
          refine then_exit ?_
          replace H := inrO_fin H hF1
          refine round_exit ?_
          refine block_exit ?_
          refine then_normal ?_
          refine w_seq ?_
          refine w_region rfl (fun K hK => ?_)
          simp -implicitDefEqProofs only [goR, ↓upd_at, if_true, if_false, reduceCtorEq, ↓reduceIte, Nat.reduceEqDiff, Nat.reduceAdd, Nat.reduceSub, Nat.reduceMul, Nat.reduceBEq, Nat.reduceLT, Nat.reduceLeDiff, Int.reduceToNat, Int.reduceLE, Int.reduceLT, Int.reduceEq, Int.reduceNeg, ← List.map_drop, ← List.map_take, UInt8.reduceToNat, true_implies, implies_true, List.append_eq, y_lex_Name]
          (repeat' (first | ((with_reducible refine hK _ _ ?_); clear hK K) | (with_reducible apply And.intro) | (exact trivial) | (clear hK K; assumption) | (clear hK K; omega)))
          refine then_normal ?_
          refine w_ret ?_
          obtain rfl := Option.some.inj H
          simp -implicitDefEqProofs only [goQ, Try.results33, goR, ↓upd_at, if_true, if_false, reduceCtorEq, ↓reduceIte, Nat.reduceEqDiff, Nat.reduceAdd, Nat.reduceSub, Nat.reduceMul, Nat.reduceBEq, Nat.reduceLT, Nat.reduceLeDiff, Int.reduceToNat, Int.reduceLE, Int.reduceLT, Int.reduceEq, Int.reduceNeg, ← List.map_drop, ← List.map_take, UInt8.reduceToNat, true_implies, implies_true, List.append_eq, y_lex_Name]
theorem lex_Name_c (a0 : List UInt8) (r : Bool) (H : lex_Name a0 = some r) : pf_lex_Name.pre [dS a0] = True ∧ pf_lex_Name.val [dS a0] = dB r :=
  ⟨PF.of_pre (enc := c_lex_Name) (f := fun a => lex_Name a) (e := e_lex_Name) (a := a0) H, PF.of_val (enc := c_lex_Name) (f := fun a => lex_Name a) (e := e_lex_Name) (a := a0) c_lex_Name_inj H⟩
noncomputable def preref1_Name_j2 (x1 : Int) (x2 : Int) : Bool → Option ((Int × Int) ⊕ Bool)
  | x3 => if x3 = true then inrO (some false) else some (.inl (x1, IntKind.i64.wrap (x2 + 1)))
noncomputable def preref1_Name_b1 (a0 : List UInt8) : (Int × Int) → Option ((Int × Int) ⊕ Bool)
  | (x1, x2) => if (ltI x2 x1) = true then if (0 : Int) ≤ x2 ∧ x2.toNat < a0.length then (preref1_Letter (a0.getD x2.toNat 0)).bind fun r1 => if (!r1) = true then if (eqI x2 0) = true then preref1_Name_j2 x1 x2 true else if (0 : Int) ≤ x2 ∧ x2.toNat < a0.length then (preref1_Digit (a0.getD x2.toNat 0)).bind fun r2 => preref1_Name_j2 x1 x2 (!r2) else none else preref1_Name_j2 x1 x2 false else none else inrO (some (ltI 0 (a0.length : Int)))
noncomputable def preref1_Name (a0 : List UInt8) : Option Bool :=
  loopO (preref1_Name_b1 a0) ((a0.length : Int), 0)
def e_preref1_Name : Bool → D := fun r => dB r
def c_preref1_Name : (List UInt8) → List D := fun a => [dS a]
theorem c_preref1_Name_inj : Inj c_preref1_Name := by intro a b h; simp only [c_preref1_Name, List.map_cons, List.map_nil, List.cons.injEq, and_true] at h; exact (dS_inj _ _) h
noncomputable def pf_preref1_Name : PF := PF.of c_preref1_Name (fun a => preref1_Name a) e_preref1_Name
noncomputable def t_preref1_Name : Tab := tabOf Try.prog [(43, pf_preref1_Letter), (45, pf_preref1_Digit)] []
theorem t_preref1_Name_ok : TabOk t_preref1_Name := tabOf_ok (by exact ⟨⟨call_43, preref1_Letter_ok⟩, ⟨call_45, preref1_Digit_ok⟩, trivial⟩) (by exact trivial)
theorem y_preref1_Name : (((type_of% @Try.underlying9) ∧ (type_of% @t_preref1_Name.eq_1)) ∧ ((type_of% @c_preref1_Name.eq_1) ∧ (type_of% @e_preref1_Name.eq_1))) := ⟨⟨@Try.underlying9, @t_preref1_Name.eq_1⟩, ⟨@c_preref1_Name.eq_1, @e_preref1_Name.eq_1⟩⟩
set_option maxRecDepth 100000 in
set_option maxHeartbeats 4000000 in
theorem preref1_Name_ok : PureOk Try.prog 34 pf_preref1_Name := by
  refine pure_of (t := t_preref1_Name) (pure := fun n => [43, 45].contains n) c_preref1_Name_inj rfl t_preref1_Name_ok mixed (fun n hn => tabOf_pure rfl n hn) Try.func34 rfl (by kernel_rfl) (fun a => by simp [c_preref1_Name, Try.ntmps34]) ?_
  rintro a0 out H
  simp only [preref1_Name] at H
  show aC _ _ (sig0 (List.map (fun d => AV.c (C.d d)) (c_preref1_Name a0))) _ _
  refine w_seq ?_
  refine w_region rfl (fun K hK => ?_)
  simp -implicitDefEqProofs only [goR, ↓upd_at, if_true, if_false, reduceCtorEq, ↓reduceIte, Nat.reduceEqDiff, Nat.reduceAdd, Nat.reduceSub, Nat.reduceMul, Nat.reduceBEq, Nat.reduceLT, Nat.reduceLeDiff, Int.reduceToNat, Int.reduceLE, Int.reduceLT, Int.reduceEq, Int.reduceNeg, ← List.map_drop, ← List.map_take, UInt8.reduceToNat, true_implies, implies_true, List.append_eq, y_preref1_Name]
  (repeat' (first | ((with_reducible refine hK _ _ ?_); clear hK K) | (with_reducible apply And.intro) | (exact trivial) | (clear hK K; assumption) | (clear hK K; omega)))
  refine then_normal ?_
  refine w_seq ?_
  refine w_seq ?_
  refine w_region rfl (fun K hK => ?_)
  simp -implicitDefEqProofs only [goR, ↓upd_at, if_true, if_false, reduceCtorEq, ↓reduceIte, Nat.reduceEqDiff, Nat.reduceAdd, Nat.reduceSub, Nat.reduceMul, Nat.reduceBEq, Nat.reduceLT, Nat.reduceLeDiff, Int.reduceToNat, Int.reduceLE, Int.reduceLT, Int.reduceEq, Int.reduceNeg, ← List.map_drop, ← List.map_take, UInt8.reduceToNat, true_implies, implies_true, List.append_eq, y_preref1_Name]
  (repeat' (first | ((with_reducible refine hK _ _ ?_); clear hK K) | (with_reducible apply And.intro) | (exact trivial) | (clear hK K; assumption) | (clear hK K; omega)))
  refine then_normal ?_
  refine w_block ?_
  refine w_loop (preref1_Name_b1 a0) (fun s => [(0, .c (.d (.v (str a0)))), (5, .c (.d (.v (.int .i64 s.1)))), (6, .c (.d (.v (.int .i64 s.2))))]) (fun s => []) [] H ?_ ?_
  · exact wk_ren ⟨[], []⟩ rfl rfl rfl rfl rfl (by simp -implicitDefEqProofs only [goW, goR, ↓upd_at, if_true, if_false, reduceCtorEq, ↓reduceIte, Nat.reduceEqDiff, Nat.reduceAdd, Nat.reduceSub, Nat.reduceMul, Nat.reduceBEq, Nat.reduceLT, Nat.reduceLeDiff, Int.reduceToNat, Int.reduceLE, Int.reduceLT, Int.reduceEq, Int.reduceNeg, ← List.map_drop, ← List.map_take, UInt8.reduceToNat, true_implies, implies_true, List.append_eq, y_preref1_Name]) (by simp -implicitDefEqProofs only [goW, goR, ↓upd_at, if_true, if_false, reduceCtorEq, ↓reduceIte, Nat.reduceEqDiff, Nat.reduceAdd, Nat.reduceSub, Nat.reduceMul, Nat.reduceBEq, Nat.reduceLT, Nat.reduceLeDiff, Int.reduceToNat, Int.reduceLE, Int.reduceLT, Int.reduceEq, Int.reduceNeg, ← List.map_drop, ← List.map_take, UInt8.reduceToNat, true_implies, implies_true, List.append_eq, y_preref1_Name]) (by simp -implicitDefEqProofs only [goW, goR, ↓upd_at, if_true, if_false, reduceCtorEq, ↓reduceIte, Nat.reduceEqDiff, Nat.reduceAdd, Nat.reduceSub, Nat.reduceMul, Nat.reduceBEq, Nat.reduceLT, Nat.reduceLeDiff, Int.reduceToNat, Int.reduceLE, Int.reduceLT, Int.reduceEq, Int.reduceNeg, ← List.map_drop, ← List.map_take, UInt8.reduceToNat, true_implies, implies_true, List.append_eq, y_preref1_Name]) rfl
  · rintro n1 ⟨x1, x2⟩ o1 H hF1
    rw [preref1_Name_b1] at H
    refine w_seq ?_
    refine w_region rfl (fun K hK => ?_)
    simp -implicitDefEqProofs only [goR, ↓upd_at, if_true, if_false, reduceCtorEq, ↓reduceIte, Nat.reduceEqDiff, Nat.reduceAdd, Nat.reduceSub, Nat.reduceMul, Nat.reduceBEq, Nat.reduceLT, Nat.reduceLeDiff, Int.reduceToNat, Int.reduceLE, Int.reduceLT, Int.reduceEq, Int.reduceNeg, ← List.map_drop, ← List.map_take, UInt8.reduceToNat, true_implies, implies_true, List.append_eq, y_preref1_Name]
    (repeat' (first | ((with_reducible refine hK _ _ ?_); clear hK K) | (with_reducible apply And.intro) | (exact trivial) | (clear hK K; assumption) | (clear hK K; omega)))
    refine then_normal ?_
    refine w_seq ?_
    rcases bsplit H with ⟨hp1, H⟩ | ⟨hp1, H⟩
    · try simp -implicitDefEqProofs only [goR, ↓upd_at, if_true, if_false, reduceCtorEq, ↓reduceIte, Nat.reduceEqDiff, Nat.reduceAdd, Nat.reduceSub, Nat.reduceMul, Nat.reduceBEq, Nat.reduceLT, Nat.reduceLeDiff, Int.reduceToNat, Int.reduceLE, Int.reduceLT, Int.reduceEq, Int.reduceNeg, ← List.map_drop, ← List.map_take, UInt8.reduceToNat, true_implies, implies_true, List.append_eq, y_preref1_Name] at hp1
      have hq1 := hp1
      try simp only [goT] at hq1
      refine w_condT (by simp -implicitDefEqProofs only [goR, ↓upd_at, if_true, if_false, reduceCtorEq, ↓reduceIte, Nat.reduceEqDiff, Nat.reduceAdd, Nat.reduceSub, Nat.reduceMul, Nat.reduceBEq, Nat.reduceLT, Nat.reduceLeDiff, Int.reduceToNat, Int.reduceLE, Int.reduceLT, Int.reduceEq, Int.reduceNeg, ← List.map_drop, ← List.map_take, UInt8.reduceToNat, true_implies, implies_true, List.append_eq, y_preref1_Name, hp1]) ?_
      refine w_skip ?_
      refine then_normal ?_
      refine w_seq ?_
      refine w_block ?_
      refine w_seq ?_
      refine w_region rfl (fun K hK => ?_)
      simp -implicitDefEqProofs only [goR, ↓upd_at, if_true, if_false, reduceCtorEq, ↓reduceIte, Nat.reduceEqDiff, Nat.reduceAdd, Nat.reduceSub, Nat.reduceMul, Nat.reduceBEq, Nat.reduceLT, Nat.reduceLeDiff, Int.reduceToNat, Int.reduceLE, Int.reduceLT, Int.reduceEq, Int.reduceNeg, ← List.map_drop, ← List.map_take, UInt8.reduceToNat, true_implies, implies_true, List.append_eq, y_preref1_Name]
      (repeat' (first | ((with_reducible refine hK _ _ ?_); clear hK K) | (with_reducible apply And.intro) | (exact trivial) | (clear hK K; assumption) | (clear hK K; omega)))
      refine then_normal ?_
      refine w_cut (preref1_Name_j2 x1 x2) (fun s => [(0, .c (.d (.v (str a0)))), (5, .c (.d (.v (.int .i64 x1)))), (6, .c (.d (.v (.int .i64 x2)))), (24, .c (.d (.v (.bool s))))]) (fun s => []) [] o1 ?_ ?_
      · obtain ⟨hg1, H⟩ := gsplit H
        obtain ⟨r1, hr1, H⟩ := osplit H
        have hc1 := preref1_Letter_c (a0.getD x2.toNat 0) r1 hr1
        simp -implicitDefEqProofs only [goR, ↓upd_at, if_true, if_false, reduceCtorEq, ↓reduceIte, Nat.reduceEqDiff, Nat.reduceAdd, Nat.reduceSub, Nat.reduceMul, Nat.reduceBEq, Nat.reduceLT, Nat.reduceLeDiff, Int.reduceToNat, Int.reduceLE, Int.reduceLT, Int.reduceEq, Int.reduceNeg, ← List.map_drop, ← List.map_take, UInt8.reduceToNat, true_implies, implies_true, List.append_eq, y_preref1_Name] at hc1
        rcases bsplit H with ⟨hp3, H⟩ | ⟨hp3, H⟩
        · try simp -implicitDefEqProofs only [goR, ↓upd_at, if_true, if_false, reduceCtorEq, ↓reduceIte, Nat.reduceEqDiff, Nat.reduceAdd, Nat.reduceSub, Nat.reduceMul, Nat.reduceBEq, Nat.reduceLT, Nat.reduceLeDiff, Int.reduceToNat, Int.reduceLE, Int.reduceLT, Int.reduceEq, Int.reduceNeg, ← List.map_drop, ← List.map_take, UInt8.reduceToNat, true_implies, implies_true, List.append_eq, y_preref1_Name] at hp3
          have hq3 := hp3
          try simp only [goT] at hq3
          rcases bsplit H with ⟨hp4, H⟩ | ⟨hp4, H⟩
          · try simp -implicitDefEqProofs only [goR, ↓upd_at, if_true, if_false, reduceCtorEq, ↓reduceIte, Nat.reduceEqDiff, Nat.reduceAdd, Nat.reduceSub, Nat.reduceMul, Nat.reduceBEq, Nat.reduceLT, Nat.reduceLeDiff, Int.reduceToNat, Int.reduceLE, Int.reduceLT, Int.reduceEq, Int.reduceNeg, ← List.map_drop, ← List.map_take, UInt8.reduceToNat, true_implies, implies_true, List.append_eq, y_preref1_Name] at hp4
            have hq4 := hp4
            try simp only [goT] at hq4
            refine w_region rfl (fun K hK => ?_)
            simp -implicitDefEqProofs only [goR, ↓upd_at, if_true, if_false, reduceCtorEq, ↓reduceIte, Nat.reduceEqDiff, Nat.reduceAdd, Nat.reduceSub, Nat.reduceMul, Nat.reduceBEq, Nat.reduceLT, Nat.reduceLeDiff, Int.reduceToNat, Int.reduceLE, Int.reduceLT, Int.reduceEq, Int.reduceNeg, ← List.map_drop, ← List.map_take, UInt8.reduceToNat, true_implies, implies_true, List.append_eq, y_preref1_Name, hc1.1, hc1.2, hp3, hp4]
            (repeat' (first | ((with_reducible refine hK _ _ ?_); clear hK K) | (with_reducible apply And.intro) | (exact trivial) | (clear hK K; assumption) | (clear hK K; omega)))
            refine cut_at H ?_
            exact wk_ren ⟨[], []⟩ rfl rfl rfl rfl rfl (by simp -implicitDefEqProofs only [goW, goR, ↓upd_at, if_true, if_false, reduceCtorEq, ↓reduceIte, Nat.reduceEqDiff, Nat.reduceAdd, Nat.reduceSub, Nat.reduceMul, Nat.reduceBEq, Nat.reduceLT, Nat.reduceLeDiff, Int.reduceToNat, Int.reduceLE, Int.reduceLT, Int.reduceEq, Int.reduceNeg, ← List.map_drop, ← List.map_take, UInt8.reduceToNat, true_implies, implies_true, List.append_eq, y_preref1_Name]) (by simp -implicitDefEqProofs only [goW, goR, ↓upd_at, if_true, if_false, reduceCtorEq, ↓reduceIte, Nat.reduceEqDiff, Nat.reduceAdd, Nat.reduceSub, Nat.reduceMul, Nat.reduceBEq, Nat.reduceLT, Nat.reduceLeDiff, Int.reduceToNat, Int.reduceLE, Int.reduceLT, Int.reduceEq, Int.reduceNeg, ← List.map_drop, ← List.map_take, UInt8.reduceToNat, true_implies, implies_true, List.append_eq, y_preref1_Name]) (by simp -implicitDefEqProofs only [goW, goR, ↓upd_at, if_true, if_false, reduceCtorEq, ↓reduceIte, Nat.reduceEqDiff, Nat.reduceAdd, Nat.reduceSub, Nat.reduceMul, Nat.reduceBEq, Nat.reduceLT, Nat.reduceLeDiff, Int.reduceToNat, Int.reduceLE, Int.reduceLT, Int.reduceEq, Int.reduceNeg, ← List.map_drop, ← List.map_take, UInt8.reduceToNat, true_implies, implies_true, List.append_eq, y_preref1_Name]) rfl
          · try simp -implicitDefEqProofs only [goR, ↓upd_at, if_true, if_false, reduceCtorEq, ↓reduceIte, Nat.reduceEqDiff, Nat.reduceAdd, Nat.reduceSub, Nat.reduceMul, Nat.reduceBEq, Nat.reduceLT, Nat.reduceLeDiff, Int.reduceToNat, Int.reduceLE, Int.reduceLT, Int.reduceEq, Int.reduceNeg, ← List.map_drop, ← List.map_take, UInt8.reduceToNat, true_implies, implies_true, List.append_eq, y_preref1_Name] at hp4
            have hq4 := hp4
            try simp only [goT] at hq4
            obtain ⟨hg2, H⟩ := gsplit H
            obtain ⟨r2, hr2, H⟩ := osplit H
            have hc2 := preref1_Digit_c (a0.getD x2.toNat 0) r2 hr2
            simp -implicitDefEqProofs only [goR, ↓upd_at, if_true, if_false, reduceCtorEq, ↓reduceIte, Nat.reduceEqDiff, Nat.reduceAdd, Nat.reduceSub, Nat.reduceMul, Nat.reduceBEq, Nat.reduceLT, Nat.reduceLeDiff, Int.reduceToNat, Int.reduceLE, Int.reduceLT, Int.reduceEq, Int.reduceNeg, ← List.map_drop, ← List.map_take, UInt8.reduceToNat, true_implies, implies_true, List.append_eq, y_preref1_Name] at hc2
            refine w_region rfl (fun K hK => ?_)
            simp -implicitDefEqProofs only [goR, ↓upd_at, if_true, if_false, reduceCtorEq, ↓reduceIte, Nat.reduceEqDiff, Nat.reduceAdd, Nat.reduceSub, Nat.reduceMul, Nat.reduceBEq, Nat.reduceLT, Nat.reduceLeDiff, Int.reduceToNat, Int.reduceLE, Int.reduceLT, Int.reduceEq, Int.reduceNeg, ← List.map_drop, ← List.map_take, UInt8.reduceToNat, true_implies, implies_true, List.append_eq, y_preref1_Name, hc1.1, hc1.2, hp3, hp4, hc2.1, hc2.2]
            (repeat' (first | ((with_reducible refine hK _ _ ?_); clear hK K) | (with_reducible apply And.intro) | (exact trivial) | (clear hK K; assumption) | (clear hK K; omega)))
            refine cut_at H ?_
            exact wk_ren ⟨[], []⟩ rfl rfl rfl rfl rfl (by simp -implicitDefEqProofs only [goW, goR, ↓upd_at, if_true, if_false, reduceCtorEq, ↓reduceIte, Nat.reduceEqDiff, Nat.reduceAdd, Nat.reduceSub, Nat.reduceMul, Nat.reduceBEq, Nat.reduceLT, Nat.reduceLeDiff, Int.reduceToNat, Int.reduceLE, Int.reduceLT, Int.reduceEq, Int.reduceNeg, ← List.map_drop, ← List.map_take, UInt8.reduceToNat, true_implies, implies_true, List.append_eq, y_preref1_Name]) (by simp -implicitDefEqProofs only [goW, goR, ↓upd_at, if_true, if_false, reduceCtorEq, ↓reduceIte, Nat.reduceEqDiff, Nat.reduceAdd, Nat.reduceSub, Nat.reduceMul, Nat.reduceBEq, Nat.reduceLT, Nat.reduceLeDiff, Int.reduceToNat, Int.reduceLE, Int.reduceLT, Int.reduceEq, Int.reduceNeg, ← List.map_drop, ← List.map_take, UInt8.reduceToNat, true_implies, implies_true, List.append_eq, y_preref1_Name]) (by simp -implicitDefEqProofs only [goW, goR, ↓upd_at, if_true, if_false, reduceCtorEq, ↓reduceIte, Nat.reduceEqDiff, Nat.reduceAdd, Nat.reduceSub, Nat.reduceMul, Nat.reduceBEq, Nat.reduceLT, Nat.reduceLeDiff, Int.reduceToNat, Int.reduceLE, Int.reduceLT, Int.reduceEq, Int.reduceNeg, ← List.map_drop, ← List.map_take, UInt8.reduceToNat, true_implies, implies_true, List.append_eq, y_preref1_Name]) rfl
        · try simp -implicitDefEqProofs only [goR, ↓upd_at, if_true, if_false, reduceCtorEq, ↓reduceIte, Nat.reduceEqDiff, Nat.reduceAdd, Nat.reduceSub, Nat.reduceMul, Nat.reduceBEq, Nat.reduceLT, Nat.reduceLeDiff, Int.reduceToNat, Int.reduceLE, Int.reduceLT, Int.reduceEq, Int.reduceNeg, ← List.map_drop, ← List.map_take, UInt8.reduceToNat, true_implies, implies_true, List.append_eq, y_preref1_Name] at hp3
          have hq3 := hp3
          try simp only [goT] at hq3
          refine w_region rfl (fun K hK => ?_)
          simp -implicitDefEqProofs only [goR, ↓upd_at, if_true, if_false, reduceCtorEq, ↓reduceIte, Nat.reduceEqDiff, Nat.reduceAdd, Nat.reduceSub, Nat.reduceMul, Nat.reduceBEq, Nat.reduceLT, Nat.reduceLeDiff, Int.reduceToNat, Int.reduceLE, Int.reduceLT, Int.reduceEq, Int.reduceNeg, ← List.map_drop, ← List.map_take, UInt8.reduceToNat, true_implies, implies_true, List.append_eq, y_preref1_Name, hc1.1, hc1.2, hp3]
          (repeat' (first | ((with_reducible refine hK _ _ ?_); clear hK K) | (with_reducible apply And.intro) | (exact trivial) | (clear hK K; assumption) | (clear hK K; omega)))
          refine cut_at H ?_
          exact wk_ren ⟨[], []⟩ rfl rfl rfl rfl rfl (by simp -implicitDefEqProofs only [goW, goR, ↓upd_at, if_true, if_false, reduceCtorEq, ↓reduceIte, Nat.reduceEqDiff, Nat.reduceAdd, Nat.reduceSub, Nat.reduceMul, Nat.reduceBEq, Nat.reduceLT, Nat.reduceLeDiff, Int.reduceToNat, Int.reduceLE, Int.reduceLT, Int.reduceEq, Int.reduceNeg, ← List.map_drop, ← List.map_take, UInt8.reduceToNat, true_implies, implies_true, List.append_eq, y_preref1_Name]) (by simp -implicitDefEqProofs only [goW, goR, ↓upd_at, if_true, if_false, reduceCtorEq, ↓reduceIte, Nat.reduceEqDiff, Nat.reduceAdd, Nat.reduceSub, Nat.reduceMul, Nat.reduceBEq, Nat.reduceLT, Nat.reduceLeDiff, Int.reduceToNat, Int.reduceLE, Int.reduceLT, Int.reduceEq, Int.reduceNeg, ← List.map_drop, ← List.map_take, UInt8.reduceToNat, true_implies, implies_true, List.append_eq, y_preref1_Name]) (by simp -implicitDefEqProofs only [goW, goR, ↓upd_at, if_true, if_false, reduceCtorEq, ↓reduceIte, Nat.reduceEqDiff, Nat.reduceAdd, Nat.reduceSub, Nat.reduceMul, Nat.reduceBEq, Nat.reduceLT, Nat.reduceLeDiff, Int.reduceToNat, Int.reduceLE, Int.reduceLT, Int.reduceEq, Int.reduceNeg, ← List.map_drop, ← List.map_take, UInt8.reduceToNat, true_implies, implies_true, List.append_eq, y_preref1_Name]) rfl
      · rintro x3 H
        rw [preref1_Name_j2] at H
        rcases bsplit H with ⟨hp2, H⟩ | ⟨hp2, H⟩
        · try simp -implicitDefEqProofs only [goR, ↓upd_at, if_true, if_false, reduceCtorEq, ↓reduceIte, Nat.reduceEqDiff, Nat.reduceAdd, Nat.reduceSub, Nat.reduceMul, Nat.reduceBEq, Nat.reduceLT, Nat.reduceLeDiff, Int.reduceToNat, Int.reduceLE, Int.reduceLT, Int.reduceEq, Int.reduceNeg, ← List.map_drop, ← List.map_take, UInt8.reduceToNat, true_implies, implies_true, List.append_eq, y_preref1_Name] at hp2
          have hq2 := hp2
          try simp only [goT] at hq2
          refine w_condT (by simp -implicitDefEqProofs only [goR, ↓upd_at, if_true, if_false, reduceCtorEq, ↓reduceIte, Nat.reduceEqDiff, Nat.reduceAdd, Nat.reduceSub, Nat.reduceMul, Nat.reduceBEq, Nat.reduceLT, Nat.reduceLeDiff, Int.reduceToNat, Int.reduceLE, Int.reduceLT, Int.reduceEq, Int.reduceNeg, ← List.map_drop, ← List.map_take, UInt8.reduceToNat, true_implies, implies_true, List.append_eq, y_preref1_Name, hp2]) ?_
          refine w_seq ?_
          refine w_region rfl (fun K hK => ?_)
          simp -implicitDefEqProofs only [goR, ↓upd_at, if_true, if_false, reduceCtorEq, ↓reduceIte, Nat.reduceEqDiff, Nat.reduceAdd, Nat.reduceSub, Nat.reduceMul, Nat.reduceBEq, Nat.reduceLT, Nat.reduceLeDiff, Int.reduceToNat, Int.reduceLE, Int.reduceLT, Int.reduceEq, Int.reduceNeg, ← List.map_drop, ← List.map_take, UInt8.reduceToNat, true_implies, implies_true, List.append_eq, y_preref1_Name]
          (repeat' (first | ((with_reducible refine hK _ _ ?_); clear hK K) | (with_reducible apply And.intro) | (exact trivial) | (clear hK K; assumption) | (clear hK K; omega)))
          refine then_normal ?_
          refine w_ret ?_
          refine block_ret ?_
          refine then_ret ?_
          replace H := inrO_fin H hF1
          refine round_ret ?_
          refine block_ret ?_
          refine then_ret ?_
          obtain rfl := Option.some.inj H
          simp -implicitDefEqProofs only [goQ, Try.results34, goR, ↓upd_at, if_true, if_false, reduceCtorEq, ↓reduceIte, Nat.reduceEqDiff, Nat.reduceAdd, Nat.reduceSub, Nat.reduceMul, Nat.reduceBEq, Nat.reduceLT, Nat.reduceLeDiff, Int.reduceToNat, Int.reduceLE, Int.reduceLT, Int.reduceEq, Int.reduceNeg, ← List.map_drop, ← List.map_take, UInt8.reduceToNat, true_implies, implies_true, List.append_eq, y_preref1_Name]
        · try simp -implicitDefEqProofs only [goR, ↓upd_at, if_true, if_false, reduceCtorEq, ↓reduceIte, Nat.reduceEqDiff, Nat.reduceAdd, Nat.reduceSub, Nat.reduceMul, Nat.reduceBEq, Nat.reduceLT, Nat.reduceLeDiff, Int.reduceToNat, Int.reduceLE, Int.reduceLT, Int.reduceEq, Int.reduceNeg, ← List.map_drop, ← List.map_take, UInt8.reduceToNat, true_implies, implies_true, List.append_eq, y_preref1_Name] at hp2
          have hq2 := hp2
          try simp only [goT] at hq2
          refine w_condF (by simp -implicitDefEqProofs only [goR, ↓upd_at, if_true, if_false, reduceCtorEq, ↓reduceIte, Nat.reduceEqDiff, Nat.reduceAdd, Nat.reduceSub, Nat.reduceMul, Nat.reduceBEq, Nat.reduceLT, Nat.reduceLeDiff, Int.reduceToNat, Int.reduceLE, Int.reduceLT, Int.reduceEq, Int.reduceNeg, ← List.map_drop, ← List.map_take, UInt8.reduceToNat, true_implies, implies_true, List.append_eq, y_preref1_Name, hp2]) ?_
          refine w_skip ?_
          refine block_normal ?_
          refine then_normal ?_
          refine w_region rfl (fun K hK => ?_)
          simp -implicitDefEqProofs only [goR, ↓upd_at, if_true, if_false, reduceCtorEq, ↓reduceIte, Nat.reduceEqDiff, Nat.reduceAdd, Nat.reduceSub, Nat.reduceMul, Nat.reduceBEq, Nat.reduceLT, Nat.reduceLeDiff, Int.reduceToNat, Int.reduceLE, Int.reduceLT, Int.reduceEq, Int.reduceNeg, ← List.map_drop, ← List.map_take, UInt8.reduceToNat, true_implies, implies_true, List.append_eq, y_preref1_Name]
          (repeat' (first | ((with_reducible refine hK _ _ ?_); clear hK K) | (with_reducible apply And.intro) | (exact trivial) | (clear hK K; assumption) | (clear hK K; omega)))
          refine round_at (inl_fin H hF1) ?_
          exact wk_ren ⟨[], []⟩ rfl rfl rfl rfl rfl (by simp -implicitDefEqProofs only [goW, goR, ↓upd_at, if_true, if_false, reduceCtorEq, ↓reduceIte, Nat.reduceEqDiff, Nat.reduceAdd, Nat.reduceSub, Nat.reduceMul, Nat.reduceBEq, Nat.reduceLT, Nat.reduceLeDiff, Int.reduceToNat, Int.reduceLE, Int.reduceLT, Int.reduceEq, Int.reduceNeg, ← List.map_drop, ← List.map_take, UInt8.reduceToNat, true_implies, implies_true, List.append_eq, y_preref1_Name]) (by simp -implicitDefEqProofs only [goW, goR, ↓upd_at, if_true, if_false, reduceCtorEq, ↓reduceIte, Nat.reduceEqDiff, Nat.reduceAdd, Nat.reduceSub, Nat.reduceMul, Nat.reduceBEq, Nat.reduceLT, Nat.reduceLeDiff, Int.reduceToNat, Int.reduceLE, Int.reduceLT, Int.reduceEq, Int.reduceNeg, ← List.map_drop, ← List.map_take, UInt8.reduceToNat, true_implies, implies_true, List.append_eq, y_preref1_Name]) (by simp -implicitDefEqProofs only [goW, goR, ↓upd_at, if_true, if_false, reduceCtorEq, ↓reduceIte, Nat.reduceEqDiff, Nat.reduceAdd, Nat.reduceSub, Nat.reduceMul, Nat.reduceBEq, Nat.reduceLT, Nat.reduceLeDiff, Int.reduceToNat, Int.reduceLE, Int.reduceLT, Int.reduceEq, Int.reduceNeg, ← List.map_drop, ← List.map_take, UInt8.reduceToNat, true_implies, implies_true, List.append_eq, y_preref1_Name]) rfl
    · try simp -implicitDefEqProofs only [goR, ↓upd_at, if_true, if_false, reduceCtorEq, ↓reduceIte, Nat.reduceEqDiff, Nat.reduceAdd, Nat.reduceSub, Nat.reduceMul, Nat.reduceBEq, Nat.reduceLT, Nat.reduceLeDiff, Int.reduceToNat, Int.reduceLE, Int.reduceLT, Int.reduceEq, Int.reduceNeg, ← List.map_drop, ← List.map_take, UInt8.reduceToNat, true_implies, implies_true, List.append_eq, y_preref1_Name] at hp1
      have hq1 := hp1
      try simp only [goT] at hq1
      refine w_condF (by simp -implicitDefEqProofs only [goR, ↓upd_at, if_true, if_false, reduceCtorEq, ↓reduceIte, Nat.reduceEqDiff, Nat.reduceAdd, Nat.reduceSub, Nat.reduceMul, Nat.reduceBEq, Nat.reduceLT, Nat.reduceLeDiff, Int.reduceToNat, Int.reduceLE, Int.reduceLT, Int.reduceEq, Int.reduceNeg, ← List.map_drop, ← List.map_take, UInt8.reduceToNat, true_implies, implies_true, List.append_eq, y_preref1_Name, hp1]) ?_
      refine w_exit ?_
      refine then_exit ?_
      replace H := inrO_fin H hF1
      refine round_exit ?_
      refine block_exit ?_
      refine then_normal ?_
      refine w_seq ?_
      refine w_region rfl (fun K hK => ?_)
      simp -implicitDefEqProofs only [goR, ↓upd_at, if_true, if_false, reduceCtorEq, ↓reduceIte, Nat.reduceEqDiff, Nat.reduceAdd, Nat.reduceSub, Nat.reduceMul, Nat.reduceBEq, Nat.reduceLT, Nat.reduceLeDiff, Int.reduceToNat, Int.reduceLE, Int.reduceLT, Int.reduceEq, Int.reduceNeg, ← List.map_drop, ← List.map_take, UInt8.reduceToNat, true_implies, implies_true, List.append_eq, y_preref1_Name]
      (repeat' (first | ((with_reducible refine hK _ _ ?_); clear hK K) | (with_reducible apply And.intro) | (exact trivial) | (clear hK K; assumption) | (clear hK K; omega)))
      refine then_normal ?_
      refine w_ret ?_
      obtain rfl := Option.some.inj H
      simp -implicitDefEqProofs only [goQ, Try.results34, goR, ↓upd_at, if_true, if_false, reduceCtorEq, ↓reduceIte, Nat.reduceEqDiff, Nat.reduceAdd, Nat.reduceSub, Nat.reduceMul, Nat.reduceBEq, Nat.reduceLT, Nat.reduceLeDiff, Int.reduceToNat, Int.reduceLE, Int.reduceLT, Int.reduceEq, Int.reduceNeg, ← List.map_drop, ← List.map_take, UInt8.reduceToNat, true_implies, implies_true, List.append_eq, y_preref1_Name]
theorem preref1_Name_c (a0 : List UInt8) (r : Bool) (H : preref1_Name a0 = some r) : pf_preref1_Name.pre [dS a0] = True ∧ pf_preref1_Name.val [dS a0] = dB r :=
  ⟨PF.of_pre (enc := c_preref1_Name) (f := fun a => preref1_Name a) (e := e_preref1_Name) (a := a0) H, PF.of_val (enc := c_preref1_Name) (f := fun a => preref1_Name a) (e := e_preref1_Name) (a := a0) c_preref1_Name_inj H⟩
noncomputable def lex_Signs  : Option (List (List UInt8)) :=
  some [[46, 46, 46], [60, 60, 61], [62, 62, 61], [45, 62], [43, 43], [45, 45], [60, 60], [62, 62], [60, 61], [62, 61], [61, 61], [33, 61], [38, 38], [124, 124], [43, 61], [45, 61], [42, 61], [47, 61], [37, 61], [38, 61], [124, 61], [94, 61], [35, 35], [91], [93], [40], [41], [123], [125], [46], [38], [42], [43], [45], [126], [33], [47], [37], [60], [62], [94], [124], [63], [58], [59], [61], [44], [35]]
def e_lex_Signs : (List (List UInt8)) → D := fun r => (dL 1 dS) r
def c_lex_Signs : Unit → List D := fun _ => []
theorem c_lex_Signs_inj : Inj c_lex_Signs := by intro a b _; rfl
noncomputable def pf_lex_Signs : PF := PF.of c_lex_Signs (fun _ => lex_Signs) e_lex_Signs
noncomputable def t_lex_Signs : Tab := tabOf Try.prog [] []
theorem t_lex_Signs_ok : TabOk t_lex_Signs := tabOf_ok (by exact trivial) (by exact trivial)
theorem y_lex_Signs : ((((type_of% @tAgg_9) ∧ ((type_of% @tBytes_9) ∧ (type_of% @tCS_9))) ∧ ((type_of% @tElem_34) ∧ ((type_of% @tKnown_9) ∧ (type_of% @tSize_9)))) ∧ (((type_of% @tSlice_34) ∧ ((type_of% @tZ_9) ∧ (type_of% @tZok_9))) ∧ ((type_of% @t_lex_Signs.eq_1) ∧ ((type_of% @c_lex_Signs.eq_1) ∧ (type_of% @e_lex_Signs.eq_1))))) := ⟨⟨⟨@tAgg_9, ⟨@tBytes_9, @tCS_9⟩⟩, ⟨@tElem_34, ⟨@tKnown_9, @tSize_9⟩⟩⟩, ⟨⟨@tSlice_34, ⟨@tZ_9, @tZok_9⟩⟩, ⟨@t_lex_Signs.eq_1, ⟨@c_lex_Signs.eq_1, @e_lex_Signs.eq_1⟩⟩⟩⟩
set_option maxRecDepth 100000 in
set_option maxHeartbeats 4000000 in
theorem lex_Signs_ok : PureOk Try.prog 40 pf_lex_Signs := by
  refine pure_of (t := t_lex_Signs) (pure := fun n => [].contains n) c_lex_Signs_inj rfl t_lex_Signs_ok mixed (fun n hn => tabOf_pure rfl n hn) Try.func40 rfl (by kernel_rfl) (fun a => by simp [c_lex_Signs, Try.ntmps40]) ?_
  rintro _ out H
  simp only [lex_Signs] at H
  show aC _ _ (sig0 (List.map (fun d => AV.c (C.d d)) (c_lex_Signs ()))) _ _
  refine w_seq ?_
  refine w_region rfl (fun K hK => ?_)
  simp -implicitDefEqProofs only [goR, ↓upd_at, if_true, if_false, reduceCtorEq, ↓reduceIte, Nat.reduceEqDiff, Nat.reduceAdd, Nat.reduceSub, Nat.reduceMul, Nat.reduceBEq, Nat.reduceLT, Nat.reduceLeDiff, Int.reduceToNat, Int.reduceLE, Int.reduceLT, Int.reduceEq, Int.reduceNeg, ← List.map_drop, ← List.map_take, UInt8.reduceToNat, true_implies, implies_true, List.append_eq, y_lex_Signs]
  (repeat' (first | ((with_reducible refine hK _ _ ?_); clear hK K) | (with_reducible apply And.intro) | (exact trivial) | (clear hK K; assumption) | (clear hK K; omega)))
  refine then_normal ?_
  refine w_seq ?_
  refine w_region rfl (fun K hK => ?_)
  simp -implicitDefEqProofs only [goR, ↓upd_at, if_true, if_false, reduceCtorEq, ↓reduceIte, Nat.reduceEqDiff, Nat.reduceAdd, Nat.reduceSub, Nat.reduceMul, Nat.reduceBEq, Nat.reduceLT, Nat.reduceLeDiff, Int.reduceToNat, Int.reduceLE, Int.reduceLT, Int.reduceEq, Int.reduceNeg, ← List.map_drop, ← List.map_take, UInt8.reduceToNat, true_implies, implies_true, List.append_eq, y_lex_Signs]
  (repeat' (first | ((with_reducible refine hK _ _ ?_); clear hK K) | (with_reducible apply And.intro) | (exact trivial) | (clear hK K; assumption) | (clear hK K; omega)))
  refine then_normal ?_
  refine w_ret ?_
  obtain rfl := Option.some.inj H
  simp -implicitDefEqProofs only [goQ, Try.results40, goR, ↓upd_at, if_true, if_false, reduceCtorEq, ↓reduceIte, Nat.reduceEqDiff, Nat.reduceAdd, Nat.reduceSub, Nat.reduceMul, Nat.reduceBEq, Nat.reduceLT, Nat.reduceLeDiff, Int.reduceToNat, Int.reduceLE, Int.reduceLT, Int.reduceEq, Int.reduceNeg, ← List.map_drop, ← List.map_take, UInt8.reduceToNat, true_implies, implies_true, List.append_eq, y_lex_Signs]
theorem lex_Signs_c  (r : (List (List UInt8))) (H : lex_Signs  = some r) : pf_lex_Signs.pre [] = True ∧ pf_lex_Signs.val [] = (dL 1 dS) r :=
  ⟨PF.of_pre (enc := c_lex_Signs) (f := fun _ => lex_Signs) (e := e_lex_Signs) (a := ()) H, PF.of_val (enc := c_lex_Signs) (f := fun _ => lex_Signs) (e := e_lex_Signs) (a := ()) c_lex_Signs_inj H⟩
noncomputable def preref1_Signs  : Option (List (List UInt8)) :=
  some [[46, 46, 46], [60, 60, 61], [62, 62, 61], [45, 62], [43, 43], [45, 45], [60, 60], [62, 62], [60, 61], [62, 61], [61, 61], [33, 61], [38, 38], [124, 124], [43, 61], [45, 61], [42, 61], [47, 61], [37, 61], [38, 61], [124, 61], [94, 61], [35, 35], [91], [93], [40], [41], [123], [125], [46], [38], [42], [43], [45], [126], [33], [47], [37], [60], [62], [94], [124], [63], [58], [59], [61], [44], [35]]
def e_preref1_Signs : (List (List UInt8)) → D := fun r => (dL 1 dS) r
def c_preref1_Signs : Unit → List D := fun _ => []
theorem c_preref1_Signs_inj : Inj c_preref1_Signs := by intro a b _; rfl
noncomputable def pf_preref1_Signs : PF := PF.of c_preref1_Signs (fun _ => preref1_Signs) e_preref1_Signs
noncomputable def t_preref1_Signs : Tab := tabOf Try.prog [] []
theorem t_preref1_Signs_ok : TabOk t_preref1_Signs := tabOf_ok (by exact trivial) (by exact trivial)
theorem y_preref1_Signs : ((((type_of% @tAgg_9) ∧ ((type_of% @tBytes_9) ∧ (type_of% @tCS_9))) ∧ ((type_of% @tElem_34) ∧ ((type_of% @tKnown_9) ∧ (type_of% @tSize_9)))) ∧ (((type_of% @tSlice_34) ∧ ((type_of% @tZ_9) ∧ (type_of% @tZok_9))) ∧ ((type_of% @t_preref1_Signs.eq_1) ∧ ((type_of% @c_preref1_Signs.eq_1) ∧ (type_of% @e_preref1_Signs.eq_1))))) := ⟨⟨⟨@tAgg_9, ⟨@tBytes_9, @tCS_9⟩⟩, ⟨@tElem_34, ⟨@tKnown_9, @tSize_9⟩⟩⟩, ⟨⟨@tSlice_34, ⟨@tZ_9, @tZok_9⟩⟩, ⟨@t_preref1_Signs.eq_1, ⟨@c_preref1_Signs.eq_1, @e_preref1_Signs.eq_1⟩⟩⟩⟩
set_option maxRecDepth 100000 in
set_option maxHeartbeats 4000000 in
theorem preref1_Signs_ok : PureOk Try.prog 41 pf_preref1_Signs := by
  refine pure_of (t := t_preref1_Signs) (pure := fun n => [].contains n) c_preref1_Signs_inj rfl t_preref1_Signs_ok mixed (fun n hn => tabOf_pure rfl n hn) Try.func41 rfl (by kernel_rfl) (fun a => by simp [c_preref1_Signs, Try.ntmps41]) ?_
  rintro _ out H
  simp only [preref1_Signs] at H
  show aC _ _ (sig0 (List.map (fun d => AV.c (C.d d)) (c_preref1_Signs ()))) _ _
  refine w_seq ?_
  refine w_region rfl (fun K hK => ?_)
  simp -implicitDefEqProofs only [goR, ↓upd_at, if_true, if_false, reduceCtorEq, ↓reduceIte, Nat.reduceEqDiff, Nat.reduceAdd, Nat.reduceSub, Nat.reduceMul, Nat.reduceBEq, Nat.reduceLT, Nat.reduceLeDiff, Int.reduceToNat, Int.reduceLE, Int.reduceLT, Int.reduceEq, Int.reduceNeg, ← List.map_drop, ← List.map_take, UInt8.reduceToNat, true_implies, implies_true, List.append_eq, y_preref1_Signs]
  (repeat' (first | ((with_reducible refine hK _ _ ?_); clear hK K) | (with_reducible apply And.intro) | (exact trivial) | (clear hK K; assumption) | (clear hK K; omega)))
  refine then_normal ?_
  refine w_seq ?_
  refine w_region rfl (fun K hK => ?_)
  simp -implicitDefEqProofs only [goR, ↓upd_at, if_true, if_false, reduceCtorEq, ↓reduceIte, Nat.reduceEqDiff, Nat.reduceAdd, Nat.reduceSub, Nat.reduceMul, Nat.reduceBEq, Nat.reduceLT, Nat.reduceLeDiff, Int.reduceToNat, Int.reduceLE, Int.reduceLT, Int.reduceEq, Int.reduceNeg, ← List.map_drop, ← List.map_take, UInt8.reduceToNat, true_implies, implies_true, List.append_eq, y_preref1_Signs]
  (repeat' (first | ((with_reducible refine hK _ _ ?_); clear hK K) | (with_reducible apply And.intro) | (exact trivial) | (clear hK K; assumption) | (clear hK K; omega)))
  refine then_normal ?_
  refine w_ret ?_
  obtain rfl := Option.some.inj H
  simp -implicitDefEqProofs only [goQ, Try.results41, goR, ↓upd_at, if_true, if_false, reduceCtorEq, ↓reduceIte, Nat.reduceEqDiff, Nat.reduceAdd, Nat.reduceSub, Nat.reduceMul, Nat.reduceBEq, Nat.reduceLT, Nat.reduceLeDiff, Int.reduceToNat, Int.reduceLE, Int.reduceLT, Int.reduceEq, Int.reduceNeg, ← List.map_drop, ← List.map_take, UInt8.reduceToNat, true_implies, implies_true, List.append_eq, y_preref1_Signs]
theorem preref1_Signs_c  (r : (List (List UInt8))) (H : preref1_Signs  = some r) : pf_preref1_Signs.pre [] = True ∧ pf_preref1_Signs.val [] = (dL 1 dS) r :=
  ⟨PF.of_pre (enc := c_preref1_Signs) (f := fun _ => preref1_Signs) (e := e_preref1_Signs) (a := ()) H, PF.of_val (enc := c_preref1_Signs) (f := fun _ => preref1_Signs) (e := e_preref1_Signs) (a := ()) c_preref1_Signs_inj H⟩
noncomputable def prelaw8_same_b1 (a0 : List Int) (a1 : List Int) : (Int × Int) → Option ((Int × Int) ⊕ Bool)
  | (x1, x2) => if (ltI x2 x1) = true then if (0 : Int) ≤ x2 ∧ x2.toNat < a0.length then if (0 : Int) ≤ x2 ∧ x2.toNat < a1.length then if (!eqI (a0.getD x2.toNat default) (a1.getD x2.toNat default)) = true then inrO (some false) else some (.inl (x1, IntKind.i64.wrap (x2 + 1))) else none else none else inrO (some true)
noncomputable def prelaw8_same (a0 : List Int) (a1 : List Int) : Option Bool :=
  if (!eqI (a0.length : Int) (a1.length : Int)) = true then some false else loopO (prelaw8_same_b1 a0 a1) ((a0.length : Int), 0)
def e_prelaw8_same : Bool → D := fun r => dB r
def c_prelaw8_same : (List Int) × (List Int) → List D := fun a => [(dL 1 dI) a.1, (dL 1 dI) a.2]
theorem c_prelaw8_same_inj : Inj c_prelaw8_same := by rintro ⟨a0, a1⟩ ⟨b0, b1⟩ h; simp only [c_prelaw8_same, List.map_cons, List.map_nil, List.cons.injEq, and_true] at h; obtain ⟨h0, h1⟩ := h; obtain rfl := (dL_inj (sz := 0) dI_inj _ _) h0; obtain rfl := (dL_inj (sz := 0) dI_inj _ _) h1; rfl
noncomputable def pf_prelaw8_same : PF := PF.of c_prelaw8_same (fun a => prelaw8_same a.1 a.2) e_prelaw8_same
noncomputable def t_prelaw8_same : Tab := tabOf Try.prog [] []
theorem t_prelaw8_same_ok : TabOk t_prelaw8_same := tabOf_ok (by exact trivial) (by exact trivial)
theorem y_prelaw8_same : ((((type_of% @tAgg_3) ∧ ((type_of% @tBytes_3) ∧ (type_of% @tCS_3))) ∧ ((type_of% @tElem_22) ∧ ((type_of% @tKnown_3) ∧ (type_of% @tSize_3)))) ∧ (((type_of% @tSlice_22) ∧ ((type_of% @tZ_3) ∧ (type_of% @tZok_3))) ∧ ((type_of% @t_prelaw8_same.eq_1) ∧ ((type_of% @c_prelaw8_same.eq_1) ∧ (type_of% @e_prelaw8_same.eq_1))))) := ⟨⟨⟨@tAgg_3, ⟨@tBytes_3, @tCS_3⟩⟩, ⟨@tElem_22, ⟨@tKnown_3, @tSize_3⟩⟩⟩, ⟨⟨@tSlice_22, ⟨@tZ_3, @tZok_3⟩⟩, ⟨@t_prelaw8_same.eq_1, ⟨@c_prelaw8_same.eq_1, @e_prelaw8_same.eq_1⟩⟩⟩⟩
set_option maxRecDepth 100000 in
set_option maxHeartbeats 4000000 in
theorem prelaw8_same_ok : PureOk Try.prog 27 pf_prelaw8_same := by
  refine pure_of (t := t_prelaw8_same) (pure := fun n => [].contains n) c_prelaw8_same_inj rfl t_prelaw8_same_ok mixed (fun n hn => tabOf_pure rfl n hn) Try.func27 rfl (by kernel_rfl) (fun a => by simp [c_prelaw8_same, Try.ntmps27]) ?_
  rintro ⟨a0, a1⟩ out H
  simp only [prelaw8_same] at H
  show aC _ _ (sig0 (List.map (fun d => AV.c (C.d d)) (c_prelaw8_same (a0, a1)))) _ _
  refine w_seq ?_
  refine w_region rfl (fun K hK => ?_)
  simp -implicitDefEqProofs only [goR, ↓upd_at, if_true, if_false, reduceCtorEq, ↓reduceIte, Nat.reduceEqDiff, Nat.reduceAdd, Nat.reduceSub, Nat.reduceMul, Nat.reduceBEq, Nat.reduceLT, Nat.reduceLeDiff, Int.reduceToNat, Int.reduceLE, Int.reduceLT, Int.reduceEq, Int.reduceNeg, ← List.map_drop, ← List.map_take, UInt8.reduceToNat, true_implies, implies_true, List.append_eq, y_prelaw8_same]
  (repeat' (first | ((with_reducible refine hK _ _ ?_); clear hK K) | (with_reducible apply And.intro) | (exact trivial) | (clear hK K; assumption) | (clear hK K; omega)))
  refine then_normal ?_
  refine w_seq ?_
  refine w_seq ?_
  refine w_region rfl (fun K hK => ?_)
  simp -implicitDefEqProofs only [goR, ↓upd_at, if_true, if_false, reduceCtorEq, ↓reduceIte, Nat.reduceEqDiff, Nat.reduceAdd, Nat.reduceSub, Nat.reduceMul, Nat.reduceBEq, Nat.reduceLT, Nat.reduceLeDiff, Int.reduceToNat, Int.reduceLE, Int.reduceLT, Int.reduceEq, Int.reduceNeg, ← List.map_drop, ← List.map_take, UInt8.reduceToNat, true_implies, implies_true, List.append_eq, y_prelaw8_same]
  (repeat' (first | ((with_reducible refine hK _ _ ?_); clear hK K) | (with_reducible apply And.intro) | (exact trivial) | (clear hK K; assumption) | (clear hK K; omega)))
  refine then_normal ?_
  rcases bsplit H with ⟨hp1, H⟩ | ⟨hp1, H⟩
  · try simp -implicitDefEqProofs only [goR, ↓upd_at, if_true, if_false, reduceCtorEq, ↓reduceIte, Nat.reduceEqDiff, Nat.reduceAdd, Nat.reduceSub, Nat.reduceMul, Nat.reduceBEq, Nat.reduceLT, Nat.reduceLeDiff, Int.reduceToNat, Int.reduceLE, Int.reduceLT, Int.reduceEq, Int.reduceNeg, ← List.map_drop, ← List.map_take, UInt8.reduceToNat, true_implies, implies_true, List.append_eq, y_prelaw8_same] at hp1
    have hq1 := hp1
    try simp only [goT] at hq1
    refine w_condT (by simp -implicitDefEqProofs only [goR, ↓upd_at, if_true, if_false, reduceCtorEq, ↓reduceIte, Nat.reduceEqDiff, Nat.reduceAdd, Nat.reduceSub, Nat.reduceMul, Nat.reduceBEq, Nat.reduceLT, Nat.reduceLeDiff, Int.reduceToNat, Int.reduceLE, Int.reduceLT, Int.reduceEq, Int.reduceNeg, ← List.map_drop, ← List.map_take, UInt8.reduceToNat, true_implies, implies_true, List.append_eq, y_prelaw8_same, hp1]) ?_
    refine w_seq ?_
    refine w_region rfl (fun K hK => ?_)
    simp -implicitDefEqProofs only [goR, ↓upd_at, if_true, if_false, reduceCtorEq, ↓reduceIte, Nat.reduceEqDiff, Nat.reduceAdd, Nat.reduceSub, Nat.reduceMul, Nat.reduceBEq, Nat.reduceLT, Nat.reduceLeDiff, Int.reduceToNat, Int.reduceLE, Int.reduceLT, Int.reduceEq, Int.reduceNeg, ← List.map_drop, ← List.map_take, UInt8.reduceToNat, true_implies, implies_true, List.append_eq, y_prelaw8_same]
    (repeat' (first | ((with_reducible refine hK _ _ ?_); clear hK K) | (with_reducible apply And.intro) | (exact trivial) | (clear hK K; assumption) | (clear hK K; omega)))
    refine then_normal ?_
    refine w_ret ?_
    refine then_ret ?_
    obtain rfl := Option.some.inj H
    simp -implicitDefEqProofs only [goQ, Try.results27, goR, ↓upd_at, if_true, if_false, reduceCtorEq, ↓reduceIte, Nat.reduceEqDiff, Nat.reduceAdd, Nat.reduceSub, Nat.reduceMul, Nat.reduceBEq, Nat.reduceLT, Nat.reduceLeDiff, Int.reduceToNat, Int.reduceLE, Int.reduceLT, Int.reduceEq, Int.reduceNeg, ← List.map_drop, ← List.map_take, UInt8.reduceToNat, true_implies, implies_true, List.append_eq, y_prelaw8_same]
  · try simp -implicitDefEqProofs only [goR, ↓upd_at, if_true, if_false, reduceCtorEq, ↓reduceIte, Nat.reduceEqDiff, Nat.reduceAdd, Nat.reduceSub, Nat.reduceMul, Nat.reduceBEq, Nat.reduceLT, Nat.reduceLeDiff, Int.reduceToNat, Int.reduceLE, Int.reduceLT, Int.reduceEq, Int.reduceNeg, ← List.map_drop, ← List.map_take, UInt8.reduceToNat, true_implies, implies_true, List.append_eq, y_prelaw8_same] at hp1
    have hq1 := hp1
    try simp only [goT] at hq1
    refine w_condF (by simp -implicitDefEqProofs only [goR, ↓upd_at, if_true, if_false, reduceCtorEq, ↓reduceIte, Nat.reduceEqDiff, Nat.reduceAdd, Nat.reduceSub, Nat.reduceMul, Nat.reduceBEq, Nat.reduceLT, Nat.reduceLeDiff, Int.reduceToNat, Int.reduceLE, Int.reduceLT, Int.reduceEq, Int.reduceNeg, ← List.map_drop, ← List.map_take, UInt8.reduceToNat, true_implies, implies_true, List.append_eq, y_prelaw8_same, hp1]) ?_
    refine w_skip ?_
    refine then_normal ?_
    refine w_seq ?_
    refine w_seq ?_
    refine w_region rfl (fun K hK => ?_)
    simp -implicitDefEqProofs only [goR, ↓upd_at, if_true, if_false, reduceCtorEq, ↓reduceIte, Nat.reduceEqDiff, Nat.reduceAdd, Nat.reduceSub, Nat.reduceMul, Nat.reduceBEq, Nat.reduceLT, Nat.reduceLeDiff, Int.reduceToNat, Int.reduceLE, Int.reduceLT, Int.reduceEq, Int.reduceNeg, ← List.map_drop, ← List.map_take, UInt8.reduceToNat, true_implies, implies_true, List.append_eq, y_prelaw8_same]
    (repeat' (first | ((with_reducible refine hK _ _ ?_); clear hK K) | (with_reducible apply And.intro) | (exact trivial) | (clear hK K; assumption) | (clear hK K; omega)))
    refine then_normal ?_
    refine w_block ?_
    refine w_loop (prelaw8_same_b1 a0 a1) (fun s => [(0, .c (.d (.sl 1 (List.map dI a0)))), (1, .c (.d (.sl 1 (List.map dI a1)))), (12, .c (.d (.v (.int .i64 s.1)))), (13, .c (.d (.v (.int .i64 s.2))))]) (fun s => []) [] H ?_ ?_
    · exact wk_ren ⟨[], []⟩ rfl rfl rfl rfl rfl (by simp -implicitDefEqProofs only [goW, goR, ↓upd_at, if_true, if_false, reduceCtorEq, ↓reduceIte, Nat.reduceEqDiff, Nat.reduceAdd, Nat.reduceSub, Nat.reduceMul, Nat.reduceBEq, Nat.reduceLT, Nat.reduceLeDiff, Int.reduceToNat, Int.reduceLE, Int.reduceLT, Int.reduceEq, Int.reduceNeg, ← List.map_drop, ← List.map_take, UInt8.reduceToNat, true_implies, implies_true, List.append_eq, y_prelaw8_same]) (by simp -implicitDefEqProofs only [goW, goR, ↓upd_at, if_true, if_false, reduceCtorEq, ↓reduceIte, Nat.reduceEqDiff, Nat.reduceAdd, Nat.reduceSub, Nat.reduceMul, Nat.reduceBEq, Nat.reduceLT, Nat.reduceLeDiff, Int.reduceToNat, Int.reduceLE, Int.reduceLT, Int.reduceEq, Int.reduceNeg, ← List.map_drop, ← List.map_take, UInt8.reduceToNat, true_implies, implies_true, List.append_eq, y_prelaw8_same]) (by simp -implicitDefEqProofs only [goW, goR, ↓upd_at, if_true, if_false, reduceCtorEq, ↓reduceIte, Nat.reduceEqDiff, Nat.reduceAdd, Nat.reduceSub, Nat.reduceMul, Nat.reduceBEq, Nat.reduceLT, Nat.reduceLeDiff, Int.reduceToNat, Int.reduceLE, Int.reduceLT, Int.reduceEq, Int.reduceNeg, ← List.map_drop, ← List.map_take, UInt8.reduceToNat, true_implies, implies_true, List.append_eq, y_prelaw8_same]) rfl
    · rintro n1 ⟨x1, x2⟩ o1 H hF1
      rw [prelaw8_same_b1] at H
      refine w_seq ?_
      refine w_region rfl (fun K hK => ?_)
      simp -implicitDefEqProofs only [goR, ↓upd_at, if_true, if_false, reduceCtorEq, ↓reduceIte, Nat.reduceEqDiff, Nat.reduceAdd, Nat.reduceSub, Nat.reduceMul, Nat.reduceBEq, Nat.reduceLT, Nat.reduceLeDiff, Int.reduceToNat, Int.reduceLE, Int.reduceLT, Int.reduceEq, Int.reduceNeg, ← List.map_drop, ← List.map_take, UInt8.reduceToNat, true_implies, implies_true, List.append_eq, y_prelaw8_same]
      (repeat' (first | ((with_reducible refine hK _ _ ?_); clear hK K) | (with_reducible apply And.intro) | (exact trivial) | (clear hK K; assumption) | (clear hK K; omega)))
      refine then_normal ?_
      refine w_seq ?_
      rcases bsplit H with ⟨hp2, H⟩ | ⟨hp2, H⟩
      · try simp -implicitDefEqProofs only [goR, ↓upd_at, if_true, if_false, reduceCtorEq, ↓reduceIte, Nat.reduceEqDiff, Nat.reduceAdd, Nat.reduceSub, Nat.reduceMul, Nat.reduceBEq, Nat.reduceLT, Nat.reduceLeDiff, Int.reduceToNat, Int.reduceLE, Int.reduceLT, Int.reduceEq, Int.reduceNeg, ← List.map_drop, ← List.map_take, UInt8.reduceToNat, true_implies, implies_true, List.append_eq, y_prelaw8_same] at hp2
        have hq2 := hp2
        try simp only [goT] at hq2
        refine w_condT (by simp -implicitDefEqProofs only [goR, ↓upd_at, if_true, if_false, reduceCtorEq, ↓reduceIte, Nat.reduceEqDiff, Nat.reduceAdd, Nat.reduceSub, Nat.reduceMul, Nat.reduceBEq, Nat.reduceLT, Nat.reduceLeDiff, Int.reduceToNat, Int.reduceLE, Int.reduceLT, Int.reduceEq, Int.reduceNeg, ← List.map_drop, ← List.map_take, UInt8.reduceToNat, true_implies, implies_true, List.append_eq, y_prelaw8_same, hp2]) ?_
        refine w_skip ?_
        refine then_normal ?_
        refine w_seq ?_
        refine w_block ?_
        refine w_seq ?_
        refine w_region rfl (fun K hK => ?_)
        simp -implicitDefEqProofs only [goR, ↓upd_at, if_true, if_false, reduceCtorEq, ↓reduceIte, Nat.reduceEqDiff, Nat.reduceAdd, Nat.reduceSub, Nat.reduceMul, Nat.reduceBEq, Nat.reduceLT, Nat.reduceLeDiff, Int.reduceToNat, Int.reduceLE, Int.reduceLT, Int.reduceEq, Int.reduceNeg, ← List.map_drop, ← List.map_take, UInt8.reduceToNat, true_implies, implies_true, List.append_eq, y_prelaw8_same]
        (repeat' (first | ((with_reducible refine hK _ _ ?_); clear hK K) | (with_reducible apply And.intro) | (exact trivial) | (clear hK K; assumption) | (clear hK K; omega)))
        refine then_normal ?_
        refine w_seq ?_
        obtain ⟨hg1, H⟩ := gsplit H
        have g1 := map_getD dI a0 x2.toNat default default (by omega)
        obtain ⟨hg2, H⟩ := gsplit H
        have g2 := map_getD dI a1 x2.toNat default default (by omega)
        refine w_region rfl (fun K hK => ?_)
        simp -implicitDefEqProofs only [goR, ↓upd_at, if_true, if_false, reduceCtorEq, ↓reduceIte, Nat.reduceEqDiff, Nat.reduceAdd, Nat.reduceSub, Nat.reduceMul, Nat.reduceBEq, Nat.reduceLT, Nat.reduceLeDiff, Int.reduceToNat, Int.reduceLE, Int.reduceLT, Int.reduceEq, Int.reduceNeg, ← List.map_drop, ← List.map_take, UInt8.reduceToNat, true_implies, implies_true, List.append_eq, y_prelaw8_same, g1, g2]
        (repeat' (first | ((with_reducible refine hK _ _ ?_); clear hK K) | (with_reducible apply And.intro) | (exact trivial) | (clear hK K; assumption) | (clear hK K; omega)))
        refine then_normal ?_
        rcases bsplit H with ⟨hp3, H⟩ | ⟨hp3, H⟩
        · try simp -implicitDefEqProofs only [goR, ↓upd_at, if_true, if_false, reduceCtorEq, ↓reduceIte, Nat.reduceEqDiff, Nat.reduceAdd, Nat.reduceSub, Nat.reduceMul, Nat.reduceBEq, Nat.reduceLT, Nat.reduceLeDiff, Int.reduceToNat, Int.reduceLE, Int.reduceLT, Int.reduceEq, Int.reduceNeg, ← List.map_drop, ← List.map_take, UInt8.reduceToNat, true_implies, implies_true, List.append_eq, y_prelaw8_same] at hp3
          have hq3 := hp3
          try simp only [goT] at hq3
          refine w_condT (by simp -implicitDefEqProofs only [goR, ↓upd_at, if_true, if_false, reduceCtorEq, ↓reduceIte, Nat.reduceEqDiff, Nat.reduceAdd, Nat.reduceSub, Nat.reduceMul, Nat.reduceBEq, Nat.reduceLT, Nat.reduceLeDiff, Int.reduceToNat, Int.reduceLE, Int.reduceLT, Int.reduceEq, Int.reduceNeg, ← List.map_drop, ← List.map_take, UInt8.reduceToNat, true_implies, implies_true, List.append_eq, y_prelaw8_same, hp3]) ?_
          refine w_seq ?_
          refine w_region rfl (fun K hK => ?_)
          simp -implicitDefEqProofs only [goR, ↓upd_at, if_true, if_false, reduceCtorEq, ↓reduceIte, Nat.reduceEqDiff, Nat.reduceAdd, Nat.reduceSub, Nat.reduceMul, Nat.reduceBEq, Nat.reduceLT, Nat.reduceLeDiff, Int.reduceToNat, Int.reduceLE, Int.reduceLT, Int.reduceEq, Int.reduceNeg, ← List.map_drop, ← List.map_take, UInt8.reduceToNat, true_implies, implies_true, List.append_eq, y_prelaw8_same]
          (repeat' (first | ((with_reducible refine hK _ _ ?_); clear hK K) | (with_reducible apply And.intro) | (exact trivial) | (clear hK K; assumption) | (clear hK K; omega)))
          refine then_normal ?_
          refine w_ret ?_
          refine block_ret ?_
          refine then_ret ?_
          replace H := inrO_fin H hF1
          refine round_ret ?_
          refine block_ret ?_
          refine then_ret ?_
          obtain rfl := Option.some.inj H
          simp -implicitDefEqProofs only [goQ, Try.results27, goR, ↓upd_at, if_true, if_false, reduceCtorEq, ↓reduceIte, Nat.reduceEqDiff, Nat.reduceAdd, Nat.reduceSub, Nat.reduceMul, Nat.reduceBEq, Nat.reduceLT, Nat.reduceLeDiff, Int.reduceToNat, Int.reduceLE, Int.reduceLT, Int.reduceEq, Int.reduceNeg, ← List.map_drop, ← List.map_take, UInt8.reduceToNat, true_implies, implies_true, List.append_eq, y_prelaw8_same]
        · try simp -implicitDefEqProofs only [goR, ↓upd_at, if_true, if_false, reduceCtorEq, ↓reduceIte, Nat.reduceEqDiff, Nat.reduceAdd, Nat.reduceSub, Nat.reduceMul, Nat.reduceBEq, Nat.reduceLT, Nat.reduceLeDiff, Int.reduceToNat, Int.reduceLE, Int.reduceLT, Int.reduceEq, Int.reduceNeg, ← List.map_drop, ← List.map_take, UInt8.reduceToNat, true_implies, implies_true, List.append_eq, y_prelaw8_same] at hp3
          have hq3 := hp3
          try simp only [goT] at hq3
          refine w_condF (by simp -implicitDefEqProofs only [goR, ↓upd_at, if_true, if_false, reduceCtorEq, ↓reduceIte, Nat.reduceEqDiff, Nat.reduceAdd, Nat.reduceSub, Nat.reduceMul, Nat.reduceBEq, Nat.reduceLT, Nat.reduceLeDiff, Int.reduceToNat, Int.reduceLE, Int.reduceLT, Int.reduceEq, Int.reduceNeg, ← List.map_drop, ← List.map_take, UInt8.reduceToNat, true_implies, implies_true, List.append_eq, y_prelaw8_same, hp3]) ?_
          refine w_skip ?_
          refine block_normal ?_
          refine then_normal ?_
          refine w_region rfl (fun K hK => ?_)
          simp -implicitDefEqProofs only [goR, ↓upd_at, if_true, if_false, reduceCtorEq, ↓reduceIte, Nat.reduceEqDiff, Nat.reduceAdd, Nat.reduceSub, Nat.reduceMul, Nat.reduceBEq, Nat.reduceLT, Nat.reduceLeDiff, Int.reduceToNat, Int.reduceLE, Int.reduceLT, Int.reduceEq, Int.reduceNeg, ← List.map_drop, ← List.map_take, UInt8.reduceToNat, true_implies, implies_true, List.append_eq, y_prelaw8_same]
          (repeat' (first | ((with_reducible refine hK _ _ ?_); clear hK K) | (with_reducible apply And.intro) | (exact trivial) | (clear hK K; assumption) | (clear hK K; omega)))
          refine round_at (inl_fin H hF1) ?_
          exact wk_ren ⟨[], []⟩ rfl rfl rfl rfl rfl (by simp -implicitDefEqProofs only [goW, goR, ↓upd_at, if_true, if_false, reduceCtorEq, ↓reduceIte, Nat.reduceEqDiff, Nat.reduceAdd, Nat.reduceSub, Nat.reduceMul, Nat.reduceBEq, Nat.reduceLT, Nat.reduceLeDiff, Int.reduceToNat, Int.reduceLE, Int.reduceLT, Int.reduceEq, Int.reduceNeg, ← List.map_drop, ← List.map_take, UInt8.reduceToNat, true_implies, implies_true, List.append_eq, y_prelaw8_same]) (by simp -implicitDefEqProofs only [goW, goR, ↓upd_at, if_true, if_false, reduceCtorEq, ↓reduceIte, Nat.reduceEqDiff, Nat.reduceAdd, Nat.reduceSub, Nat.reduceMul, Nat.reduceBEq, Nat.reduceLT, Nat.reduceLeDiff, Int.reduceToNat, Int.reduceLE, Int.reduceLT, Int.reduceEq, Int.reduceNeg, ← List.map_drop, ← List.map_take, UInt8.reduceToNat, true_implies, implies_true, List.append_eq, y_prelaw8_same]) (by simp -implicitDefEqProofs only [goW, goR, ↓upd_at, if_true, if_false, reduceCtorEq, ↓reduceIte, Nat.reduceEqDiff, Nat.reduceAdd, Nat.reduceSub, Nat.reduceMul, Nat.reduceBEq, Nat.reduceLT, Nat.reduceLeDiff, Int.reduceToNat, Int.reduceLE, Int.reduceLT, Int.reduceEq, Int.reduceNeg, ← List.map_drop, ← List.map_take, UInt8.reduceToNat, true_implies, implies_true, List.append_eq, y_prelaw8_same]) rfl
      · try simp -implicitDefEqProofs only [goR, ↓upd_at, if_true, if_false, reduceCtorEq, ↓reduceIte, Nat.reduceEqDiff, Nat.reduceAdd, Nat.reduceSub, Nat.reduceMul, Nat.reduceBEq, Nat.reduceLT, Nat.reduceLeDiff, Int.reduceToNat, Int.reduceLE, Int.reduceLT, Int.reduceEq, Int.reduceNeg, ← List.map_drop, ← List.map_take, UInt8.reduceToNat, true_implies, implies_true, List.append_eq, y_prelaw8_same] at hp2
        have hq2 := hp2
        try simp only [goT] at hq2
        refine w_condF (by simp -implicitDefEqProofs only [goR, ↓upd_at, if_true, if_false, reduceCtorEq, ↓reduceIte, Nat.reduceEqDiff, Nat.reduceAdd, Nat.reduceSub, Nat.reduceMul, Nat.reduceBEq, Nat.reduceLT, Nat.reduceLeDiff, Int.reduceToNat, Int.reduceLE, Int.reduceLT, Int.reduceEq, Int.reduceNeg, ← List.map_drop, ← List.map_take, UInt8.reduceToNat, true_implies, implies_true, List.append_eq, y_prelaw8_same, hp2]) ?_
        refine w_exit ?_
        refine then_exit ?_
        replace H := inrO_fin H hF1
        refine round_exit ?_
        refine block_exit ?_
        refine then_normal ?_
        refine w_seq ?_
        refine w_region rfl (fun K hK => ?_)
        simp -implicitDefEqProofs only [goR, ↓upd_at, if_true, if_false, reduceCtorEq, ↓reduceIte, Nat.reduceEqDiff, Nat.reduceAdd, Nat.reduceSub, Nat.reduceMul, Nat.reduceBEq, Nat.reduceLT, Nat.reduceLeDiff, Int.reduceToNat, Int.reduceLE, Int.reduceLT, Int.reduceEq, Int.reduceNeg, ← List.map_drop, ← List.map_take, UInt8.reduceToNat, true_implies, implies_true, List.append_eq, y_prelaw8_same]
        (repeat' (first | ((with_reducible refine hK _ _ ?_); clear hK K) | (with_reducible apply And.intro) | (exact trivial) | (clear hK K; assumption) | (clear hK K; omega)))
        refine then_normal ?_
        refine w_ret ?_
        obtain rfl := Option.some.inj H
        simp -implicitDefEqProofs only [goQ, Try.results27, goR, ↓upd_at, if_true, if_false, reduceCtorEq, ↓reduceIte, Nat.reduceEqDiff, Nat.reduceAdd, Nat.reduceSub, Nat.reduceMul, Nat.reduceBEq, Nat.reduceLT, Nat.reduceLeDiff, Int.reduceToNat, Int.reduceLE, Int.reduceLT, Int.reduceEq, Int.reduceNeg, ← List.map_drop, ← List.map_take, UInt8.reduceToNat, true_implies, implies_true, List.append_eq, y_prelaw8_same]
theorem prelaw8_same_c (a0 : List Int) (a1 : List Int) (r : Bool) (H : prelaw8_same a0 a1 = some r) : pf_prelaw8_same.pre [(dL 1 dI) a0, (dL 1 dI) a1] = True ∧ pf_prelaw8_same.val [(dL 1 dI) a0, (dL 1 dI) a1] = dB r :=
  ⟨PF.of_pre (enc := c_prelaw8_same) (f := fun a => prelaw8_same a.1 a.2) (e := e_prelaw8_same) (a := (a0, a1)) H, PF.of_val (enc := c_prelaw8_same) (f := fun a => prelaw8_same a.1 a.2) (e := e_prelaw8_same) (a := (a0, a1)) c_prelaw8_same_inj H⟩
theorem prelaw8_same_cl (l : List D) (a0 : List Int) (a1 : List Int) (r : Bool) (hl : les1 l (c_prelaw8_same (a0, a1))) (H : prelaw8_same a0 a1 = some r) : pf_prelaw8_same.pre l = True ∧ pf_prelaw8_same.val l = dB r :=
  ⟨PF.of_prel (enc := c_prelaw8_same) (f := fun a => prelaw8_same a.1 a.2) (e := e_prelaw8_same) (a := (a0, a1)) hl H, PF.of_vall (enc := c_prelaw8_same) (f := fun a => prelaw8_same a.1 a.2) (e := e_prelaw8_same) (a := (a0, a1)) c_prelaw8_same_inj hl H⟩
noncomputable def preref1_SameToken_b3 (a0 : Token) (a1 : Token) : (Int × Int) → Option ((Int × Int) ⊕ Bool)
  | (x4, x5) => if (ltI x5 x4) = true then if (0 : Int) ≤ x5 ∧ x5.toNat < a0.Calls.length then if (0 : Int) ≤ x5 ∧ x5.toNat < a1.Calls.length then if (!(eqS ((a0.Calls.getD x5.toNat default).Name) ((a1.Calls.getD x5.toNat default).Name) && (eqI ((a0.Calls.getD x5.toNat default).File) ((a1.Calls.getD x5.toNat default).File) && (eqI ((a0.Calls.getD x5.toNat default).At) ((a1.Calls.getD x5.toNat default).At))))) = true then inrO (some false) else some (.inl (x4, IntKind.i64.wrap (x5 + 1))) else none else none else inrO (some true)
noncomputable def preref1_SameToken_b2 (a0 : Token) (a1 : Token) : (Int × Int) → Option ((Int × Int) ⊕ Bool)
  | (x2, x3) => if (ltI x3 x2) = true then if (0 : Int) ≤ x3 ∧ x3.toNat < a0.Hide.length then if (0 : Int) ≤ x3 ∧ x3.toNat < a1.Hide.length then if (!eqS (a0.Hide.getD x3.toNat default) (a1.Hide.getD x3.toNat default)) = true then inrO (some false) else some (.inl (x2, IntKind.i64.wrap (x3 + 1))) else none else none else inrO (loopO (preref1_SameToken_b3 a0 a1) ((a0.Calls.length : Int), 0))
noncomputable def preref1_SameToken_j1 (a0 : Token) (a1 : Token) : Bool → Option Bool
  | x1 => if x1 = true then some false else loopO (preref1_SameToken_b2 a0 a1) ((a0.Hide.length : Int), 0)
noncomputable def preref1_SameToken (a0 : Token) (a1 : Token) : Option Bool :=
  if (!eqI a0.Kind a1.Kind) = true then preref1_SameToken_j1 a0 a1 true else if (!eqS a0.Text a1.Text) = true then preref1_SameToken_j1 a0 a1 true else if (!eqB a0.Space a1.Space) = true then preref1_SameToken_j1 a0 a1 true else if (!eqB a0.First a1.First) = true then preref1_SameToken_j1 a0 a1 true else if (!eqI a0.File a1.File) = true then preref1_SameToken_j1 a0 a1 true else if (!eqI a0.At a1.At) = true then preref1_SameToken_j1 a0 a1 true else if (!eqI a0.End a1.End) = true then preref1_SameToken_j1 a0 a1 true else if (!eqI a0.Line a1.Line) = true then preref1_SameToken_j1 a0 a1 true else if (!eqI a0.Made a1.Made) = true then preref1_SameToken_j1 a0 a1 true else if (!eqI (a0.Hide.length : Int) (a1.Hide.length : Int)) = true then preref1_SameToken_j1 a0 a1 true else preref1_SameToken_j1 a0 a1 (!eqI (a0.Calls.length : Int) (a1.Calls.length : Int))
def e_preref1_SameToken : Bool → D := fun r => dB r
def c_preref1_SameToken : Token × Token → List D := fun a => [d_Token a.1, d_Token a.2]
theorem c_preref1_SameToken_inj : Inj c_preref1_SameToken := by rintro ⟨a0, a1⟩ ⟨b0, b1⟩ h; simp only [c_preref1_SameToken, List.map_cons, List.map_nil, List.cons.injEq, and_true] at h; obtain ⟨h0, h1⟩ := h; obtain rfl := (d_Token_sinj _ _) h0; obtain rfl := (d_Token_sinj _ _) h1; rfl
noncomputable def pf_preref1_SameToken : PF := PF.of c_preref1_SameToken (fun a => preref1_SameToken a.1 a.2) e_preref1_SameToken
noncomputable def t_preref1_SameToken : Tab := tabOf Try.prog [] []
theorem t_preref1_SameToken_ok : TabOk t_preref1_SameToken := tabOf_ok (by exact trivial) (by exact trivial)
theorem y_preref1_SameToken : (((((((type_of% @Try.underlying4) ∧ (type_of% @tAgg_3)) ∧ ((type_of% @tAgg_34) ∧ (type_of% @tAgg_35))) ∧ (((type_of% @tAgg_4) ∧ (type_of% @tAgg_44)) ∧ ((type_of% @tAgg_9) ∧ ((type_of% @tBytes_44) ∧ (type_of% @tBytes_9))))) ∧ ((((type_of% @tCS_3) ∧ (type_of% @tCS_34)) ∧ ((type_of% @tCS_35) ∧ (type_of% @tCS_4))) ∧ (((type_of% @tCS_44) ∧ (type_of% @tCS_9)) ∧ ((type_of% @tElem_34) ∧ ((type_of% @tElem_35) ∧ (type_of% @tFlat_44)))))) ∧ (((((type_of% @tFld_37_0) ∧ (type_of% @tFld_37_1)) ∧ ((type_of% @tFld_37_10) ∧ (type_of% @tFld_37_2))) ∧ (((type_of% @tFld_37_3) ∧ (type_of% @tFld_37_4)) ∧ ((type_of% @tFld_37_5) ∧ ((type_of% @tFld_37_6) ∧ (type_of% @tFld_37_7))))) ∧ ((((type_of% @tFld_37_8) ∧ (type_of% @tFld_37_9)) ∧ ((type_of% @tKinds_44) ∧ ((type_of% @tKnown_3) ∧ (type_of% @tKnown_34)))) ∧ (((type_of% @tKnown_35) ∧ (type_of% @tKnown_4)) ∧ ((type_of% @tKnown_44) ∧ ((type_of% @tKnown_9) ∧ (type_of% @tOff_37_0))))))) ∧ ((((((type_of% @tOff_37_1) ∧ (type_of% @tOff_37_10)) ∧ ((type_of% @tOff_37_2) ∧ (type_of% @tOff_37_3))) ∧ (((type_of% @tOff_37_4) ∧ (type_of% @tOff_37_5)) ∧ ((type_of% @tOff_37_6) ∧ ((type_of% @tOff_37_7) ∧ (type_of% @tOff_37_8))))) ∧ ((((type_of% @tOff_37_9) ∧ (type_of% @tSize_3)) ∧ ((type_of% @tSize_34) ∧ ((type_of% @tSize_35) ∧ (type_of% @tSize_4)))) ∧ (((type_of% @tSize_44) ∧ (type_of% @tSize_9)) ∧ ((type_of% @tSlice_34) ∧ ((type_of% @tSlice_35) ∧ (type_of% @tStruct_37_0)))))) ∧ (((((type_of% @tStruct_37_1) ∧ (type_of% @tStruct_37_10)) ∧ ((type_of% @tStruct_37_2) ∧ (type_of% @tStruct_37_3))) ∧ (((type_of% @tStruct_37_4) ∧ (type_of% @tStruct_37_5)) ∧ ((type_of% @tStruct_37_6) ∧ ((type_of% @tStruct_37_7) ∧ (type_of% @tStruct_37_8))))) ∧ ((((type_of% @tStruct_37_9) ∧ (type_of% @tZ_44)) ∧ ((type_of% @tZ_9) ∧ ((type_of% @tZok_44) ∧ (type_of% @tZok_9)))) ∧ (((type_of% @d_Call.eq_1) ∧ (type_of% @d_Token.eq_1)) ∧ ((type_of% @t_preref1_SameToken.eq_1) ∧ ((type_of% @c_preref1_SameToken.eq_1) ∧ (type_of% @e_preref1_SameToken.eq_1)))))))) := ⟨⟨⟨⟨⟨⟨@Try.underlying4, @tAgg_3⟩, ⟨@tAgg_34, @tAgg_35⟩⟩, ⟨⟨@tAgg_4, @tAgg_44⟩, ⟨@tAgg_9, ⟨@tBytes_44, @tBytes_9⟩⟩⟩⟩, ⟨⟨⟨@tCS_3, @tCS_34⟩, ⟨@tCS_35, @tCS_4⟩⟩, ⟨⟨@tCS_44, @tCS_9⟩, ⟨@tElem_34, ⟨@tElem_35, @tFlat_44⟩⟩⟩⟩⟩, ⟨⟨⟨⟨@tFld_37_0, @tFld_37_1⟩, ⟨@tFld_37_10, @tFld_37_2⟩⟩, ⟨⟨@tFld_37_3, @tFld_37_4⟩, ⟨@tFld_37_5, ⟨@tFld_37_6, @tFld_37_7⟩⟩⟩⟩, ⟨⟨⟨@tFld_37_8, @tFld_37_9⟩, ⟨@tKinds_44, ⟨@tKnown_3, @tKnown_34⟩⟩⟩, ⟨⟨@tKnown_35, @tKnown_4⟩, ⟨@tKnown_44, ⟨@tKnown_9, @tOff_37_0⟩⟩⟩⟩⟩⟩, ⟨⟨⟨⟨⟨@tOff_37_1, @tOff_37_10⟩, ⟨@tOff_37_2, @tOff_37_3⟩⟩, ⟨⟨@tOff_37_4, @tOff_37_5⟩, ⟨@tOff_37_6, ⟨@tOff_37_7, @tOff_37_8⟩⟩⟩⟩, ⟨⟨⟨@tOff_37_9, @tSize_3⟩, ⟨@tSize_34, ⟨@tSize_35, @tSize_4⟩⟩⟩, ⟨⟨@tSize_44, @tSize_9⟩, ⟨@tSlice_34, ⟨@tSlice_35, @tStruct_37_0⟩⟩⟩⟩⟩, ⟨⟨⟨⟨@tStruct_37_1, @tStruct_37_10⟩, ⟨@tStruct_37_2, @tStruct_37_3⟩⟩, ⟨⟨@tStruct_37_4, @tStruct_37_5⟩, ⟨@tStruct_37_6, ⟨@tStruct_37_7, @tStruct_37_8⟩⟩⟩⟩, ⟨⟨⟨@tStruct_37_9, @tZ_44⟩, ⟨@tZ_9, ⟨@tZok_44, @tZok_9⟩⟩⟩, ⟨⟨@d_Call.eq_1, @d_Token.eq_1⟩, ⟨@t_preref1_SameToken.eq_1, ⟨@c_preref1_SameToken.eq_1, @e_preref1_SameToken.eq_1⟩⟩⟩⟩⟩⟩⟩
set_option maxRecDepth 100000 in
set_option maxHeartbeats 4000000 in
theorem preref1_SameToken_ok : PureOk Try.prog 66 pf_preref1_SameToken := by
  refine pure_of (t := t_preref1_SameToken) (pure := fun n => [].contains n) c_preref1_SameToken_inj rfl t_preref1_SameToken_ok mixed (fun n hn => tabOf_pure rfl n hn) Try.func66 rfl (by kernel_rfl) (fun a => by simp [c_preref1_SameToken, Try.ntmps66]) ?_
  rintro ⟨a0, a1⟩ out H
  simp only [preref1_SameToken] at H
  show aC _ _ (sig0 (List.map (fun d => AV.c (C.d d)) (c_preref1_SameToken (a0, a1)))) _ _
  refine w_seq ?_
  refine w_region rfl (fun K hK => ?_)
  simp -implicitDefEqProofs only [goR, ↓upd_at, if_true, if_false, reduceCtorEq, ↓reduceIte, Nat.reduceEqDiff, Nat.reduceAdd, Nat.reduceSub, Nat.reduceMul, Nat.reduceBEq, Nat.reduceLT, Nat.reduceLeDiff, Int.reduceToNat, Int.reduceLE, Int.reduceLT, Int.reduceEq, Int.reduceNeg, ← List.map_drop, ← List.map_take, UInt8.reduceToNat, true_implies, implies_true, List.append_eq, y_preref1_SameToken]
  (repeat' (first | ((with_reducible refine hK _ _ ?_); clear hK K) | (with_reducible apply And.intro) | (exact trivial) | (clear hK K; assumption) | (clear hK K; omega)))
  refine then_normal ?_
  refine w_seq ?_
  refine w_cut (preref1_SameToken_j1 a0 a1) (fun s => [(2, .c (.pt 1 0)), (3, .c (.pt 2 0)), (85, .c (.d (.v (.bool s))))]) (fun s => [[.d (.v (.int .i64 a0.Kind)), .d (.v (str a0.Text)), .d (.v (.bool a0.Space)), .d (.v (.bool a0.First)), .d (.v (.int .i64 a0.File)), .d (.v (.int .i64 a0.At)), .d (.v (.int .i64 a0.End)), .d (.v (.int .i64 a0.Line)), .d (.sl 1 (List.map dS a0.Hide)), .d (.sl 3 (List.map d_Call a0.Calls)), .d (.v (.int .i64 a0.Made))], [.d (.v (.int .i64 a1.Kind)), .d (.v (str a1.Text)), .d (.v (.bool a1.Space)), .d (.v (.bool a1.First)), .d (.v (.int .i64 a1.File)), .d (.v (.int .i64 a1.At)), .d (.v (.int .i64 a1.End)), .d (.v (.int .i64 a1.Line)), .d (.sl 1 (List.map dS a1.Hide)), .d (.sl 3 (List.map d_Call a1.Calls)), .d (.v (.int .i64 a1.Made))]]) [] out ?_ ?_
  · rcases bsplit H with ⟨hp6, H⟩ | ⟨hp6, H⟩
    · try simp -implicitDefEqProofs only [goR, ↓upd_at, if_true, if_false, reduceCtorEq, ↓reduceIte, Nat.reduceEqDiff, Nat.reduceAdd, Nat.reduceSub, Nat.reduceMul, Nat.reduceBEq, Nat.reduceLT, Nat.reduceLeDiff, Int.reduceToNat, Int.reduceLE, Int.reduceLT, Int.reduceEq, Int.reduceNeg, ← List.map_drop, ← List.map_take, UInt8.reduceToNat, true_implies, implies_true, List.append_eq, y_preref1_SameToken] at hp6
      have hq6 := hp6
      try simp only [goT] at hq6
      refine w_region rfl (fun K hK => ?_)
      simp -implicitDefEqProofs only [goR, ↓upd_at, if_true, if_false, reduceCtorEq, ↓reduceIte, Nat.reduceEqDiff, Nat.reduceAdd, Nat.reduceSub, Nat.reduceMul, Nat.reduceBEq, Nat.reduceLT, Nat.reduceLeDiff, Int.reduceToNat, Int.reduceLE, Int.reduceLT, Int.reduceEq, Int.reduceNeg, ← List.map_drop, ← List.map_take, UInt8.reduceToNat, true_implies, implies_true, List.append_eq, y_preref1_SameToken, hp6]
      (repeat' (first | ((with_reducible refine hK _ _ ?_); clear hK K) | (with_reducible apply And.intro) | (exact trivial) | (clear hK K; assumption) | (clear hK K; omega)))
      refine cut_at H ?_
      exact wk_ren ⟨[1, 2], []⟩ rfl rfl rfl rfl rfl (by simp -implicitDefEqProofs only [goW, goR, ↓upd_at, if_true, if_false, reduceCtorEq, ↓reduceIte, Nat.reduceEqDiff, Nat.reduceAdd, Nat.reduceSub, Nat.reduceMul, Nat.reduceBEq, Nat.reduceLT, Nat.reduceLeDiff, Int.reduceToNat, Int.reduceLE, Int.reduceLT, Int.reduceEq, Int.reduceNeg, ← List.map_drop, ← List.map_take, UInt8.reduceToNat, true_implies, implies_true, List.append_eq, y_preref1_SameToken]) (by simp -implicitDefEqProofs only [goW, goR, ↓upd_at, if_true, if_false, reduceCtorEq, ↓reduceIte, Nat.reduceEqDiff, Nat.reduceAdd, Nat.reduceSub, Nat.reduceMul, Nat.reduceBEq, Nat.reduceLT, Nat.reduceLeDiff, Int.reduceToNat, Int.reduceLE, Int.reduceLT, Int.reduceEq, Int.reduceNeg, ← List.map_drop, ← List.map_take, UInt8.reduceToNat, true_implies, implies_true, List.append_eq, y_preref1_SameToken]) (by simp -implicitDefEqProofs only [goW, goR, ↓upd_at, if_true, if_false, reduceCtorEq, ↓reduceIte, Nat.reduceEqDiff, Nat.reduceAdd, Nat.reduceSub, Nat.reduceMul, Nat.reduceBEq, Nat.reduceLT, Nat.reduceLeDiff, Int.reduceToNat, Int.reduceLE, Int.reduceLT, Int.reduceEq, Int.reduceNeg, ← List.map_drop, ← List.map_take, UInt8.reduceToNat, true_implies, implies_true, List.append_eq, y_preref1_SameToken]) rfl
    · try simp -implicitDefEqProofs only [goR, ↓upd_at, if_true, if_false, reduceCtorEq, ↓reduceIte, Nat.reduceEqDiff, Nat.reduceAdd, Nat.reduceSub, Nat.reduceMul, Nat.reduceBEq, Nat.reduceLT, Nat.reduceLeDiff, Int.reduceToNat, Int.reduceLE, Int.reduceLT, Int.reduceEq, Int.reduceNeg, ← List.map_drop, ← List.map_take, UInt8.reduceToNat, true_implies, implies_true, List.append_eq, y_preref1_SameToken] at hp6
      have hq6 := hp6
      try simp only [goT] at hq6
      rcases bsplit H with ⟨hp7, H⟩ | ⟨hp7, H⟩
      · try simp -implicitDefEqProofs only [goR, ↓upd_at, if_true, if_false, reduceCtorEq, ↓reduceIte, Nat.reduceEqDiff, Nat.reduceAdd, Nat.reduceSub, Nat.reduceMul, Nat.reduceBEq, Nat.reduceLT, Nat.reduceLeDiff, Int.reduceToNat, Int.reduceLE, Int.reduceLT, Int.reduceEq, Int.reduceNeg, ← List.map_drop, ← List.map_take, UInt8.reduceToNat, true_implies, implies_true, List.append_eq, y_preref1_SameToken] at hp7
        have hq7 := hp7
        try simp only [goT] at hq7
        refine w_region rfl (fun K hK => ?_)
        simp -implicitDefEqProofs only [goR, ↓upd_at, if_true, if_false, reduceCtorEq, ↓reduceIte, Nat.reduceEqDiff, Nat.reduceAdd, Nat.reduceSub, Nat.reduceMul, Nat.reduceBEq, Nat.reduceLT, Nat.reduceLeDiff, Int.reduceToNat, Int.reduceLE, Int.reduceLT, Int.reduceEq, Int.reduceNeg, ← List.map_drop, ← List.map_take, UInt8.reduceToNat, true_implies, implies_true, List.append_eq, y_preref1_SameToken, hp6, hp7]
        (repeat' (first | ((with_reducible refine hK _ _ ?_); clear hK K) | (with_reducible apply And.intro) | (exact trivial) | (clear hK K; assumption) | (clear hK K; omega)))
        refine cut_at H ?_
        exact wk_ren ⟨[1, 2], []⟩ rfl rfl rfl rfl rfl (by simp -implicitDefEqProofs only [goW, goR, ↓upd_at, if_true, if_false, reduceCtorEq, ↓reduceIte, Nat.reduceEqDiff, Nat.reduceAdd, Nat.reduceSub, Nat.reduceMul, Nat.reduceBEq, Nat.reduceLT, Nat.reduceLeDiff, Int.reduceToNat, Int.reduceLE, Int.reduceLT, Int.reduceEq, Int.reduceNeg, ← List.map_drop, ← List.map_take, UInt8.reduceToNat, true_implies, implies_true, List.append_eq, y_preref1_SameToken]) (by simp -implicitDefEqProofs only [goW, goR, ↓upd_at, if_true, if_false, reduceCtorEq, ↓reduceIte, Nat.reduceEqDiff, Nat.reduceAdd, Nat.reduceSub, Nat.reduceMul, Nat.reduceBEq, Nat.reduceLT, Nat.reduceLeDiff, Int.reduceToNat, Int.reduceLE, Int.reduceLT, Int.reduceEq, Int.reduceNeg, ← List.map_drop, ← List.map_take, UInt8.reduceToNat, true_implies, implies_true, List.append_eq, y_preref1_SameToken]) (by simp -implicitDefEqProofs only [goW, goR, ↓upd_at, if_true, if_false, reduceCtorEq, ↓reduceIte, Nat.reduceEqDiff, Nat.reduceAdd, Nat.reduceSub, Nat.reduceMul, Nat.reduceBEq, Nat.reduceLT, Nat.reduceLeDiff, Int.reduceToNat, Int.reduceLE, Int.reduceLT, Int.reduceEq, Int.reduceNeg, ← List.map_drop, ← List.map_take, UInt8.reduceToNat, true_implies, implies_true, List.append_eq, y_preref1_SameToken]) rfl
      · try simp -implicitDefEqProofs only [goR, ↓upd_at, if_true, if_false, reduceCtorEq, ↓reduceIte, Nat.reduceEqDiff, Nat.reduceAdd, Nat.reduceSub, Nat.reduceMul, Nat.reduceBEq, Nat.reduceLT, Nat.reduceLeDiff, Int.reduceToNat, Int.reduceLE, Int.reduceLT, Int.reduceEq, Int.reduceNeg, ← List.map_drop, ← List.map_take, UInt8.reduceToNat, true_implies, implies_true, List.append_eq, y_preref1_SameToken] at hp7
        have hq7 := hp7
        try simp only [goT] at hq7
        rcases bsplit H with ⟨hp8, H⟩ | ⟨hp8, H⟩
        · try simp -implicitDefEqProofs only [goR, ↓upd_at, if_true, if_false, reduceCtorEq, ↓reduceIte, Nat.reduceEqDiff, Nat.reduceAdd, Nat.reduceSub, Nat.reduceMul, Nat.reduceBEq, Nat.reduceLT, Nat.reduceLeDiff, Int.reduceToNat, Int.reduceLE, Int.reduceLT, Int.reduceEq, Int.reduceNeg, ← List.map_drop, ← List.map_take, UInt8.reduceToNat, true_implies, implies_true, List.append_eq, y_preref1_SameToken] at hp8
          have hq8 := hp8
          try simp only [goT] at hq8
          refine w_region rfl (fun K hK => ?_)
          simp -implicitDefEqProofs only [goR, ↓upd_at, if_true, if_false, reduceCtorEq, ↓reduceIte, Nat.reduceEqDiff, Nat.reduceAdd, Nat.reduceSub, Nat.reduceMul, Nat.reduceBEq, Nat.reduceLT, Nat.reduceLeDiff, Int.reduceToNat, Int.reduceLE, Int.reduceLT, Int.reduceEq, Int.reduceNeg, ← List.map_drop, ← List.map_take, UInt8.reduceToNat, true_implies, implies_true, List.append_eq, y_preref1_SameToken, hp6, hp7, hp8]
          (repeat' (first | ((with_reducible refine hK _ _ ?_); clear hK K) | (with_reducible apply And.intro) | (exact trivial) | (clear hK K; assumption) | (clear hK K; omega)))
          refine cut_at H ?_
          exact wk_ren ⟨[1, 2], []⟩ rfl rfl rfl rfl rfl (by simp -implicitDefEqProofs only [goW, goR, ↓upd_at, if_true, if_false, reduceCtorEq, ↓reduceIte, Nat.reduceEqDiff, Nat.reduceAdd, Nat.reduceSub, Nat.reduceMul, Nat.reduceBEq, Nat.reduceLT, Nat.reduceLeDiff, Int.reduceToNat, Int.reduceLE, Int.reduceLT, Int.reduceEq, Int.reduceNeg, ← List.map_drop, ← List.map_take, UInt8.reduceToNat, true_implies, implies_true, List.append_eq, y_preref1_SameToken]) (by simp -implicitDefEqProofs only [goW, goR, ↓upd_at, if_true, if_false, reduceCtorEq, ↓reduceIte, Nat.reduceEqDiff, Nat.reduceAdd, Nat.reduceSub, Nat.reduceMul, Nat.reduceBEq, Nat.reduceLT, Nat.reduceLeDiff, Int.reduceToNat, Int.reduceLE, Int.reduceLT, Int.reduceEq, Int.reduceNeg, ← List.map_drop, ← List.map_take, UInt8.reduceToNat, true_implies, implies_true, List.append_eq, y_preref1_SameToken]) (by simp -implicitDefEqProofs only [goW, goR, ↓upd_at, if_true, if_false, reduceCtorEq, ↓reduceIte, Nat.reduceEqDiff, Nat.reduceAdd, Nat.reduceSub, Nat.reduceMul, Nat.reduceBEq, Nat.reduceLT, Nat.reduceLeDiff, Int.reduceToNat, Int.reduceLE, Int.reduceLT, Int.reduceEq, Int.reduceNeg, ← List.map_drop, ← List.map_take, UInt8.reduceToNat, true_implies, implies_true, List.append_eq, y_preref1_SameToken]) rfl
        · try simp -implicitDefEqProofs only [goR, ↓upd_at, if_true, if_false, reduceCtorEq, ↓reduceIte, Nat.reduceEqDiff, Nat.reduceAdd, Nat.reduceSub, Nat.reduceMul, Nat.reduceBEq, Nat.reduceLT, Nat.reduceLeDiff, Int.reduceToNat, Int.reduceLE, Int.reduceLT, Int.reduceEq, Int.reduceNeg, ← List.map_drop, ← List.map_take, UInt8.reduceToNat, true_implies, implies_true, List.append_eq, y_preref1_SameToken] at hp8
          have hq8 := hp8
          try simp only [goT] at hq8
          rcases bsplit H with ⟨hp9, H⟩ | ⟨hp9, H⟩
          · try simp -implicitDefEqProofs only [goR, ↓upd_at, if_true, if_false, reduceCtorEq, ↓reduceIte, Nat.reduceEqDiff, Nat.reduceAdd, Nat.reduceSub, Nat.reduceMul, Nat.reduceBEq, Nat.reduceLT, Nat.reduceLeDiff, Int.reduceToNat, Int.reduceLE, Int.reduceLT, Int.reduceEq, Int.reduceNeg, ← List.map_drop, ← List.map_take, UInt8.reduceToNat, true_implies, implies_true, List.append_eq, y_preref1_SameToken] at hp9
            have hq9 := hp9
            try simp only [goT] at hq9
            refine w_region rfl (fun K hK => ?_)
            simp -implicitDefEqProofs only [goR, ↓upd_at, if_true, if_false, reduceCtorEq, ↓reduceIte, Nat.reduceEqDiff, Nat.reduceAdd, Nat.reduceSub, Nat.reduceMul, Nat.reduceBEq, Nat.reduceLT, Nat.reduceLeDiff, Int.reduceToNat, Int.reduceLE, Int.reduceLT, Int.reduceEq, Int.reduceNeg, ← List.map_drop, ← List.map_take, UInt8.reduceToNat, true_implies, implies_true, List.append_eq, y_preref1_SameToken, hp6, hp7, hp8, hp9]
            (repeat' (first | ((with_reducible refine hK _ _ ?_); clear hK K) | (with_reducible apply And.intro) | (exact trivial) | (clear hK K; assumption) | (clear hK K; omega)))
            refine cut_at H ?_
            exact wk_ren ⟨[1, 2], []⟩ rfl rfl rfl rfl rfl (by simp -implicitDefEqProofs only [goW, goR, ↓upd_at, if_true, if_false, reduceCtorEq, ↓reduceIte, Nat.reduceEqDiff, Nat.reduceAdd, Nat.reduceSub, Nat.reduceMul, Nat.reduceBEq, Nat.reduceLT, Nat.reduceLeDiff, Int.reduceToNat, Int.reduceLE, Int.reduceLT, Int.reduceEq, Int.reduceNeg, ← List.map_drop, ← List.map_take, UInt8.reduceToNat, true_implies, implies_true, List.append_eq, y_preref1_SameToken]) (by simp -implicitDefEqProofs only [goW, goR, ↓upd_at, if_true, if_false, reduceCtorEq, ↓reduceIte, Nat.reduceEqDiff, Nat.reduceAdd, Nat.reduceSub, Nat.reduceMul, Nat.reduceBEq, Nat.reduceLT, Nat.reduceLeDiff, Int.reduceToNat, Int.reduceLE, Int.reduceLT, Int.reduceEq, Int.reduceNeg, ← List.map_drop, ← List.map_take, UInt8.reduceToNat, true_implies, implies_true, List.append_eq, y_preref1_SameToken]) (by simp -implicitDefEqProofs only [goW, goR, ↓upd_at, if_true, if_false, reduceCtorEq, ↓reduceIte, Nat.reduceEqDiff, Nat.reduceAdd, Nat.reduceSub, Nat.reduceMul, Nat.reduceBEq, Nat.reduceLT, Nat.reduceLeDiff, Int.reduceToNat, Int.reduceLE, Int.reduceLT, Int.reduceEq, Int.reduceNeg, ← List.map_drop, ← List.map_take, UInt8.reduceToNat, true_implies, implies_true, List.append_eq, y_preref1_SameToken]) rfl
          · try simp -implicitDefEqProofs only [goR, ↓upd_at, if_true, if_false, reduceCtorEq, ↓reduceIte, Nat.reduceEqDiff, Nat.reduceAdd, Nat.reduceSub, Nat.reduceMul, Nat.reduceBEq, Nat.reduceLT, Nat.reduceLeDiff, Int.reduceToNat, Int.reduceLE, Int.reduceLT, Int.reduceEq, Int.reduceNeg, ← List.map_drop, ← List.map_take, UInt8.reduceToNat, true_implies, implies_true, List.append_eq, y_preref1_SameToken] at hp9
            have hq9 := hp9
            try simp only [goT] at hq9
            rcases bsplit H with ⟨hp10, H⟩ | ⟨hp10, H⟩
            · try simp -implicitDefEqProofs only [goR, ↓upd_at, if_true, if_false, reduceCtorEq, ↓reduceIte, Nat.reduceEqDiff, Nat.reduceAdd, Nat.reduceSub, Nat.reduceMul, Nat.reduceBEq, Nat.reduceLT, Nat.reduceLeDiff, Int.reduceToNat, Int.reduceLE, Int.reduceLT, Int.reduceEq, Int.reduceNeg, ← List.map_drop, ← List.map_take, UInt8.reduceToNat, true_implies, implies_true, List.append_eq, y_preref1_SameToken] at hp10
              have hq10 := hp10
              try simp only [goT] at hq10
              refine w_region rfl (fun K hK => ?_)
              simp -implicitDefEqProofs only [goR, ↓upd_at, if_true, if_false, reduceCtorEq, ↓reduceIte, Nat.reduceEqDiff, Nat.reduceAdd, Nat.reduceSub, Nat.reduceMul, Nat.reduceBEq, Nat.reduceLT, Nat.reduceLeDiff, Int.reduceToNat, Int.reduceLE, Int.reduceLT, Int.reduceEq, Int.reduceNeg, ← List.map_drop, ← List.map_take, UInt8.reduceToNat, true_implies, implies_true, List.append_eq, y_preref1_SameToken, hp6, hp7, hp8, hp9, hp10]
              (repeat' (first | ((with_reducible refine hK _ _ ?_); clear hK K) | (with_reducible apply And.intro) | (exact trivial) | (clear hK K; assumption) | (clear hK K; omega)))
              refine cut_at H ?_
              exact wk_ren ⟨[1, 2], []⟩ rfl rfl rfl rfl rfl (by simp -implicitDefEqProofs only [goW, goR, ↓upd_at, if_true, if_false, reduceCtorEq, ↓reduceIte, Nat.reduceEqDiff, Nat.reduceAdd, Nat.reduceSub, Nat.reduceMul, Nat.reduceBEq, Nat.reduceLT, Nat.reduceLeDiff, Int.reduceToNat, Int.reduceLE, Int.reduceLT, Int.reduceEq, Int.reduceNeg, ← List.map_drop, ← List.map_take, UInt8.reduceToNat, true_implies, implies_true, List.append_eq, y_preref1_SameToken]) (by simp -implicitDefEqProofs only [goW, goR, ↓upd_at, if_true, if_false, reduceCtorEq, ↓reduceIte, Nat.reduceEqDiff, Nat.reduceAdd, Nat.reduceSub, Nat.reduceMul, Nat.reduceBEq, Nat.reduceLT, Nat.reduceLeDiff, Int.reduceToNat, Int.reduceLE, Int.reduceLT, Int.reduceEq, Int.reduceNeg, ← List.map_drop, ← List.map_take, UInt8.reduceToNat, true_implies, implies_true, List.append_eq, y_preref1_SameToken]) (by simp -implicitDefEqProofs only [goW, goR, ↓upd_at, if_true, if_false, reduceCtorEq, ↓reduceIte, Nat.reduceEqDiff, Nat.reduceAdd, Nat.reduceSub, Nat.reduceMul, Nat.reduceBEq, Nat.reduceLT, Nat.reduceLeDiff, Int.reduceToNat, Int.reduceLE, Int.reduceLT, Int.reduceEq, Int.reduceNeg, ← List.map_drop, ← List.map_take, UInt8.reduceToNat, true_implies, implies_true, List.append_eq, y_preref1_SameToken]) rfl
            · try simp -implicitDefEqProofs only [goR, ↓upd_at, if_true, if_false, reduceCtorEq, ↓reduceIte, Nat.reduceEqDiff, Nat.reduceAdd, Nat.reduceSub, Nat.reduceMul, Nat.reduceBEq, Nat.reduceLT, Nat.reduceLeDiff, Int.reduceToNat, Int.reduceLE, Int.reduceLT, Int.reduceEq, Int.reduceNeg, ← List.map_drop, ← List.map_take, UInt8.reduceToNat, true_implies, implies_true, List.append_eq, y_preref1_SameToken] at hp10
              have hq10 := hp10
              try simp only [goT] at hq10
              rcases bsplit H with ⟨hp11, H⟩ | ⟨hp11, H⟩
              · try simp -implicitDefEqProofs only [goR, ↓upd_at, if_true, if_false, reduceCtorEq, ↓reduceIte, Nat.reduceEqDiff, Nat.reduceAdd, Nat.reduceSub, Nat.reduceMul, Nat.reduceBEq, Nat.reduceLT, Nat.reduceLeDiff, Int.reduceToNat, Int.reduceLE, Int.reduceLT, Int.reduceEq, Int.reduceNeg, ← List.map_drop, ← List.map_take, UInt8.reduceToNat, true_implies, implies_true, List.append_eq, y_preref1_SameToken] at hp11
                have hq11 := hp11
                try simp only [goT] at hq11
                refine w_region rfl (fun K hK => ?_)
                simp -implicitDefEqProofs only [goR, ↓upd_at, if_true, if_false, reduceCtorEq, ↓reduceIte, Nat.reduceEqDiff, Nat.reduceAdd, Nat.reduceSub, Nat.reduceMul, Nat.reduceBEq, Nat.reduceLT, Nat.reduceLeDiff, Int.reduceToNat, Int.reduceLE, Int.reduceLT, Int.reduceEq, Int.reduceNeg, ← List.map_drop, ← List.map_take, UInt8.reduceToNat, true_implies, implies_true, List.append_eq, y_preref1_SameToken, hp6, hp7, hp8, hp9, hp10, hp11]
                (repeat' (first | ((with_reducible refine hK _ _ ?_); clear hK K) | (with_reducible apply And.intro) | (exact trivial) | (clear hK K; assumption) | (clear hK K; omega)))
                refine cut_at H ?_
                exact wk_ren ⟨[1, 2], []⟩ rfl rfl rfl rfl rfl (by simp -implicitDefEqProofs only [goW, goR, ↓upd_at, if_true, if_false, reduceCtorEq, ↓reduceIte, Nat.reduceEqDiff, Nat.reduceAdd, Nat.reduceSub, Nat.reduceMul, Nat.reduceBEq, Nat.reduceLT, Nat.reduceLeDiff, Int.reduceToNat, Int.reduceLE, Int.reduceLT, Int.reduceEq, Int.reduceNeg, ← List.map_drop, ← List.map_take, UInt8.reduceToNat, true_implies, implies_true, List.append_eq, y_preref1_SameToken]) (by simp -implicitDefEqProofs only [goW, goR, ↓upd_at, if_true, if_false, reduceCtorEq, ↓reduceIte, Nat.reduceEqDiff, Nat.reduceAdd, Nat.reduceSub, Nat.reduceMul, Nat.reduceBEq, Nat.reduceLT, Nat.reduceLeDiff, Int.reduceToNat, Int.reduceLE, Int.reduceLT, Int.reduceEq, Int.reduceNeg, ← List.map_drop, ← List.map_take, UInt8.reduceToNat, true_implies, implies_true, List.append_eq, y_preref1_SameToken]) (by simp -implicitDefEqProofs only [goW, goR, ↓upd_at, if_true, if_false, reduceCtorEq, ↓reduceIte, Nat.reduceEqDiff, Nat.reduceAdd, Nat.reduceSub, Nat.reduceMul, Nat.reduceBEq, Nat.reduceLT, Nat.reduceLeDiff, Int.reduceToNat, Int.reduceLE, Int.reduceLT, Int.reduceEq, Int.reduceNeg, ← List.map_drop, ← List.map_take, UInt8.reduceToNat, true_implies, implies_true, List.append_eq, y_preref1_SameToken]) rfl
              · try simp -implicitDefEqProofs only [goR, ↓upd_at, if_true, if_false, reduceCtorEq, ↓reduceIte, Nat.reduceEqDiff, Nat.reduceAdd, Nat.reduceSub, Nat.reduceMul, Nat.reduceBEq, Nat.reduceLT, Nat.reduceLeDiff, Int.reduceToNat, Int.reduceLE, Int.reduceLT, Int.reduceEq, Int.reduceNeg, ← List.map_drop, ← List.map_take, UInt8.reduceToNat, true_implies, implies_true, List.append_eq, y_preref1_SameToken] at hp11
                have hq11 := hp11
                try simp only [goT] at hq11
                rcases bsplit H with ⟨hp12, H⟩ | ⟨hp12, H⟩
                · try simp -implicitDefEqProofs only [goR, ↓upd_at, if_true, if_false, reduceCtorEq, ↓reduceIte, Nat.reduceEqDiff, Nat.reduceAdd, Nat.reduceSub, Nat.reduceMul, Nat.reduceBEq, Nat.reduceLT, Nat.reduceLeDiff, Int.reduceToNat, Int.reduceLE, Int.reduceLT, Int.reduceEq, Int.reduceNeg, ← List.map_drop, ← List.map_take, UInt8.reduceToNat, true_implies, implies_true, List.append_eq, y_preref1_SameToken] at hp12
                  have hq12 := hp12
                  try simp only [goT] at hq12
                  refine w_region rfl (fun K hK => ?_)
                  simp -implicitDefEqProofs only [goR, ↓upd_at, if_true, if_false, reduceCtorEq, ↓reduceIte, Nat.reduceEqDiff, Nat.reduceAdd, Nat.reduceSub, Nat.reduceMul, Nat.reduceBEq, Nat.reduceLT, Nat.reduceLeDiff, Int.reduceToNat, Int.reduceLE, Int.reduceLT, Int.reduceEq, Int.reduceNeg, ← List.map_drop, ← List.map_take, UInt8.reduceToNat, true_implies, implies_true, List.append_eq, y_preref1_SameToken, hp6, hp7, hp8, hp9, hp10, hp11, hp12]
                  (repeat' (first | ((with_reducible refine hK _ _ ?_); clear hK K) | (with_reducible apply And.intro) | (exact trivial) | (clear hK K; assumption) | (clear hK K; omega)))
                  refine cut_at H ?_
                  exact wk_ren ⟨[1, 2], []⟩ rfl rfl rfl rfl rfl (by simp -implicitDefEqProofs only [goW, goR, ↓upd_at, if_true, if_false, reduceCtorEq, ↓reduceIte, Nat.reduceEqDiff, Nat.reduceAdd, Nat.reduceSub, Nat.reduceMul, Nat.reduceBEq, Nat.reduceLT, Nat.reduceLeDiff, Int.reduceToNat, Int.reduceLE, Int.reduceLT, Int.reduceEq, Int.reduceNeg, ← List.map_drop, ← List.map_take, UInt8.reduceToNat, true_implies, implies_true, List.append_eq, y_preref1_SameToken]) (by simp -implicitDefEqProofs only [goW, goR, ↓upd_at, if_true, if_false, reduceCtorEq, ↓reduceIte, Nat.reduceEqDiff, Nat.reduceAdd, Nat.reduceSub, Nat.reduceMul, Nat.reduceBEq, Nat.reduceLT, Nat.reduceLeDiff, Int.reduceToNat, Int.reduceLE, Int.reduceLT, Int.reduceEq, Int.reduceNeg, ← List.map_drop, ← List.map_take, UInt8.reduceToNat, true_implies, implies_true, List.append_eq, y_preref1_SameToken]) (by simp -implicitDefEqProofs only [goW, goR, ↓upd_at, if_true, if_false, reduceCtorEq, ↓reduceIte, Nat.reduceEqDiff, Nat.reduceAdd, Nat.reduceSub, Nat.reduceMul, Nat.reduceBEq, Nat.reduceLT, Nat.reduceLeDiff, Int.reduceToNat, Int.reduceLE, Int.reduceLT, Int.reduceEq, Int.reduceNeg, ← List.map_drop, ← List.map_take, UInt8.reduceToNat, true_implies, implies_true, List.append_eq, y_preref1_SameToken]) rfl
                · try simp -implicitDefEqProofs only [goR, ↓upd_at, if_true, if_false, reduceCtorEq, ↓reduceIte, Nat.reduceEqDiff, Nat.reduceAdd, Nat.reduceSub, Nat.reduceMul, Nat.reduceBEq, Nat.reduceLT, Nat.reduceLeDiff, Int.reduceToNat, Int.reduceLE, Int.reduceLT, Int.reduceEq, Int.reduceNeg, ← List.map_drop, ← List.map_take, UInt8.reduceToNat, true_implies, implies_true, List.append_eq, y_preref1_SameToken] at hp12
                  have hq12 := hp12
                  try simp only [goT] at hq12
                  rcases bsplit H with ⟨hp13, H⟩ | ⟨hp13, H⟩
                  · try simp -implicitDefEqProofs only [goR, ↓upd_at, if_true, if_false, reduceCtorEq, ↓reduceIte, Nat.reduceEqDiff, Nat.reduceAdd, Nat.reduceSub, Nat.reduceMul, Nat.reduceBEq, Nat.reduceLT, Nat.reduceLeDiff, Int.reduceToNat, Int.reduceLE, Int.reduceLT, Int.reduceEq, Int.reduceNeg, ← List.map_drop, ← List.map_take, UInt8.reduceToNat, true_implies, implies_true, List.append_eq, y_preref1_SameToken] at hp13
                    have hq13 := hp13
                    try simp only [goT] at hq13
                    refine w_region rfl (fun K hK => ?_)
                    simp -implicitDefEqProofs only [goR, ↓upd_at, if_true, if_false, reduceCtorEq, ↓reduceIte, Nat.reduceEqDiff, Nat.reduceAdd, Nat.reduceSub, Nat.reduceMul, Nat.reduceBEq, Nat.reduceLT, Nat.reduceLeDiff, Int.reduceToNat, Int.reduceLE, Int.reduceLT, Int.reduceEq, Int.reduceNeg, ← List.map_drop, ← List.map_take, UInt8.reduceToNat, true_implies, implies_true, List.append_eq, y_preref1_SameToken, hp6, hp7, hp8, hp9, hp10, hp11, hp12, hp13]
                    (repeat' (first | ((with_reducible refine hK _ _ ?_); clear hK K) | (with_reducible apply And.intro) | (exact trivial) | (clear hK K; assumption) | (clear hK K; omega)))
                    refine cut_at H ?_
                    exact wk_ren ⟨[1, 2], []⟩ rfl rfl rfl rfl rfl (by simp -implicitDefEqProofs only [goW, goR, ↓upd_at, if_true, if_false, reduceCtorEq, ↓reduceIte, Nat.reduceEqDiff, Nat.reduceAdd, Nat.reduceSub, Nat.reduceMul, Nat.reduceBEq, Nat.reduceLT, Nat.reduceLeDiff, Int.reduceToNat, Int.reduceLE, Int.reduceLT, Int.reduceEq, Int.reduceNeg, ← List.map_drop, ← List.map_take, UInt8.reduceToNat, true_implies, implies_true, List.append_eq, y_preref1_SameToken]) (by simp -implicitDefEqProofs only [goW, goR, ↓upd_at, if_true, if_false, reduceCtorEq, ↓reduceIte, Nat.reduceEqDiff, Nat.reduceAdd, Nat.reduceSub, Nat.reduceMul, Nat.reduceBEq, Nat.reduceLT, Nat.reduceLeDiff, Int.reduceToNat, Int.reduceLE, Int.reduceLT, Int.reduceEq, Int.reduceNeg, ← List.map_drop, ← List.map_take, UInt8.reduceToNat, true_implies, implies_true, List.append_eq, y_preref1_SameToken]) (by simp -implicitDefEqProofs only [goW, goR, ↓upd_at, if_true, if_false, reduceCtorEq, ↓reduceIte, Nat.reduceEqDiff, Nat.reduceAdd, Nat.reduceSub, Nat.reduceMul, Nat.reduceBEq, Nat.reduceLT, Nat.reduceLeDiff, Int.reduceToNat, Int.reduceLE, Int.reduceLT, Int.reduceEq, Int.reduceNeg, ← List.map_drop, ← List.map_take, UInt8.reduceToNat, true_implies, implies_true, List.append_eq, y_preref1_SameToken]) rfl
                  · try simp -implicitDefEqProofs only [goR, ↓upd_at, if_true, if_false, reduceCtorEq, ↓reduceIte, Nat.reduceEqDiff, Nat.reduceAdd, Nat.reduceSub, Nat.reduceMul, Nat.reduceBEq, Nat.reduceLT, Nat.reduceLeDiff, Int.reduceToNat, Int.reduceLE, Int.reduceLT, Int.reduceEq, Int.reduceNeg, ← List.map_drop, ← List.map_take, UInt8.reduceToNat, true_implies, implies_true, List.append_eq, y_preref1_SameToken] at hp13
                    have hq13 := hp13
                    try simp only [goT] at hq13
                    rcases bsplit H with ⟨hp14, H⟩ | ⟨hp14, H⟩
                    · try simp -implicitDefEqProofs only [goR, ↓upd_at, if_true, if_false, reduceCtorEq, ↓reduceIte, Nat.reduceEqDiff, Nat.reduceAdd, Nat.reduceSub, Nat.reduceMul, Nat.reduceBEq, Nat.reduceLT, Nat.reduceLeDiff, Int.reduceToNat, Int.reduceLE, Int.reduceLT, Int.reduceEq, Int.reduceNeg, ← List.map_drop, ← List.map_take, UInt8.reduceToNat, true_implies, implies_true, List.append_eq, y_preref1_SameToken] at hp14
                      have hq14 := hp14
                      try simp only [goT] at hq14
                      refine w_region rfl (fun K hK => ?_)
                      simp -implicitDefEqProofs only [goR, ↓upd_at, if_true, if_false, reduceCtorEq, ↓reduceIte, Nat.reduceEqDiff, Nat.reduceAdd, Nat.reduceSub, Nat.reduceMul, Nat.reduceBEq, Nat.reduceLT, Nat.reduceLeDiff, Int.reduceToNat, Int.reduceLE, Int.reduceLT, Int.reduceEq, Int.reduceNeg, ← List.map_drop, ← List.map_take, UInt8.reduceToNat, true_implies, implies_true, List.append_eq, y_preref1_SameToken, hp6, hp7, hp8, hp9, hp10, hp11, hp12, hp13, hp14]
                      (repeat' (first | ((with_reducible refine hK _ _ ?_); clear hK K) | (with_reducible apply And.intro) | (exact trivial) | (clear hK K; assumption) | (clear hK K; omega)))
                      refine cut_at H ?_
                      exact wk_ren ⟨[1, 2], []⟩ rfl rfl rfl rfl rfl (by simp -implicitDefEqProofs only [goW, goR, ↓upd_at, if_true, if_false, reduceCtorEq, ↓reduceIte, Nat.reduceEqDiff, Nat.reduceAdd, Nat.reduceSub, Nat.reduceMul, Nat.reduceBEq, Nat.reduceLT, Nat.reduceLeDiff, Int.reduceToNat, Int.reduceLE, Int.reduceLT, Int.reduceEq, Int.reduceNeg, ← List.map_drop, ← List.map_take, UInt8.reduceToNat, true_implies, implies_true, List.append_eq, y_preref1_SameToken]) (by simp -implicitDefEqProofs only [goW, goR, ↓upd_at, if_true, if_false, reduceCtorEq, ↓reduceIte, Nat.reduceEqDiff, Nat.reduceAdd, Nat.reduceSub, Nat.reduceMul, Nat.reduceBEq, Nat.reduceLT, Nat.reduceLeDiff, Int.reduceToNat, Int.reduceLE, Int.reduceLT, Int.reduceEq, Int.reduceNeg, ← List.map_drop, ← List.map_take, UInt8.reduceToNat, true_implies, implies_true, List.append_eq, y_preref1_SameToken]) (by simp -implicitDefEqProofs only [goW, goR, ↓upd_at, if_true, if_false, reduceCtorEq, ↓reduceIte, Nat.reduceEqDiff, Nat.reduceAdd, Nat.reduceSub, Nat.reduceMul, Nat.reduceBEq, Nat.reduceLT, Nat.reduceLeDiff, Int.reduceToNat, Int.reduceLE, Int.reduceLT, Int.reduceEq, Int.reduceNeg, ← List.map_drop, ← List.map_take, UInt8.reduceToNat, true_implies, implies_true, List.append_eq, y_preref1_SameToken]) rfl
                    · try simp -implicitDefEqProofs only [goR, ↓upd_at, if_true, if_false, reduceCtorEq, ↓reduceIte, Nat.reduceEqDiff, Nat.reduceAdd, Nat.reduceSub, Nat.reduceMul, Nat.reduceBEq, Nat.reduceLT, Nat.reduceLeDiff, Int.reduceToNat, Int.reduceLE, Int.reduceLT, Int.reduceEq, Int.reduceNeg, ← List.map_drop, ← List.map_take, UInt8.reduceToNat, true_implies, implies_true, List.append_eq, y_preref1_SameToken] at hp14
                      have hq14 := hp14
                      try simp only [goT] at hq14
                      rcases bsplit H with ⟨hp15, H⟩ | ⟨hp15, H⟩
                      · try simp -implicitDefEqProofs only [goR, ↓upd_at, if_true, if_false, reduceCtorEq, ↓reduceIte, Nat.reduceEqDiff, Nat.reduceAdd, Nat.reduceSub, Nat.reduceMul, Nat.reduceBEq, Nat.reduceLT, Nat.reduceLeDiff, Int.reduceToNat, Int.reduceLE, Int.reduceLT, Int.reduceEq, Int.reduceNeg, ← List.map_drop, ← List.map_take, UInt8.reduceToNat, true_implies, implies_true, List.append_eq, y_preref1_SameToken] at hp15
                        have hq15 := hp15
                        try simp only [goT] at hq15
                        refine w_region rfl (fun K hK => ?_)
                        simp -implicitDefEqProofs only [goR, ↓upd_at, if_true, if_false, reduceCtorEq, ↓reduceIte, Nat.reduceEqDiff, Nat.reduceAdd, Nat.reduceSub, Nat.reduceMul, Nat.reduceBEq, Nat.reduceLT, Nat.reduceLeDiff, Int.reduceToNat, Int.reduceLE, Int.reduceLT, Int.reduceEq, Int.reduceNeg, ← List.map_drop, ← List.map_take, UInt8.reduceToNat, true_implies, implies_true, List.append_eq, y_preref1_SameToken, hp6, hp7, hp8, hp9, hp10, hp11, hp12, hp13, hp14, hp15]
                        (repeat' (first | ((with_reducible refine hK _ _ ?_); clear hK K) | (with_reducible apply And.intro) | (exact trivial) | (clear hK K; assumption) | (clear hK K; omega)))
                        refine cut_at H ?_
                        exact wk_ren ⟨[1, 2], []⟩ rfl rfl rfl rfl rfl (by simp -implicitDefEqProofs only [goW, goR, ↓upd_at, if_true, if_false, reduceCtorEq, ↓reduceIte, Nat.reduceEqDiff, Nat.reduceAdd, Nat.reduceSub, Nat.reduceMul, Nat.reduceBEq, Nat.reduceLT, Nat.reduceLeDiff, Int.reduceToNat, Int.reduceLE, Int.reduceLT, Int.reduceEq, Int.reduceNeg, ← List.map_drop, ← List.map_take, UInt8.reduceToNat, true_implies, implies_true, List.append_eq, y_preref1_SameToken]) (by simp -implicitDefEqProofs only [goW, goR, ↓upd_at, if_true, if_false, reduceCtorEq, ↓reduceIte, Nat.reduceEqDiff, Nat.reduceAdd, Nat.reduceSub, Nat.reduceMul, Nat.reduceBEq, Nat.reduceLT, Nat.reduceLeDiff, Int.reduceToNat, Int.reduceLE, Int.reduceLT, Int.reduceEq, Int.reduceNeg, ← List.map_drop, ← List.map_take, UInt8.reduceToNat, true_implies, implies_true, List.append_eq, y_preref1_SameToken]) (by simp -implicitDefEqProofs only [goW, goR, ↓upd_at, if_true, if_false, reduceCtorEq, ↓reduceIte, Nat.reduceEqDiff, Nat.reduceAdd, Nat.reduceSub, Nat.reduceMul, Nat.reduceBEq, Nat.reduceLT, Nat.reduceLeDiff, Int.reduceToNat, Int.reduceLE, Int.reduceLT, Int.reduceEq, Int.reduceNeg, ← List.map_drop, ← List.map_take, UInt8.reduceToNat, true_implies, implies_true, List.append_eq, y_preref1_SameToken]) rfl
                      · try simp -implicitDefEqProofs only [goR, ↓upd_at, if_true, if_false, reduceCtorEq, ↓reduceIte, Nat.reduceEqDiff, Nat.reduceAdd, Nat.reduceSub, Nat.reduceMul, Nat.reduceBEq, Nat.reduceLT, Nat.reduceLeDiff, Int.reduceToNat, Int.reduceLE, Int.reduceLT, Int.reduceEq, Int.reduceNeg, ← List.map_drop, ← List.map_take, UInt8.reduceToNat, true_implies, implies_true, List.append_eq, y_preref1_SameToken] at hp15
                        have hq15 := hp15
                        try simp only [goT] at hq15
                        refine w_region rfl (fun K hK => ?_)
                        simp -implicitDefEqProofs only [goR, ↓upd_at, if_true, if_false, reduceCtorEq, ↓reduceIte, Nat.reduceEqDiff, Nat.reduceAdd, Nat.reduceSub, Nat.reduceMul, Nat.reduceBEq, Nat.reduceLT, Nat.reduceLeDiff, Int.reduceToNat, Int.reduceLE, Int.reduceLT, Int.reduceEq, Int.reduceNeg, ← List.map_drop, ← List.map_take, UInt8.reduceToNat, true_implies, implies_true, List.append_eq, y_preref1_SameToken, hp6, hp7, hp8, hp9, hp10, hp11, hp12, hp13, hp14, hp15]
                        (repeat' (first | ((with_reducible refine hK _ _ ?_); clear hK K) | (with_reducible apply And.intro) | (exact trivial) | (clear hK K; assumption) | (clear hK K; omega)))
                        refine cut_at H ?_
                        exact wk_ren ⟨[1, 2], []⟩ rfl rfl rfl rfl rfl (by simp -implicitDefEqProofs only [goW, goR, ↓upd_at, if_true, if_false, reduceCtorEq, ↓reduceIte, Nat.reduceEqDiff, Nat.reduceAdd, Nat.reduceSub, Nat.reduceMul, Nat.reduceBEq, Nat.reduceLT, Nat.reduceLeDiff, Int.reduceToNat, Int.reduceLE, Int.reduceLT, Int.reduceEq, Int.reduceNeg, ← List.map_drop, ← List.map_take, UInt8.reduceToNat, true_implies, implies_true, List.append_eq, y_preref1_SameToken]) (by simp -implicitDefEqProofs only [goW, goR, ↓upd_at, if_true, if_false, reduceCtorEq, ↓reduceIte, Nat.reduceEqDiff, Nat.reduceAdd, Nat.reduceSub, Nat.reduceMul, Nat.reduceBEq, Nat.reduceLT, Nat.reduceLeDiff, Int.reduceToNat, Int.reduceLE, Int.reduceLT, Int.reduceEq, Int.reduceNeg, ← List.map_drop, ← List.map_take, UInt8.reduceToNat, true_implies, implies_true, List.append_eq, y_preref1_SameToken]) (by simp -implicitDefEqProofs only [goW, goR, ↓upd_at, if_true, if_false, reduceCtorEq, ↓reduceIte, Nat.reduceEqDiff, Nat.reduceAdd, Nat.reduceSub, Nat.reduceMul, Nat.reduceBEq, Nat.reduceLT, Nat.reduceLeDiff, Int.reduceToNat, Int.reduceLE, Int.reduceLT, Int.reduceEq, Int.reduceNeg, ← List.map_drop, ← List.map_take, UInt8.reduceToNat, true_implies, implies_true, List.append_eq, y_preref1_SameToken]) rfl
  · rintro x1 H
    rw [preref1_SameToken_j1] at H
    rcases bsplit H with ⟨hp1, H⟩ | ⟨hp1, H⟩
    · try simp -implicitDefEqProofs only [goR, ↓upd_at, if_true, if_false, reduceCtorEq, ↓reduceIte, Nat.reduceEqDiff, Nat.reduceAdd, Nat.reduceSub, Nat.reduceMul, Nat.reduceBEq, Nat.reduceLT, Nat.reduceLeDiff, Int.reduceToNat, Int.reduceLE, Int.reduceLT, Int.reduceEq, Int.reduceNeg, ← List.map_drop, ← List.map_take, UInt8.reduceToNat, true_implies, implies_true, List.append_eq, y_preref1_SameToken] at hp1
      have hq1 := hp1
      try simp only [goT] at hq1
      refine w_condT (by simp -implicitDefEqProofs only [goR, ↓upd_at, if_true, if_false, reduceCtorEq, ↓reduceIte, Nat.reduceEqDiff, Nat.reduceAdd, Nat.reduceSub, Nat.reduceMul, Nat.reduceBEq, Nat.reduceLT, Nat.reduceLeDiff, Int.reduceToNat, Int.reduceLE, Int.reduceLT, Int.reduceEq, Int.reduceNeg, ← List.map_drop, ← List.map_take, UInt8.reduceToNat, true_implies, implies_true, List.append_eq, y_preref1_SameToken, hp1]) ?_
      refine w_seq ?_
      refine w_region rfl (fun K hK => ?_)
      simp -implicitDefEqProofs only [goR, ↓upd_at, if_true, if_false, reduceCtorEq, ↓reduceIte, Nat.reduceEqDiff, Nat.reduceAdd, Nat.reduceSub, Nat.reduceMul, Nat.reduceBEq, Nat.reduceLT, Nat.reduceLeDiff, Int.reduceToNat, Int.reduceLE, Int.reduceLT, Int.reduceEq, Int.reduceNeg, ← List.map_drop, ← List.map_take, UInt8.reduceToNat, true_implies, implies_true, List.append_eq, y_preref1_SameToken]
      (repeat' (first | ((with_reducible refine hK _ _ ?_); clear hK K) | (with_reducible apply And.intro) | (exact trivial) | (clear hK K; assumption) | (clear hK K; omega)))
      refine then_normal ?_
      refine w_ret ?_
      refine then_ret ?_
      obtain rfl := Option.some.inj H
      simp -implicitDefEqProofs only [goQ, Try.results66, goR, ↓upd_at, if_true, if_false, reduceCtorEq, ↓reduceIte, Nat.reduceEqDiff, Nat.reduceAdd, Nat.reduceSub, Nat.reduceMul, Nat.reduceBEq, Nat.reduceLT, Nat.reduceLeDiff, Int.reduceToNat, Int.reduceLE, Int.reduceLT, Int.reduceEq, Int.reduceNeg, ← List.map_drop, ← List.map_take, UInt8.reduceToNat, true_implies, implies_true, List.append_eq, y_preref1_SameToken]
    · try simp -implicitDefEqProofs only [goR, ↓upd_at, if_true, if_false, reduceCtorEq, ↓reduceIte, Nat.reduceEqDiff, Nat.reduceAdd, Nat.reduceSub, Nat.reduceMul, Nat.reduceBEq, Nat.reduceLT, Nat.reduceLeDiff, Int.reduceToNat, Int.reduceLE, Int.reduceLT, Int.reduceEq, Int.reduceNeg, ← List.map_drop, ← List.map_take, UInt8.reduceToNat, true_implies, implies_true, List.append_eq, y_preref1_SameToken] at hp1
      have hq1 := hp1
      try simp only [goT] at hq1
      refine w_condF (by simp -implicitDefEqProofs only [goR, ↓upd_at, if_true, if_false, reduceCtorEq, ↓reduceIte, Nat.reduceEqDiff, Nat.reduceAdd, Nat.reduceSub, Nat.reduceMul, Nat.reduceBEq, Nat.reduceLT, Nat.reduceLeDiff, Int.reduceToNat, Int.reduceLE, Int.reduceLT, Int.reduceEq, Int.reduceNeg, ← List.map_drop, ← List.map_take, UInt8.reduceToNat, true_implies, implies_true, List.append_eq, y_preref1_SameToken, hp1]) ?_
      refine w_skip ?_
      refine then_normal ?_
      refine w_seq ?_
      refine w_seq ?_
      refine w_region rfl (fun K hK => ?_)
      simp -implicitDefEqProofs only [goR, ↓upd_at, if_true, if_false, reduceCtorEq, ↓reduceIte, Nat.reduceEqDiff, Nat.reduceAdd, Nat.reduceSub, Nat.reduceMul, Nat.reduceBEq, Nat.reduceLT, Nat.reduceLeDiff, Int.reduceToNat, Int.reduceLE, Int.reduceLT, Int.reduceEq, Int.reduceNeg, ← List.map_drop, ← List.map_take, UInt8.reduceToNat, true_implies, implies_true, List.append_eq, y_preref1_SameToken]
      (repeat' (first | ((with_reducible refine hK _ _ ?_); clear hK K) | (with_reducible apply And.intro) | (exact trivial) | (clear hK K; assumption) | (clear hK K; omega)))
      refine then_normal ?_
      refine w_block ?_
      refine w_loop (preref1_SameToken_b2 a0 a1) (fun s => [(2, .c (.pt 1 0)), (3, .c (.pt 2 0)), (88, .c (.d (.v (.int .i64 s.1)))), (89, .c (.d (.v (.int .i64 s.2))))]) (fun s => [[.d (.v (.int .i64 a0.Kind)), .d (.v (str a0.Text)), .d (.v (.bool a0.Space)), .d (.v (.bool a0.First)), .d (.v (.int .i64 a0.File)), .d (.v (.int .i64 a0.At)), .d (.v (.int .i64 a0.End)), .d (.v (.int .i64 a0.Line)), .d (.sl 1 (List.map dS a0.Hide)), .d (.sl 3 (List.map d_Call a0.Calls)), .d (.v (.int .i64 a0.Made))], [.d (.v (.int .i64 a1.Kind)), .d (.v (str a1.Text)), .d (.v (.bool a1.Space)), .d (.v (.bool a1.First)), .d (.v (.int .i64 a1.File)), .d (.v (.int .i64 a1.At)), .d (.v (.int .i64 a1.End)), .d (.v (.int .i64 a1.Line)), .d (.sl 1 (List.map dS a1.Hide)), .d (.sl 3 (List.map d_Call a1.Calls)), .d (.v (.int .i64 a1.Made))]]) [] H ?_ ?_
      · exact wk_ren ⟨[1, 2], []⟩ rfl rfl rfl rfl rfl (by simp -implicitDefEqProofs only [goW, goR, ↓upd_at, if_true, if_false, reduceCtorEq, ↓reduceIte, Nat.reduceEqDiff, Nat.reduceAdd, Nat.reduceSub, Nat.reduceMul, Nat.reduceBEq, Nat.reduceLT, Nat.reduceLeDiff, Int.reduceToNat, Int.reduceLE, Int.reduceLT, Int.reduceEq, Int.reduceNeg, ← List.map_drop, ← List.map_take, UInt8.reduceToNat, true_implies, implies_true, List.append_eq, y_preref1_SameToken]) (by simp -implicitDefEqProofs only [goW, goR, ↓upd_at, if_true, if_false, reduceCtorEq, ↓reduceIte, Nat.reduceEqDiff, Nat.reduceAdd, Nat.reduceSub, Nat.reduceMul, Nat.reduceBEq, Nat.reduceLT, Nat.reduceLeDiff, Int.reduceToNat, Int.reduceLE, Int.reduceLT, Int.reduceEq, Int.reduceNeg, ← List.map_drop, ← List.map_take, UInt8.reduceToNat, true_implies, implies_true, List.append_eq, y_preref1_SameToken]) (by simp -implicitDefEqProofs only [goW, goR, ↓upd_at, if_true, if_false, reduceCtorEq, ↓reduceIte, Nat.reduceEqDiff, Nat.reduceAdd, Nat.reduceSub, Nat.reduceMul, Nat.reduceBEq, Nat.reduceLT, Nat.reduceLeDiff, Int.reduceToNat, Int.reduceLE, Int.reduceLT, Int.reduceEq, Int.reduceNeg, ← List.map_drop, ← List.map_take, UInt8.reduceToNat, true_implies, implies_true, List.append_eq, y_preref1_SameToken]) rfl
      · rintro n1 ⟨x2, x3⟩ o1 H hF1
        rw [preref1_SameToken_b2] at H
        refine w_seq ?_
        refine w_region rfl (fun K hK => ?_)
        simp -implicitDefEqProofs only [goR, ↓upd_at, if_true, if_false, reduceCtorEq, ↓reduceIte, Nat.reduceEqDiff, Nat.reduceAdd, Nat.reduceSub, Nat.reduceMul, Nat.reduceBEq, Nat.reduceLT, Nat.reduceLeDiff, Int.reduceToNat, Int.reduceLE, Int.reduceLT, Int.reduceEq, Int.reduceNeg, ← List.map_drop, ← List.map_take, UInt8.reduceToNat, true_implies, implies_true, List.append_eq, y_preref1_SameToken]
        (repeat' (first | ((with_reducible refine hK _ _ ?_); clear hK K) | (with_reducible apply And.intro) | (exact trivial) | (clear hK K; assumption) | (clear hK K; omega)))
        refine then_normal ?_
        refine w_seq ?_
        rcases bsplit H with ⟨hp2, H⟩ | ⟨hp2, H⟩
        · try simp -implicitDefEqProofs only [goR, ↓upd_at, if_true, if_false, reduceCtorEq, ↓reduceIte, Nat.reduceEqDiff, Nat.reduceAdd, Nat.reduceSub, Nat.reduceMul, Nat.reduceBEq, Nat.reduceLT, Nat.reduceLeDiff, Int.reduceToNat, Int.reduceLE, Int.reduceLT, Int.reduceEq, Int.reduceNeg, ← List.map_drop, ← List.map_take, UInt8.reduceToNat, true_implies, implies_true, List.append_eq, y_preref1_SameToken] at hp2
          have hq2 := hp2
          try simp only [goT] at hq2
          refine w_condT (by simp -implicitDefEqProofs only [goR, ↓upd_at, if_true, if_false, reduceCtorEq, ↓reduceIte, Nat.reduceEqDiff, Nat.reduceAdd, Nat.reduceSub, Nat.reduceMul, Nat.reduceBEq, Nat.reduceLT, Nat.reduceLeDiff, Int.reduceToNat, Int.reduceLE, Int.reduceLT, Int.reduceEq, Int.reduceNeg, ← List.map_drop, ← List.map_take, UInt8.reduceToNat, true_implies, implies_true, List.append_eq, y_preref1_SameToken, hp2]) ?_
          refine w_skip ?_
          refine then_normal ?_
          refine w_seq ?_
          refine w_block ?_
          refine w_seq ?_
          refine w_region rfl (fun K hK => ?_)
          simp -implicitDefEqProofs only [goR, ↓upd_at, if_true, if_false, reduceCtorEq, ↓reduceIte, Nat.reduceEqDiff, Nat.reduceAdd, Nat.reduceSub, Nat.reduceMul, Nat.reduceBEq, Nat.reduceLT, Nat.reduceLeDiff, Int.reduceToNat, Int.reduceLE, Int.reduceLT, Int.reduceEq, Int.reduceNeg, ← List.map_drop, ← List.map_take, UInt8.reduceToNat, true_implies, implies_true, List.append_eq, y_preref1_SameToken]
          (repeat' (first | ((with_reducible refine hK _ _ ?_); clear hK K) | (with_reducible apply And.intro) | (exact trivial) | (clear hK K; assumption) | (clear hK K; omega)))
          refine then_normal ?_
          refine w_seq ?_
          obtain ⟨hg1, H⟩ := gsplit H
          have g1 := map_getD dS a0.Hide x3.toNat default default (by omega)
          obtain ⟨hg2, H⟩ := gsplit H
          have g2 := map_getD dS a1.Hide x3.toNat default default (by omega)
          refine w_region rfl (fun K hK => ?_)
          simp -implicitDefEqProofs only [goR, ↓upd_at, if_true, if_false, reduceCtorEq, ↓reduceIte, Nat.reduceEqDiff, Nat.reduceAdd, Nat.reduceSub, Nat.reduceMul, Nat.reduceBEq, Nat.reduceLT, Nat.reduceLeDiff, Int.reduceToNat, Int.reduceLE, Int.reduceLT, Int.reduceEq, Int.reduceNeg, ← List.map_drop, ← List.map_take, UInt8.reduceToNat, true_implies, implies_true, List.append_eq, y_preref1_SameToken, g1, g2]
          (repeat' (first | ((with_reducible refine hK _ _ ?_); clear hK K) | (with_reducible apply And.intro) | (exact trivial) | (clear hK K; assumption) | (clear hK K; omega)))
          refine then_normal ?_
          rcases bsplit H with ⟨hp3, H⟩ | ⟨hp3, H⟩
          · try simp -implicitDefEqProofs only [goR, ↓upd_at, if_true, if_false, reduceCtorEq, ↓reduceIte, Nat.reduceEqDiff, Nat.reduceAdd, Nat.reduceSub, Nat.reduceMul, Nat.reduceBEq, Nat.reduceLT, Nat.reduceLeDiff, Int.reduceToNat, Int.reduceLE, Int.reduceLT, Int.reduceEq, Int.reduceNeg, ← List.map_drop, ← List.map_take, UInt8.reduceToNat, true_implies, implies_true, List.append_eq, y_preref1_SameToken] at hp3
            have hq3 := hp3
            try simp only [goT] at hq3
            refine w_condT (by simp -implicitDefEqProofs only [goR, ↓upd_at, if_true, if_false, reduceCtorEq, ↓reduceIte, Nat.reduceEqDiff, Nat.reduceAdd, Nat.reduceSub, Nat.reduceMul, Nat.reduceBEq, Nat.reduceLT, Nat.reduceLeDiff, Int.reduceToNat, Int.reduceLE, Int.reduceLT, Int.reduceEq, Int.reduceNeg, ← List.map_drop, ← List.map_take, UInt8.reduceToNat, true_implies, implies_true, List.append_eq, y_preref1_SameToken, hp3]) ?_
            refine w_seq ?_
            refine w_region rfl (fun K hK => ?_)
            simp -implicitDefEqProofs only [goR, ↓upd_at, if_true, if_false, reduceCtorEq, ↓reduceIte, Nat.reduceEqDiff, Nat.reduceAdd, Nat.reduceSub, Nat.reduceMul, Nat.reduceBEq, Nat.reduceLT, Nat.reduceLeDiff, Int.reduceToNat, Int.reduceLE, Int.reduceLT, Int.reduceEq, Int.reduceNeg, ← List.map_drop, ← List.map_take, UInt8.reduceToNat, true_implies, implies_true, List.append_eq, y_preref1_SameToken]
            (repeat' (first | ((with_reducible refine hK _ _ ?_); clear hK K) | (with_reducible apply And.intro) | (exact trivial) | (clear hK K; assumption) | (clear hK K; omega)))
            refine then_normal ?_
            refine w_ret ?_
            refine block_ret ?_
            refine then_ret ?_
            replace H := inrO_fin H hF1
            refine round_ret ?_
            refine block_ret ?_
            refine then_ret ?_
            obtain rfl := Option.some.inj H
            simp -implicitDefEqProofs only [goQ, Try.results66, goR, ↓upd_at, if_true, if_false, reduceCtorEq, ↓reduceIte, Nat.reduceEqDiff, Nat.reduceAdd, Nat.reduceSub, Nat.reduceMul, Nat.reduceBEq, Nat.reduceLT, Nat.reduceLeDiff, Int.reduceToNat, Int.reduceLE, Int.reduceLT, Int.reduceEq, Int.reduceNeg, ← List.map_drop, ← List.map_take, UInt8.reduceToNat, true_implies, implies_true, List.append_eq, y_preref1_SameToken]
          · try simp -implicitDefEqProofs only [goR, ↓upd_at, if_true, if_false, reduceCtorEq, ↓reduceIte, Nat.reduceEqDiff, Nat.reduceAdd, Nat.reduceSub, Nat.reduceMul, Nat.reduceBEq, Nat.reduceLT, Nat.reduceLeDiff, Int.reduceToNat, Int.reduceLE, Int.reduceLT, Int.reduceEq, Int.reduceNeg, ← List.map_drop, ← List.map_take, UInt8.reduceToNat, true_implies, implies_true, List.append_eq, y_preref1_SameToken] at hp3
            have hq3 := hp3
            try simp only [goT] at hq3
            refine w_condF (by simp -implicitDefEqProofs only [goR, ↓upd_at, if_true, if_false, reduceCtorEq, ↓reduceIte, Nat.reduceEqDiff, Nat.reduceAdd, Nat.reduceSub, Nat.reduceMul, Nat.reduceBEq, Nat.reduceLT, Nat.reduceLeDiff, Int.reduceToNat, Int.reduceLE, Int.reduceLT, Int.reduceEq, Int.reduceNeg, ← List.map_drop, ← List.map_take, UInt8.reduceToNat, true_implies, implies_true, List.append_eq, y_preref1_SameToken, hp3]) ?_
            refine w_skip ?_
            refine block_normal ?_
            refine then_normal ?_
            refine w_region rfl (fun K hK => ?_)
            simp -implicitDefEqProofs only [goR, ↓upd_at, if_true, if_false, reduceCtorEq, ↓reduceIte, Nat.reduceEqDiff, Nat.reduceAdd, Nat.reduceSub, Nat.reduceMul, Nat.reduceBEq, Nat.reduceLT, Nat.reduceLeDiff, Int.reduceToNat, Int.reduceLE, Int.reduceLT, Int.reduceEq, Int.reduceNeg, ← List.map_drop, ← List.map_take, UInt8.reduceToNat, true_implies, implies_true, List.append_eq, y_preref1_SameToken]
            (repeat' (first | ((with_reducible refine hK _ _ ?_); clear hK K) | (with_reducible apply And.intro) | (exact trivial) | (clear hK K; assumption) | (clear hK K; omega)))
            refine round_at (inl_fin H hF1) ?_
            exact wk_ren ⟨[1, 2], []⟩ rfl rfl rfl rfl rfl (by simp -implicitDefEqProofs only [goW, goR, ↓upd_at, if_true, if_false, reduceCtorEq, ↓reduceIte, Nat.reduceEqDiff, Nat.reduceAdd, Nat.reduceSub, Nat.reduceMul, Nat.reduceBEq, Nat.reduceLT, Nat.reduceLeDiff, Int.reduceToNat, Int.reduceLE, Int.reduceLT, Int.reduceEq, Int.reduceNeg, ← List.map_drop, ← List.map_take, UInt8.reduceToNat, true_implies, implies_true, List.append_eq, y_preref1_SameToken]) (by simp -implicitDefEqProofs only [goW, goR, ↓upd_at, if_true, if_false, reduceCtorEq, ↓reduceIte, Nat.reduceEqDiff, Nat.reduceAdd, Nat.reduceSub, Nat.reduceMul, Nat.reduceBEq, Nat.reduceLT, Nat.reduceLeDiff, Int.reduceToNat, Int.reduceLE, Int.reduceLT, Int.reduceEq, Int.reduceNeg, ← List.map_drop, ← List.map_take, UInt8.reduceToNat, true_implies, implies_true, List.append_eq, y_preref1_SameToken]) (by simp -implicitDefEqProofs only [goW, goR, ↓upd_at, if_true, if_false, reduceCtorEq, ↓reduceIte, Nat.reduceEqDiff, Nat.reduceAdd, Nat.reduceSub, Nat.reduceMul, Nat.reduceBEq, Nat.reduceLT, Nat.reduceLeDiff, Int.reduceToNat, Int.reduceLE, Int.reduceLT, Int.reduceEq, Int.reduceNeg, ← List.map_drop, ← List.map_take, UInt8.reduceToNat, true_implies, implies_true, List.append_eq, y_preref1_SameToken]) rfl
        · try simp -implicitDefEqProofs only [goR, ↓upd_at, if_true, if_false, reduceCtorEq, ↓reduceIte, Nat.reduceEqDiff, Nat.reduceAdd, Nat.reduceSub, Nat.reduceMul, Nat.reduceBEq, Nat.reduceLT, Nat.reduceLeDiff, Int.reduceToNat, Int.reduceLE, Int.reduceLT, Int.reduceEq, Int.reduceNeg, ← List.map_drop, ← List.map_take, UInt8.reduceToNat, true_implies, implies_true, List.append_eq, y_preref1_SameToken] at hp2
          have hq2 := hp2
          try simp only [goT] at hq2
          refine w_condF (by simp -implicitDefEqProofs only [goR, ↓upd_at, if_true, if_false, reduceCtorEq, ↓reduceIte, Nat.reduceEqDiff, Nat.reduceAdd, Nat.reduceSub, Nat.reduceMul, Nat.reduceBEq, Nat.reduceLT, Nat.reduceLeDiff, Int.reduceToNat, Int.reduceLE, Int.reduceLT, Int.reduceEq, Int.reduceNeg, ← List.map_drop, ← List.map_take, UInt8.reduceToNat, true_implies, implies_true, List.append_eq, y_preref1_SameToken, hp2]) ?_
          refine w_exit ?_
          refine then_exit ?_
          replace H := inrO_fin H hF1
          refine round_exit ?_
          refine block_exit ?_
          refine then_normal ?_
          refine w_seq ?_
          refine w_seq ?_
          refine w_region rfl (fun K hK => ?_)
          simp -implicitDefEqProofs only [goR, ↓upd_at, if_true, if_false, reduceCtorEq, ↓reduceIte, Nat.reduceEqDiff, Nat.reduceAdd, Nat.reduceSub, Nat.reduceMul, Nat.reduceBEq, Nat.reduceLT, Nat.reduceLeDiff, Int.reduceToNat, Int.reduceLE, Int.reduceLT, Int.reduceEq, Int.reduceNeg, ← List.map_drop, ← List.map_take, UInt8.reduceToNat, true_implies, implies_true, List.append_eq, y_preref1_SameToken]
          (repeat' (first | ((with_reducible refine hK _ _ ?_); clear hK K) | (with_reducible apply And.intro) | (exact trivial) | (clear hK K; assumption) | (clear hK K; omega)))
          refine then_normal ?_
          refine w_block ?_
          refine w_loop (preref1_SameToken_b3 a0 a1) (fun s => [(2, .c (.pt 1 0)), (3, .c (.pt 2 0)), (106, .c (.d (.v (.int .i64 s.1)))), (107, .c (.d (.v (.int .i64 s.2))))]) (fun s => [[.d (.v (.int .i64 a0.Kind)), .d (.v (str a0.Text)), .d (.v (.bool a0.Space)), .d (.v (.bool a0.First)), .d (.v (.int .i64 a0.File)), .d (.v (.int .i64 a0.At)), .d (.v (.int .i64 a0.End)), .d (.v (.int .i64 a0.Line)), .d (.sl 1 (List.map dS a0.Hide)), .d (.sl 3 (List.map d_Call a0.Calls)), .d (.v (.int .i64 a0.Made))], [.d (.v (.int .i64 a1.Kind)), .d (.v (str a1.Text)), .d (.v (.bool a1.Space)), .d (.v (.bool a1.First)), .d (.v (.int .i64 a1.File)), .d (.v (.int .i64 a1.At)), .d (.v (.int .i64 a1.End)), .d (.v (.int .i64 a1.Line)), .d (.sl 1 (List.map dS a1.Hide)), .d (.sl 3 (List.map d_Call a1.Calls)), .d (.v (.int .i64 a1.Made))]]) [] H ?_ ?_
          · exact wk_ren ⟨[1, 2], []⟩ rfl rfl rfl rfl rfl (by simp -implicitDefEqProofs only [goW, goR, ↓upd_at, if_true, if_false, reduceCtorEq, ↓reduceIte, Nat.reduceEqDiff, Nat.reduceAdd, Nat.reduceSub, Nat.reduceMul, Nat.reduceBEq, Nat.reduceLT, Nat.reduceLeDiff, Int.reduceToNat, Int.reduceLE, Int.reduceLT, Int.reduceEq, Int.reduceNeg, ← List.map_drop, ← List.map_take, UInt8.reduceToNat, true_implies, implies_true, List.append_eq, y_preref1_SameToken]) (by simp -implicitDefEqProofs only [goW, goR, ↓upd_at, if_true, if_false, reduceCtorEq, ↓reduceIte, Nat.reduceEqDiff, Nat.reduceAdd, Nat.reduceSub, Nat.reduceMul, Nat.reduceBEq, Nat.reduceLT, Nat.reduceLeDiff, Int.reduceToNat, Int.reduceLE, Int.reduceLT, Int.reduceEq, Int.reduceNeg, ← List.map_drop, ← List.map_take, UInt8.reduceToNat, true_implies, implies_true, List.append_eq, y_preref1_SameToken]) (by simp -implicitDefEqProofs only [goW, goR, ↓upd_at, if_true, if_false, reduceCtorEq, ↓reduceIte, Nat.reduceEqDiff, Nat.reduceAdd, Nat.reduceSub, Nat.reduceMul, Nat.reduceBEq, Nat.reduceLT, Nat.reduceLeDiff, Int.reduceToNat, Int.reduceLE, Int.reduceLT, Int.reduceEq, Int.reduceNeg, ← List.map_drop, ← List.map_take, UInt8.reduceToNat, true_implies, implies_true, List.append_eq, y_preref1_SameToken]) rfl
          · rintro n2 ⟨x4, x5⟩ o2 H hF2
            rw [preref1_SameToken_b3] at H
            refine w_seq ?_
            refine w_region rfl (fun K hK => ?_)
            simp -implicitDefEqProofs only [goR, ↓upd_at, if_true, if_false, reduceCtorEq, ↓reduceIte, Nat.reduceEqDiff, Nat.reduceAdd, Nat.reduceSub, Nat.reduceMul, Nat.reduceBEq, Nat.reduceLT, Nat.reduceLeDiff, Int.reduceToNat, Int.reduceLE, Int.reduceLT, Int.reduceEq, Int.reduceNeg, ← List.map_drop, ← List.map_take, UInt8.reduceToNat, true_implies, implies_true, List.append_eq, y_preref1_SameToken]
            (repeat' (first | ((with_reducible refine hK _ _ ?_); clear hK K) | (with_reducible apply And.intro) | (exact trivial) | (clear hK K; assumption) | (clear hK K; omega)))
            refine then_normal ?_
            refine w_seq ?_
            rcases bsplit H with ⟨hp4, H⟩ | ⟨hp4, H⟩
            · try simp -implicitDefEqProofs only [goR, ↓upd_at, if_true, if_false, reduceCtorEq, ↓reduceIte, Nat.reduceEqDiff, Nat.reduceAdd, Nat.reduceSub, Nat.reduceMul, Nat.reduceBEq, Nat.reduceLT, Nat.reduceLeDiff, Int.reduceToNat, Int.reduceLE, Int.reduceLT, Int.reduceEq, Int.reduceNeg, ← List.map_drop, ← List.map_take, UInt8.reduceToNat, true_implies, implies_true, List.append_eq, y_preref1_SameToken] at hp4
              have hq4 := hp4
              try simp only [goT] at hq4
              refine w_condT (by simp -implicitDefEqProofs only [goR, ↓upd_at, if_true, if_false, reduceCtorEq, ↓reduceIte, Nat.reduceEqDiff, Nat.reduceAdd, Nat.reduceSub, Nat.reduceMul, Nat.reduceBEq, Nat.reduceLT, Nat.reduceLeDiff, Int.reduceToNat, Int.reduceLE, Int.reduceLT, Int.reduceEq, Int.reduceNeg, ← List.map_drop, ← List.map_take, UInt8.reduceToNat, true_implies, implies_true, List.append_eq, y_preref1_SameToken, hp4]) ?_
              refine w_skip ?_
              refine then_normal ?_
              refine w_seq ?_
              refine w_block ?_
              refine w_seq ?_
              refine w_region rfl (fun K hK => ?_)
              simp -implicitDefEqProofs only [goR, ↓upd_at, if_true, if_false, reduceCtorEq, ↓reduceIte, Nat.reduceEqDiff, Nat.reduceAdd, Nat.reduceSub, Nat.reduceMul, Nat.reduceBEq, Nat.reduceLT, Nat.reduceLeDiff, Int.reduceToNat, Int.reduceLE, Int.reduceLT, Int.reduceEq, Int.reduceNeg, ← List.map_drop, ← List.map_take, UInt8.reduceToNat, true_implies, implies_true, List.append_eq, y_preref1_SameToken]
              (repeat' (first | ((with_reducible refine hK _ _ ?_); clear hK K) | (with_reducible apply And.intro) | (exact trivial) | (clear hK K; assumption) | (clear hK K; omega)))
              refine then_normal ?_
              refine w_seq ?_
              obtain ⟨hg3, H⟩ := gsplit H
              have g3 := map_getD d_Call a0.Calls x5.toNat default default (by omega)
              obtain ⟨hg4, H⟩ := gsplit H
              have g4 := map_getD d_Call a1.Calls x5.toNat default default (by omega)
              refine w_region rfl (fun K hK => ?_)
              simp -implicitDefEqProofs only [goR, ↓upd_at, if_true, if_false, reduceCtorEq, ↓reduceIte, Nat.reduceEqDiff, Nat.reduceAdd, Nat.reduceSub, Nat.reduceMul, Nat.reduceBEq, Nat.reduceLT, Nat.reduceLeDiff, Int.reduceToNat, Int.reduceLE, Int.reduceLT, Int.reduceEq, Int.reduceNeg, ← List.map_drop, ← List.map_take, UInt8.reduceToNat, true_implies, implies_true, List.append_eq, y_preref1_SameToken, g3, g4]
              (repeat' (first | ((with_reducible refine hK _ _ ?_); clear hK K) | (with_reducible apply And.intro) | (exact trivial) | (clear hK K; assumption) | (clear hK K; omega)))
              refine then_normal ?_
              rcases bsplit H with ⟨hp5, H⟩ | ⟨hp5, H⟩
              · try simp -implicitDefEqProofs only [goR, ↓upd_at, if_true, if_false, reduceCtorEq, ↓reduceIte, Nat.reduceEqDiff, Nat.reduceAdd, Nat.reduceSub, Nat.reduceMul, Nat.reduceBEq, Nat.reduceLT, Nat.reduceLeDiff, Int.reduceToNat, Int.reduceLE, Int.reduceLT, Int.reduceEq, Int.reduceNeg, ← List.map_drop, ← List.map_take, UInt8.reduceToNat, true_implies, implies_true, List.append_eq, y_preref1_SameToken] at hp5
                have hq5 := hp5
                try simp only [goT] at hq5
                refine w_condT (by simp -implicitDefEqProofs only [goR, ↓upd_at, if_true, if_false, reduceCtorEq, ↓reduceIte, Nat.reduceEqDiff, Nat.reduceAdd, Nat.reduceSub, Nat.reduceMul, Nat.reduceBEq, Nat.reduceLT, Nat.reduceLeDiff, Int.reduceToNat, Int.reduceLE, Int.reduceLT, Int.reduceEq, Int.reduceNeg, ← List.map_drop, ← List.map_take, UInt8.reduceToNat, true_implies, implies_true, List.append_eq, y_preref1_SameToken, hp5]) ?_
                refine w_seq ?_
                refine w_region rfl (fun K hK => ?_)
                simp -implicitDefEqProofs only [goR, ↓upd_at, if_true, if_false, reduceCtorEq, ↓reduceIte, Nat.reduceEqDiff, Nat.reduceAdd, Nat.reduceSub, Nat.reduceMul, Nat.reduceBEq, Nat.reduceLT, Nat.reduceLeDiff, Int.reduceToNat, Int.reduceLE, Int.reduceLT, Int.reduceEq, Int.reduceNeg, ← List.map_drop, ← List.map_take, UInt8.reduceToNat, true_implies, implies_true, List.append_eq, y_preref1_SameToken]
                (repeat' (first | ((with_reducible refine hK _ _ ?_); clear hK K) | (with_reducible apply And.intro) | (exact trivial) | (clear hK K; assumption) | (clear hK K; omega)))
                refine then_normal ?_
                refine w_ret ?_
                refine block_ret ?_
                refine then_ret ?_
                replace H := inrO_fin H hF2
                refine round_ret ?_
                refine block_ret ?_
                refine then_ret ?_
                obtain rfl := Option.some.inj H
                simp -implicitDefEqProofs only [goQ, Try.results66, goR, ↓upd_at, if_true, if_false, reduceCtorEq, ↓reduceIte, Nat.reduceEqDiff, Nat.reduceAdd, Nat.reduceSub, Nat.reduceMul, Nat.reduceBEq, Nat.reduceLT, Nat.reduceLeDiff, Int.reduceToNat, Int.reduceLE, Int.reduceLT, Int.reduceEq, Int.reduceNeg, ← List.map_drop, ← List.map_take, UInt8.reduceToNat, true_implies, implies_true, List.append_eq, y_preref1_SameToken]
              · try simp -implicitDefEqProofs only [goR, ↓upd_at, if_true, if_false, reduceCtorEq, ↓reduceIte, Nat.reduceEqDiff, Nat.reduceAdd, Nat.reduceSub, Nat.reduceMul, Nat.reduceBEq, Nat.reduceLT, Nat.reduceLeDiff, Int.reduceToNat, Int.reduceLE, Int.reduceLT, Int.reduceEq, Int.reduceNeg, ← List.map_drop, ← List.map_take, UInt8.reduceToNat, true_implies, implies_true, List.append_eq, y_preref1_SameToken] at hp5
                have hq5 := hp5
                try simp only [goT] at hq5
                refine w_condF (by simp -implicitDefEqProofs only [goR, ↓upd_at, if_true, if_false, reduceCtorEq, ↓reduceIte, Nat.reduceEqDiff, Nat.reduceAdd, Nat.reduceSub, Nat.reduceMul, Nat.reduceBEq, Nat.reduceLT, Nat.reduceLeDiff, Int.reduceToNat, Int.reduceLE, Int.reduceLT, Int.reduceEq, Int.reduceNeg, ← List.map_drop, ← List.map_take, UInt8.reduceToNat, true_implies, implies_true, List.append_eq, y_preref1_SameToken, hp5]) ?_
                refine w_skip ?_
                refine block_normal ?_
                refine then_normal ?_
                refine w_region rfl (fun K hK => ?_)
                simp -implicitDefEqProofs only [goR, ↓upd_at, if_true, if_false, reduceCtorEq, ↓reduceIte, Nat.reduceEqDiff, Nat.reduceAdd, Nat.reduceSub, Nat.reduceMul, Nat.reduceBEq, Nat.reduceLT, Nat.reduceLeDiff, Int.reduceToNat, Int.reduceLE, Int.reduceLT, Int.reduceEq, Int.reduceNeg, ← List.map_drop, ← List.map_take, UInt8.reduceToNat, true_implies, implies_true, List.append_eq, y_preref1_SameToken]
                (repeat' (first | ((with_reducible refine hK _ _ ?_); clear hK K) | (with_reducible apply And.intro) | (exact trivial) | (clear hK K; assumption) | (clear hK K; omega)))
                refine round_at (inl_fin H hF2) ?_
                exact wk_ren ⟨[1, 2], []⟩ rfl rfl rfl rfl rfl (by simp -implicitDefEqProofs only [goW, goR, ↓upd_at, if_true, if_false, reduceCtorEq, ↓reduceIte, Nat.reduceEqDiff, Nat.reduceAdd, Nat.reduceSub, Nat.reduceMul, Nat.reduceBEq, Nat.reduceLT, Nat.reduceLeDiff, Int.reduceToNat, Int.reduceLE, Int.reduceLT, Int.reduceEq, Int.reduceNeg, ← List.map_drop, ← List.map_take, UInt8.reduceToNat, true_implies, implies_true, List.append_eq, y_preref1_SameToken]) (by simp -implicitDefEqProofs only [goW, goR, ↓upd_at, if_true, if_false, reduceCtorEq, ↓reduceIte, Nat.reduceEqDiff, Nat.reduceAdd, Nat.reduceSub, Nat.reduceMul, Nat.reduceBEq, Nat.reduceLT, Nat.reduceLeDiff, Int.reduceToNat, Int.reduceLE, Int.reduceLT, Int.reduceEq, Int.reduceNeg, ← List.map_drop, ← List.map_take, UInt8.reduceToNat, true_implies, implies_true, List.append_eq, y_preref1_SameToken]) (by simp -implicitDefEqProofs only [goW, goR, ↓upd_at, if_true, if_false, reduceCtorEq, ↓reduceIte, Nat.reduceEqDiff, Nat.reduceAdd, Nat.reduceSub, Nat.reduceMul, Nat.reduceBEq, Nat.reduceLT, Nat.reduceLeDiff, Int.reduceToNat, Int.reduceLE, Int.reduceLT, Int.reduceEq, Int.reduceNeg, ← List.map_drop, ← List.map_take, UInt8.reduceToNat, true_implies, implies_true, List.append_eq, y_preref1_SameToken]) rfl
            · try simp -implicitDefEqProofs only [goR, ↓upd_at, if_true, if_false, reduceCtorEq, ↓reduceIte, Nat.reduceEqDiff, Nat.reduceAdd, Nat.reduceSub, Nat.reduceMul, Nat.reduceBEq, Nat.reduceLT, Nat.reduceLeDiff, Int.reduceToNat, Int.reduceLE, Int.reduceLT, Int.reduceEq, Int.reduceNeg, ← List.map_drop, ← List.map_take, UInt8.reduceToNat, true_implies, implies_true, List.append_eq, y_preref1_SameToken] at hp4
              have hq4 := hp4
              try simp only [goT] at hq4
              refine w_condF (by simp -implicitDefEqProofs only [goR, ↓upd_at, if_true, if_false, reduceCtorEq, ↓reduceIte, Nat.reduceEqDiff, Nat.reduceAdd, Nat.reduceSub, Nat.reduceMul, Nat.reduceBEq, Nat.reduceLT, Nat.reduceLeDiff, Int.reduceToNat, Int.reduceLE, Int.reduceLT, Int.reduceEq, Int.reduceNeg, ← List.map_drop, ← List.map_take, UInt8.reduceToNat, true_implies, implies_true, List.append_eq, y_preref1_SameToken, hp4]) ?_
              refine w_exit ?_
              refine then_exit ?_
              replace H := inrO_fin H hF2
              refine round_exit ?_
              refine block_exit ?_
              refine then_normal ?_
              refine w_seq ?_
              refine w_region rfl (fun K hK => ?_)
              simp -implicitDefEqProofs only [goR, ↓upd_at, if_true, if_false, reduceCtorEq, ↓reduceIte, Nat.reduceEqDiff, Nat.reduceAdd, Nat.reduceSub, Nat.reduceMul, Nat.reduceBEq, Nat.reduceLT, Nat.reduceLeDiff, Int.reduceToNat, Int.reduceLE, Int.reduceLT, Int.reduceEq, Int.reduceNeg, ← List.map_drop, ← List.map_take, UInt8.reduceToNat, true_implies, implies_true, List.append_eq, y_preref1_SameToken]
              (repeat' (first | ((with_reducible refine hK _ _ ?_); clear hK K) | (with_reducible apply And.intro) | (exact trivial) | (clear hK K; assumption) | (clear hK K; omega)))
              refine then_normal ?_
              refine w_ret ?_
              obtain rfl := Option.some.inj H
              simp -implicitDefEqProofs only [goQ, Try.results66, goR, ↓upd_at, if_true, if_false, reduceCtorEq, ↓reduceIte, Nat.reduceEqDiff, Nat.reduceAdd, Nat.reduceSub, Nat.reduceMul, Nat.reduceBEq, Nat.reduceLT, Nat.reduceLeDiff, Int.reduceToNat, Int.reduceLE, Int.reduceLT, Int.reduceEq, Int.reduceNeg, ← List.map_drop, ← List.map_take, UInt8.reduceToNat, true_implies, implies_true, List.append_eq, y_preref1_SameToken]
theorem preref1_SameToken_c (a0 : Token) (a1 : Token) (r : Bool) (H : preref1_SameToken a0 a1 = some r) : pf_preref1_SameToken.pre [d_Token a0, d_Token a1] = True ∧ pf_preref1_SameToken.val [d_Token a0, d_Token a1] = dB r :=
  ⟨PF.of_pre (enc := c_preref1_SameToken) (f := fun a => preref1_SameToken a.1 a.2) (e := e_preref1_SameToken) (a := (a0, a1)) H, PF.of_val (enc := c_preref1_SameToken) (f := fun a => preref1_SameToken a.1 a.2) (e := e_preref1_SameToken) (a := (a0, a1)) c_preref1_SameToken_inj H⟩
noncomputable def preref1_SameTokens_b1 (a0 : List Token) (a1 : List Token) : (Int × Int) → Option ((Int × Int) ⊕ Bool)
  | (x1, x2) => if (ltI x2 x1) = true then if (0 : Int) ≤ x2 ∧ x2.toNat < a0.length then if (0 : Int) ≤ x2 ∧ x2.toNat < a1.length then (preref1_SameToken (a0.getD x2.toNat default) (a1.getD x2.toNat default)).bind fun r1 => if (!r1) = true then inrO (some false) else some (.inl (x1, IntKind.i64.wrap (x2 + 1))) else none else none else inrO (some true)
noncomputable def preref1_SameTokens (a0 : List Token) (a1 : List Token) : Option Bool :=
  if (!eqI (a0.length : Int) (a1.length : Int)) = true then some false else loopO (preref1_SameTokens_b1 a0 a1) ((a0.length : Int), 0)
def e_preref1_SameTokens : Bool → D := fun r => dB r
def c_preref1_SameTokens : (List Token) × (List Token) → List D := fun a => [(dL 11 d_Token) a.1, (dL 11 d_Token) a.2]
theorem c_preref1_SameTokens_inj : Inj c_preref1_SameTokens := by rintro ⟨a0, a1⟩ ⟨b0, b1⟩ h; simp only [c_preref1_SameTokens, List.map_cons, List.map_nil, List.cons.injEq, and_true] at h; obtain ⟨h0, h1⟩ := h; obtain rfl := (dL_inj (sz := 0) d_Token_inj _ _) h0; obtain rfl := (dL_inj (sz := 0) d_Token_inj _ _) h1; rfl
noncomputable def pf_preref1_SameTokens : PF := PF.of c_preref1_SameTokens (fun a => preref1_SameTokens a.1 a.2) e_preref1_SameTokens
noncomputable def t_preref1_SameTokens : Tab := tabOf Try.prog [(66, pf_preref1_SameToken)] []
theorem t_preref1_SameTokens_ok : TabOk t_preref1_SameTokens := tabOf_ok (by exact ⟨⟨call_66, preref1_SameToken_ok⟩, trivial⟩) (by exact trivial)
theorem y_preref1_SameTokens : ((((type_of% @tAgg_37) ∧ ((type_of% @tBytes_37) ∧ (type_of% @tCS_37))) ∧ (((type_of% @tElem_33) ∧ (type_of% @tKnown_37)) ∧ ((type_of% @tSize_37) ∧ (type_of% @tSlice_33)))) ∧ (((type_of% @tZ_37) ∧ ((type_of% @tZok_37) ∧ (type_of% @d_Call.eq_1))) ∧ (((type_of% @d_Token.eq_1) ∧ (type_of% @t_preref1_SameTokens.eq_1)) ∧ ((type_of% @c_preref1_SameTokens.eq_1) ∧ (type_of% @e_preref1_SameTokens.eq_1))))) := ⟨⟨⟨@tAgg_37, ⟨@tBytes_37, @tCS_37⟩⟩, ⟨⟨@tElem_33, @tKnown_37⟩, ⟨@tSize_37, @tSlice_33⟩⟩⟩, ⟨⟨@tZ_37, ⟨@tZok_37, @d_Call.eq_1⟩⟩, ⟨⟨@d_Token.eq_1, @t_preref1_SameTokens.eq_1⟩, ⟨@c_preref1_SameTokens.eq_1, @e_preref1_SameTokens.eq_1⟩⟩⟩⟩
set_option maxRecDepth 100000 in
set_option maxHeartbeats 4000000 in
theorem preref1_SameTokens_ok : PureOk Try.prog 32 pf_preref1_SameTokens := by
  refine pure_of (t := t_preref1_SameTokens) (pure := fun n => [66].contains n) c_preref1_SameTokens_inj rfl t_preref1_SameTokens_ok mixed (fun n hn => tabOf_pure rfl n hn) Try.func32 rfl (by kernel_rfl) (fun a => by simp [c_preref1_SameTokens, Try.ntmps32]) ?_
  rintro ⟨a0, a1⟩ out H
  simp only [preref1_SameTokens] at H
  show aC _ _ (sig0 (List.map (fun d => AV.c (C.d d)) (c_preref1_SameTokens (a0, a1)))) _ _
  refine w_seq ?_
  refine w_region rfl (fun K hK => ?_)
  simp -implicitDefEqProofs only [goR, ↓upd_at, if_true, if_false, reduceCtorEq, ↓reduceIte, Nat.reduceEqDiff, Nat.reduceAdd, Nat.reduceSub, Nat.reduceMul, Nat.reduceBEq, Nat.reduceLT, Nat.reduceLeDiff, Int.reduceToNat, Int.reduceLE, Int.reduceLT, Int.reduceEq, Int.reduceNeg, ← List.map_drop, ← List.map_take, UInt8.reduceToNat, true_implies, implies_true, List.append_eq, y_preref1_SameTokens]
  (repeat' (first | ((with_reducible refine hK _ _ ?_); clear hK K) | (with_reducible apply And.intro) | (exact trivial) | (clear hK K; assumption) | (clear hK K; omega)))
  refine then_normal ?_
  refine w_seq ?_
  refine w_seq ?_
  refine w_region rfl (fun K hK => ?_)
  simp -implicitDefEqProofs only [goR, ↓upd_at, if_true, if_false, reduceCtorEq, ↓reduceIte, Nat.reduceEqDiff, Nat.reduceAdd, Nat.reduceSub, Nat.reduceMul, Nat.reduceBEq, Nat.reduceLT, Nat.reduceLeDiff, Int.reduceToNat, Int.reduceLE, Int.reduceLT, Int.reduceEq, Int.reduceNeg, ← List.map_drop, ← List.map_take, UInt8.reduceToNat, true_implies, implies_true, List.append_eq, y_preref1_SameTokens]
  (repeat' (first | ((with_reducible refine hK _ _ ?_); clear hK K) | (with_reducible apply And.intro) | (exact trivial) | (clear hK K; assumption) | (clear hK K; omega)))
  refine then_normal ?_
  rcases bsplit H with ⟨hp1, H⟩ | ⟨hp1, H⟩
  · try simp -implicitDefEqProofs only [goR, ↓upd_at, if_true, if_false, reduceCtorEq, ↓reduceIte, Nat.reduceEqDiff, Nat.reduceAdd, Nat.reduceSub, Nat.reduceMul, Nat.reduceBEq, Nat.reduceLT, Nat.reduceLeDiff, Int.reduceToNat, Int.reduceLE, Int.reduceLT, Int.reduceEq, Int.reduceNeg, ← List.map_drop, ← List.map_take, UInt8.reduceToNat, true_implies, implies_true, List.append_eq, y_preref1_SameTokens] at hp1
    have hq1 := hp1
    try simp only [goT] at hq1
    refine w_condT (by simp -implicitDefEqProofs only [goR, ↓upd_at, if_true, if_false, reduceCtorEq, ↓reduceIte, Nat.reduceEqDiff, Nat.reduceAdd, Nat.reduceSub, Nat.reduceMul, Nat.reduceBEq, Nat.reduceLT, Nat.reduceLeDiff, Int.reduceToNat, Int.reduceLE, Int.reduceLT, Int.reduceEq, Int.reduceNeg, ← List.map_drop, ← List.map_take, UInt8.reduceToNat, true_implies, implies_true, List.append_eq, y_preref1_SameTokens, hp1]) ?_
    refine w_seq ?_
    refine w_region rfl (fun K hK => ?_)
    simp -implicitDefEqProofs only [goR, ↓upd_at, if_true, if_false, reduceCtorEq, ↓reduceIte, Nat.reduceEqDiff, Nat.reduceAdd, Nat.reduceSub, Nat.reduceMul, Nat.reduceBEq, Nat.reduceLT, Nat.reduceLeDiff, Int.reduceToNat, Int.reduceLE, Int.reduceLT, Int.reduceEq, Int.reduceNeg, ← List.map_drop, ← List.map_take, UInt8.reduceToNat, true_implies, implies_true, List.append_eq, y_preref1_SameTokens]
    (repeat' (first | ((with_reducible refine hK _ _ ?_); clear hK K) | (with_reducible apply And.intro) | (exact trivial) | (clear hK K; assumption) | (clear hK K; omega)))
    refine then_normal ?_
    refine w_ret ?_
    refine then_ret ?_
    obtain rfl := Option.some.inj H
    simp -implicitDefEqProofs only [goQ, Try.results32, goR, ↓upd_at, if_true, if_false, reduceCtorEq, ↓reduceIte, Nat.reduceEqDiff, Nat.reduceAdd, Nat.reduceSub, Nat.reduceMul, Nat.reduceBEq, Nat.reduceLT, Nat.reduceLeDiff, Int.reduceToNat, Int.reduceLE, Int.reduceLT, Int.reduceEq, Int.reduceNeg, ← List.map_drop, ← List.map_take, UInt8.reduceToNat, true_implies, implies_true, List.append_eq, y_preref1_SameTokens]
  · try simp -implicitDefEqProofs only [goR, ↓upd_at, if_true, if_false, reduceCtorEq, ↓reduceIte, Nat.reduceEqDiff, Nat.reduceAdd, Nat.reduceSub, Nat.reduceMul, Nat.reduceBEq, Nat.reduceLT, Nat.reduceLeDiff, Int.reduceToNat, Int.reduceLE, Int.reduceLT, Int.reduceEq, Int.reduceNeg, ← List.map_drop, ← List.map_take, UInt8.reduceToNat, true_implies, implies_true, List.append_eq, y_preref1_SameTokens] at hp1
    have hq1 := hp1
    try simp only [goT] at hq1
    refine w_condF (by simp -implicitDefEqProofs only [goR, ↓upd_at, if_true, if_false, reduceCtorEq, ↓reduceIte, Nat.reduceEqDiff, Nat.reduceAdd, Nat.reduceSub, Nat.reduceMul, Nat.reduceBEq, Nat.reduceLT, Nat.reduceLeDiff, Int.reduceToNat, Int.reduceLE, Int.reduceLT, Int.reduceEq, Int.reduceNeg, ← List.map_drop, ← List.map_take, UInt8.reduceToNat, true_implies, implies_true, List.append_eq, y_preref1_SameTokens, hp1]) ?_
    refine w_skip ?_
    refine then_normal ?_
    refine w_seq ?_
    refine w_seq ?_
    refine w_region rfl (fun K hK => ?_)
    simp -implicitDefEqProofs only [goR, ↓upd_at, if_true, if_false, reduceCtorEq, ↓reduceIte, Nat.reduceEqDiff, Nat.reduceAdd, Nat.reduceSub, Nat.reduceMul, Nat.reduceBEq, Nat.reduceLT, Nat.reduceLeDiff, Int.reduceToNat, Int.reduceLE, Int.reduceLT, Int.reduceEq, Int.reduceNeg, ← List.map_drop, ← List.map_take, UInt8.reduceToNat, true_implies, implies_true, List.append_eq, y_preref1_SameTokens]
    (repeat' (first | ((with_reducible refine hK _ _ ?_); clear hK K) | (with_reducible apply And.intro) | (exact trivial) | (clear hK K; assumption) | (clear hK K; omega)))
    refine then_normal ?_
    refine w_block ?_
    refine w_loop (preref1_SameTokens_b1 a0 a1) (fun s => [(0, .c (.d (.sl 11 (List.map d_Token a0)))), (1, .c (.d (.sl 11 (List.map d_Token a1)))), (12, .c (.d (.v (.int .i64 s.1)))), (13, .c (.d (.v (.int .i64 s.2))))]) (fun s => []) [] H ?_ ?_
    · exact wk_ren ⟨[], []⟩ rfl rfl rfl rfl rfl (by simp -implicitDefEqProofs only [goW, goR, ↓upd_at, if_true, if_false, reduceCtorEq, ↓reduceIte, Nat.reduceEqDiff, Nat.reduceAdd, Nat.reduceSub, Nat.reduceMul, Nat.reduceBEq, Nat.reduceLT, Nat.reduceLeDiff, Int.reduceToNat, Int.reduceLE, Int.reduceLT, Int.reduceEq, Int.reduceNeg, ← List.map_drop, ← List.map_take, UInt8.reduceToNat, true_implies, implies_true, List.append_eq, y_preref1_SameTokens]) (by simp -implicitDefEqProofs only [goW, goR, ↓upd_at, if_true, if_false, reduceCtorEq, ↓reduceIte, Nat.reduceEqDiff, Nat.reduceAdd, Nat.reduceSub, Nat.reduceMul, Nat.reduceBEq, Nat.reduceLT, Nat.reduceLeDiff, Int.reduceToNat, Int.reduceLE, Int.reduceLT, Int.reduceEq, Int.reduceNeg, ← List.map_drop, ← List.map_take, UInt8.reduceToNat, true_implies, implies_true, List.append_eq, y_preref1_SameTokens]) (by simp -implicitDefEqProofs only [goW, goR, ↓upd_at, if_true, if_false, reduceCtorEq, ↓reduceIte, Nat.reduceEqDiff, Nat.reduceAdd, Nat.reduceSub, Nat.reduceMul, Nat.reduceBEq, Nat.reduceLT, Nat.reduceLeDiff, Int.reduceToNat, Int.reduceLE, Int.reduceLT, Int.reduceEq, Int.reduceNeg, ← List.map_drop, ← List.map_take, UInt8.reduceToNat, true_implies, implies_true, List.append_eq, y_preref1_SameTokens]) rfl
    · rintro n1 ⟨x1, x2⟩ o1 H hF1
      rw [preref1_SameTokens_b1] at H
      refine w_seq ?_
      refine w_region rfl (fun K hK => ?_)
      simp -implicitDefEqProofs only [goR, ↓upd_at, if_true, if_false, reduceCtorEq, ↓reduceIte, Nat.reduceEqDiff, Nat.reduceAdd, Nat.reduceSub, Nat.reduceMul, Nat.reduceBEq, Nat.reduceLT, Nat.reduceLeDiff, Int.reduceToNat, Int.reduceLE, Int.reduceLT, Int.reduceEq, Int.reduceNeg, ← List.map_drop, ← List.map_take, UInt8.reduceToNat, true_implies, implies_true, List.append_eq, y_preref1_SameTokens]
      (repeat' (first | ((with_reducible refine hK _ _ ?_); clear hK K) | (with_reducible apply And.intro) | (exact trivial) | (clear hK K; assumption) | (clear hK K; omega)))
      refine then_normal ?_
      refine w_seq ?_
      rcases bsplit H with ⟨hp2, H⟩ | ⟨hp2, H⟩
      · try simp -implicitDefEqProofs only [goR, ↓upd_at, if_true, if_false, reduceCtorEq, ↓reduceIte, Nat.reduceEqDiff, Nat.reduceAdd, Nat.reduceSub, Nat.reduceMul, Nat.reduceBEq, Nat.reduceLT, Nat.reduceLeDiff, Int.reduceToNat, Int.reduceLE, Int.reduceLT, Int.reduceEq, Int.reduceNeg, ← List.map_drop, ← List.map_take, UInt8.reduceToNat, true_implies, implies_true, List.append_eq, y_preref1_SameTokens] at hp2
        have hq2 := hp2
        try simp only [goT] at hq2
        refine w_condT (by simp -implicitDefEqProofs only [goR, ↓upd_at, if_true, if_false, reduceCtorEq, ↓reduceIte, Nat.reduceEqDiff, Nat.reduceAdd, Nat.reduceSub, Nat.reduceMul, Nat.reduceBEq, Nat.reduceLT, Nat.reduceLeDiff, Int.reduceToNat, Int.reduceLE, Int.reduceLT, Int.reduceEq, Int.reduceNeg, ← List.map_drop, ← List.map_take, UInt8.reduceToNat, true_implies, implies_true, List.append_eq, y_preref1_SameTokens, hp2]) ?_
        refine w_skip ?_
        refine then_normal ?_
        refine w_seq ?_
        refine w_block ?_
        refine w_seq ?_
        refine w_region rfl (fun K hK => ?_)
        simp -implicitDefEqProofs only [goR, ↓upd_at, if_true, if_false, reduceCtorEq, ↓reduceIte, Nat.reduceEqDiff, Nat.reduceAdd, Nat.reduceSub, Nat.reduceMul, Nat.reduceBEq, Nat.reduceLT, Nat.reduceLeDiff, Int.reduceToNat, Int.reduceLE, Int.reduceLT, Int.reduceEq, Int.reduceNeg, ← List.map_drop, ← List.map_take, UInt8.reduceToNat, true_implies, implies_true, List.append_eq, y_preref1_SameTokens]
        (repeat' (first | ((with_reducible refine hK _ _ ?_); clear hK K) | (with_reducible apply And.intro) | (exact trivial) | (clear hK K; assumption) | (clear hK K; omega)))
        refine then_normal ?_
        refine w_seq ?_
        obtain ⟨hg1, H⟩ := gsplit H
        have g1 := map_getD d_Token a0 x2.toNat default default (by omega)
        obtain ⟨hg2, H⟩ := gsplit H
        have g2 := map_getD d_Token a1 x2.toNat default default (by omega)
        obtain ⟨r1, hr1, H⟩ := osplit H
        have hc1 := preref1_SameToken_c (a0.getD x2.toNat default) (a1.getD x2.toNat default) r1 hr1
        simp -implicitDefEqProofs only [goR, ↓upd_at, if_true, if_false, reduceCtorEq, ↓reduceIte, Nat.reduceEqDiff, Nat.reduceAdd, Nat.reduceSub, Nat.reduceMul, Nat.reduceBEq, Nat.reduceLT, Nat.reduceLeDiff, Int.reduceToNat, Int.reduceLE, Int.reduceLT, Int.reduceEq, Int.reduceNeg, ← List.map_drop, ← List.map_take, UInt8.reduceToNat, true_implies, implies_true, List.append_eq, y_preref1_SameTokens] at hc1
        refine w_region rfl (fun K hK => ?_)
        simp -implicitDefEqProofs only [goR, ↓upd_at, if_true, if_false, reduceCtorEq, ↓reduceIte, Nat.reduceEqDiff, Nat.reduceAdd, Nat.reduceSub, Nat.reduceMul, Nat.reduceBEq, Nat.reduceLT, Nat.reduceLeDiff, Int.reduceToNat, Int.reduceLE, Int.reduceLT, Int.reduceEq, Int.reduceNeg, ← List.map_drop, ← List.map_take, UInt8.reduceToNat, true_implies, implies_true, List.append_eq, y_preref1_SameTokens, g1, g2, hc1.1, hc1.2]
        (repeat' (first | ((with_reducible refine hK _ _ ?_); clear hK K) | (with_reducible apply And.intro) | (exact trivial) | (clear hK K; assumption) | (clear hK K; omega)))
        refine then_normal ?_
        rcases bsplit H with ⟨hp3, H⟩ | ⟨hp3, H⟩
        · try simp -implicitDefEqProofs only [goR, ↓upd_at, if_true, if_false, reduceCtorEq, ↓reduceIte, Nat.reduceEqDiff, Nat.reduceAdd, Nat.reduceSub, Nat.reduceMul, Nat.reduceBEq, Nat.reduceLT, Nat.reduceLeDiff, Int.reduceToNat, Int.reduceLE, Int.reduceLT, Int.reduceEq, Int.reduceNeg, ← List.map_drop, ← List.map_take, UInt8.reduceToNat, true_implies, implies_true, List.append_eq, y_preref1_SameTokens] at hp3
          have hq3 := hp3
          try simp only [goT] at hq3
          refine w_condT (by simp -implicitDefEqProofs only [goR, ↓upd_at, if_true, if_false, reduceCtorEq, ↓reduceIte, Nat.reduceEqDiff, Nat.reduceAdd, Nat.reduceSub, Nat.reduceMul, Nat.reduceBEq, Nat.reduceLT, Nat.reduceLeDiff, Int.reduceToNat, Int.reduceLE, Int.reduceLT, Int.reduceEq, Int.reduceNeg, ← List.map_drop, ← List.map_take, UInt8.reduceToNat, true_implies, implies_true, List.append_eq, y_preref1_SameTokens, hp3]) ?_
          refine w_seq ?_
          refine w_region rfl (fun K hK => ?_)
          simp -implicitDefEqProofs only [goR, ↓upd_at, if_true, if_false, reduceCtorEq, ↓reduceIte, Nat.reduceEqDiff, Nat.reduceAdd, Nat.reduceSub, Nat.reduceMul, Nat.reduceBEq, Nat.reduceLT, Nat.reduceLeDiff, Int.reduceToNat, Int.reduceLE, Int.reduceLT, Int.reduceEq, Int.reduceNeg, ← List.map_drop, ← List.map_take, UInt8.reduceToNat, true_implies, implies_true, List.append_eq, y_preref1_SameTokens]
          (repeat' (first | ((with_reducible refine hK _ _ ?_); clear hK K) | (with_reducible apply And.intro) | (exact trivial) | (clear hK K; assumption) | (clear hK K; omega)))
          refine then_normal ?_
          refine w_ret ?_
          refine block_ret ?_
          refine then_ret ?_
          replace H := inrO_fin H hF1
          refine round_ret ?_
          refine block_ret ?_
          refine then_ret ?_
          obtain rfl := Option.some.inj H
          simp -implicitDefEqProofs only [goQ, Try.results32, goR, ↓upd_at, if_true, if_false, reduceCtorEq, ↓reduceIte, Nat.reduceEqDiff, Nat.reduceAdd, Nat.reduceSub, Nat.reduceMul, Nat.reduceBEq, Nat.reduceLT, Nat.reduceLeDiff, Int.reduceToNat, Int.reduceLE, Int.reduceLT, Int.reduceEq, Int.reduceNeg, ← List.map_drop, ← List.map_take, UInt8.reduceToNat, true_implies, implies_true, List.append_eq, y_preref1_SameTokens]
        · try simp -implicitDefEqProofs only [goR, ↓upd_at, if_true, if_false, reduceCtorEq, ↓reduceIte, Nat.reduceEqDiff, Nat.reduceAdd, Nat.reduceSub, Nat.reduceMul, Nat.reduceBEq, Nat.reduceLT, Nat.reduceLeDiff, Int.reduceToNat, Int.reduceLE, Int.reduceLT, Int.reduceEq, Int.reduceNeg, ← List.map_drop, ← List.map_take, UInt8.reduceToNat, true_implies, implies_true, List.append_eq, y_preref1_SameTokens] at hp3
          have hq3 := hp3
          try simp only [goT] at hq3
          refine w_condF (by simp -implicitDefEqProofs only [goR, ↓upd_at, if_true, if_false, reduceCtorEq, ↓reduceIte, Nat.reduceEqDiff, Nat.reduceAdd, Nat.reduceSub, Nat.reduceMul, Nat.reduceBEq, Nat.reduceLT, Nat.reduceLeDiff, Int.reduceToNat, Int.reduceLE, Int.reduceLT, Int.reduceEq, Int.reduceNeg, ← List.map_drop, ← List.map_take, UInt8.reduceToNat, true_implies, implies_true, List.append_eq, y_preref1_SameTokens, hp3]) ?_
          refine w_skip ?_
          refine block_normal ?_
          refine then_normal ?_
          refine w_region rfl (fun K hK => ?_)
          simp -implicitDefEqProofs only [goR, ↓upd_at, if_true, if_false, reduceCtorEq, ↓reduceIte, Nat.reduceEqDiff, Nat.reduceAdd, Nat.reduceSub, Nat.reduceMul, Nat.reduceBEq, Nat.reduceLT, Nat.reduceLeDiff, Int.reduceToNat, Int.reduceLE, Int.reduceLT, Int.reduceEq, Int.reduceNeg, ← List.map_drop, ← List.map_take, UInt8.reduceToNat, true_implies, implies_true, List.append_eq, y_preref1_SameTokens]
          (repeat' (first | ((with_reducible refine hK _ _ ?_); clear hK K) | (with_reducible apply And.intro) | (exact trivial) | (clear hK K; assumption) | (clear hK K; omega)))
          refine round_at (inl_fin H hF1) ?_
          exact wk_ren ⟨[], []⟩ rfl rfl rfl rfl rfl (by simp -implicitDefEqProofs only [goW, goR, ↓upd_at, if_true, if_false, reduceCtorEq, ↓reduceIte, Nat.reduceEqDiff, Nat.reduceAdd, Nat.reduceSub, Nat.reduceMul, Nat.reduceBEq, Nat.reduceLT, Nat.reduceLeDiff, Int.reduceToNat, Int.reduceLE, Int.reduceLT, Int.reduceEq, Int.reduceNeg, ← List.map_drop, ← List.map_take, UInt8.reduceToNat, true_implies, implies_true, List.append_eq, y_preref1_SameTokens]) (by simp -implicitDefEqProofs only [goW, goR, ↓upd_at, if_true, if_false, reduceCtorEq, ↓reduceIte, Nat.reduceEqDiff, Nat.reduceAdd, Nat.reduceSub, Nat.reduceMul, Nat.reduceBEq, Nat.reduceLT, Nat.reduceLeDiff, Int.reduceToNat, Int.reduceLE, Int.reduceLT, Int.reduceEq, Int.reduceNeg, ← List.map_drop, ← List.map_take, UInt8.reduceToNat, true_implies, implies_true, List.append_eq, y_preref1_SameTokens]) (by simp -implicitDefEqProofs only [goW, goR, ↓upd_at, if_true, if_false, reduceCtorEq, ↓reduceIte, Nat.reduceEqDiff, Nat.reduceAdd, Nat.reduceSub, Nat.reduceMul, Nat.reduceBEq, Nat.reduceLT, Nat.reduceLeDiff, Int.reduceToNat, Int.reduceLE, Int.reduceLT, Int.reduceEq, Int.reduceNeg, ← List.map_drop, ← List.map_take, UInt8.reduceToNat, true_implies, implies_true, List.append_eq, y_preref1_SameTokens]) rfl
      · try simp -implicitDefEqProofs only [goR, ↓upd_at, if_true, if_false, reduceCtorEq, ↓reduceIte, Nat.reduceEqDiff, Nat.reduceAdd, Nat.reduceSub, Nat.reduceMul, Nat.reduceBEq, Nat.reduceLT, Nat.reduceLeDiff, Int.reduceToNat, Int.reduceLE, Int.reduceLT, Int.reduceEq, Int.reduceNeg, ← List.map_drop, ← List.map_take, UInt8.reduceToNat, true_implies, implies_true, List.append_eq, y_preref1_SameTokens] at hp2
        have hq2 := hp2
        try simp only [goT] at hq2
        refine w_condF (by simp -implicitDefEqProofs only [goR, ↓upd_at, if_true, if_false, reduceCtorEq, ↓reduceIte, Nat.reduceEqDiff, Nat.reduceAdd, Nat.reduceSub, Nat.reduceMul, Nat.reduceBEq, Nat.reduceLT, Nat.reduceLeDiff, Int.reduceToNat, Int.reduceLE, Int.reduceLT, Int.reduceEq, Int.reduceNeg, ← List.map_drop, ← List.map_take, UInt8.reduceToNat, true_implies, implies_true, List.append_eq, y_preref1_SameTokens, hp2]) ?_
        refine w_exit ?_
        refine then_exit ?_
        replace H := inrO_fin H hF1
        refine round_exit ?_
        refine block_exit ?_
        refine then_normal ?_
        refine w_seq ?_
        refine w_region rfl (fun K hK => ?_)
        simp -implicitDefEqProofs only [goR, ↓upd_at, if_true, if_false, reduceCtorEq, ↓reduceIte, Nat.reduceEqDiff, Nat.reduceAdd, Nat.reduceSub, Nat.reduceMul, Nat.reduceBEq, Nat.reduceLT, Nat.reduceLeDiff, Int.reduceToNat, Int.reduceLE, Int.reduceLT, Int.reduceEq, Int.reduceNeg, ← List.map_drop, ← List.map_take, UInt8.reduceToNat, true_implies, implies_true, List.append_eq, y_preref1_SameTokens]
        (repeat' (first | ((with_reducible refine hK _ _ ?_); clear hK K) | (with_reducible apply And.intro) | (exact trivial) | (clear hK K; assumption) | (clear hK K; omega)))
        refine then_normal ?_
        refine w_ret ?_
        obtain rfl := Option.some.inj H
        simp -implicitDefEqProofs only [goQ, Try.results32, goR, ↓upd_at, if_true, if_false, reduceCtorEq, ↓reduceIte, Nat.reduceEqDiff, Nat.reduceAdd, Nat.reduceSub, Nat.reduceMul, Nat.reduceBEq, Nat.reduceLT, Nat.reduceLeDiff, Int.reduceToNat, Int.reduceLE, Int.reduceLT, Int.reduceEq, Int.reduceNeg, ← List.map_drop, ← List.map_take, UInt8.reduceToNat, true_implies, implies_true, List.append_eq, y_preref1_SameTokens]
theorem preref1_SameTokens_c (a0 : List Token) (a1 : List Token) (r : Bool) (H : preref1_SameTokens a0 a1 = some r) : pf_preref1_SameTokens.pre [(dL 11 d_Token) a0, (dL 11 d_Token) a1] = True ∧ pf_preref1_SameTokens.val [(dL 11 d_Token) a0, (dL 11 d_Token) a1] = dB r :=
  ⟨PF.of_pre (enc := c_preref1_SameTokens) (f := fun a => preref1_SameTokens a.1 a.2) (e := e_preref1_SameTokens) (a := (a0, a1)) H, PF.of_val (enc := c_preref1_SameTokens) (f := fun a => preref1_SameTokens a.1 a.2) (e := e_preref1_SameTokens) (a := (a0, a1)) c_preref1_SameTokens_inj H⟩
theorem preref1_SameTokens_cl (l : List D) (a0 : List Token) (a1 : List Token) (r : Bool) (hl : les1 l (c_preref1_SameTokens (a0, a1))) (H : preref1_SameTokens a0 a1 = some r) : pf_preref1_SameTokens.pre l = True ∧ pf_preref1_SameTokens.val l = dB r :=
  ⟨PF.of_prel (enc := c_preref1_SameTokens) (f := fun a => preref1_SameTokens a.1 a.2) (e := e_preref1_SameTokens) (a := (a0, a1)) hl H, PF.of_vall (enc := c_preref1_SameTokens) (f := fun a => preref1_SameTokens a.1 a.2) (e := e_preref1_SameTokens) (a := (a0, a1)) c_preref1_SameTokens_inj hl H⟩
end Go.Proofs.Ytgkacglpjmndbaa
