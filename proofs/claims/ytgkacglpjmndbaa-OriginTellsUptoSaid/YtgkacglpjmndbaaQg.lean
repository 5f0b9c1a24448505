/- Functions of data for functions of the program: origin_Span, preref7_Span, origin_Right, preref7_Right, origin_Outer, origin_At, origin_Here, origin_end, preref7_Begins. Written by dec.py. -/
import Derived.Test.YtgkacglpjmndbaaQb
import Derived.Test.YtgkacglpjmndbaaQf
namespace Go.Proofs.Ytgkacglpjmndbaa
open Go.RowKit
set_option linter.unusedVariables false
set_option linter.unusedSimpArgs false
structure Source where
  Path : List UInt8
  Text : List UInt8
  deriving Inhabited, DecidableEq
def d_Source (x : Source) : D := .ag [.v (str x.Path), .v (str x.Text)]
theorem d_Source_inj (x y : Source) (h : d_Source x = d_Source y) : x = y := by
  rcases x with ⟨_, _⟩; rcases y with ⟨_, _⟩
  simp only [d_Source, D.ag.injEq, List.cons.injEq, and_true] at h
  obtain ⟨h0, h1⟩ := h
  have h0 := dS_inj _ _ h0
  have h1 := dS_inj _ _ h1
  subst_vars
  rfl
theorem d_Source_sinj (x y : Source) (h : strip1 (d_Source x) = strip1 (d_Source y)) : x = y := by
  rcases x with ⟨_, _⟩; rcases y with ⟨_, _⟩
  simp only [d_Source, strip1, strip0, List.map_cons, List.map_nil, D.ag.injEq, List.cons.injEq, and_true] at h
  obtain ⟨h0, h1⟩ := h
  have h0 := dS_inj _ _ h0
  have h1 := dS_inj _ _ h1
  subst_vars
  rfl
theorem d_Source_binj (x y : Source) (h : (d_Source x).cells.map strip1 = (d_Source y).cells.map strip1) : x = y := by
  rcases x with ⟨_, _⟩; rcases y with ⟨_, _⟩
  simp only [d_Source, D.cells, strip1, strip0, List.map_cons, List.map_nil, List.cons.injEq, and_true] at h
  obtain ⟨h0, h1⟩ := h
  have h0 := dS_inj _ _ h0
  have h1 := dS_inj _ _ h1
  subst_vars
  rfl
theorem one_Source (x : Source) : (d_Source x).cells.all D.one = true := rfl
noncomputable def origin_Span_j1 (a0 : List Source) (a1 : Token) : Bool → Option ((List UInt8) × Bool)
  | x1 => if x1 = true then some ([], false) else if (0 : Int) ≤ a1.File ∧ a1.File.toNat < a0.length then if (0 : Int) ≤ a1.At ∧ a1.At ≤ a1.End ∧ a1.End ≤ (((a0.getD a1.File.toNat default).Text).length : Int) then (splice_Text (List.take (a1.End.toNat - a1.At.toNat) (List.drop a1.At.toNat ((a0.getD a1.File.toNat default).Text)))).bind fun r1 => some (r1.Text, true) else none else none
noncomputable def origin_Span (a0 : List Source) (a1 : Token) : Option ((List UInt8) × Bool) :=
  if (!eqI a1.Made 0) = true then origin_Span_j1 a0 a1 true else if (ltI a1.File 0) = true then origin_Span_j1 a0 a1 true else if (leI (a0.length : Int) a1.File) = true then origin_Span_j1 a0 a1 true else if (ltI a1.At 0) = true then origin_Span_j1 a0 a1 true else if (ltI a1.End a1.At) = true then origin_Span_j1 a0 a1 true else if (0 : Int) ≤ a1.File ∧ a1.File.toNat < a0.length then origin_Span_j1 a0 a1 (ltI (((a0.getD a1.File.toNat default).Text).length : Int) a1.End) else none
def e_origin_Span : (List UInt8) × Bool → D := fun r => .tu [dS r.1, dB r.2]
def c_origin_Span : (List Source) × Token → List D := fun a => [(dL 2 d_Source) a.1, d_Token a.2]
theorem c_origin_Span_inj : Inj c_origin_Span := by rintro ⟨a0, a1⟩ ⟨b0, b1⟩ h; simp only [c_origin_Span, List.map_cons, List.map_nil, List.cons.injEq, and_true] at h; obtain ⟨h0, h1⟩ := h; obtain rfl := (dL_inj (sz := 0) d_Source_inj _ _) h0; obtain rfl := (d_Token_sinj _ _) h1; rfl
noncomputable def pf_origin_Span : PF := PF.of c_origin_Span (fun a => origin_Span a.1 a.2) e_origin_Span
noncomputable def t_origin_Span : Tab := tabOf Try.prog [(15, pf_splice_Text)] []
theorem t_origin_Span_ok : TabOk t_origin_Span := tabOf_ok (by exact ⟨⟨call_15, splice_Text_ok⟩, trivial⟩) (by exact trivial)
theorem y_origin_Span : ((((((type_of% @Try.underlying9) ∧ (type_of% @tAgg_3)) ∧ ((type_of% @tAgg_79) ∧ ((type_of% @tAgg_9) ∧ (type_of% @tBytes_79)))) ∧ (((type_of% @tCS_3) ∧ (type_of% @tCS_79)) ∧ ((type_of% @tCS_9) ∧ ((type_of% @tElem_32) ∧ (type_of% @tFld_24_0))))) ∧ ((((type_of% @tFld_37_10) ∧ (type_of% @tFld_37_4)) ∧ ((type_of% @tFld_37_5) ∧ ((type_of% @tFld_37_6) ∧ (type_of% @tFld_79_1)))) ∧ (((type_of% @tKnown_3) ∧ ((type_of% @tKnown_79) ∧ (type_of% @tKnown_9))) ∧ ((type_of% @tOff_24_0) ∧ ((type_of% @tOff_37_10) ∧ (type_of% @tOff_37_4)))))) ∧ (((((type_of% @tOff_37_5) ∧ (type_of% @tOff_37_6)) ∧ ((type_of% @tOff_79_1) ∧ ((type_of% @tSize_3) ∧ (type_of% @tSize_79)))) ∧ (((type_of% @tSize_9) ∧ ((type_of% @tSlice_32) ∧ (type_of% @tStruct_24_0))) ∧ ((type_of% @tStruct_37_10) ∧ ((type_of% @tStruct_37_4) ∧ (type_of% @tStruct_37_5))))) ∧ ((((type_of% @tStruct_37_6) ∧ (type_of% @tStruct_79_1)) ∧ ((type_of% @tZ_79) ∧ ((type_of% @tZok_79) ∧ (type_of% @d_Spliced.eq_1)))) ∧ (((type_of% @d_Call.eq_1) ∧ ((type_of% @d_Token.eq_1) ∧ (type_of% @d_Source.eq_1))) ∧ ((type_of% @t_origin_Span.eq_1) ∧ ((type_of% @c_origin_Span.eq_1) ∧ (type_of% @e_origin_Span.eq_1))))))) := ⟨⟨⟨⟨⟨@Try.underlying9, @tAgg_3⟩, ⟨@tAgg_79, ⟨@tAgg_9, @tBytes_79⟩⟩⟩, ⟨⟨@tCS_3, @tCS_79⟩, ⟨@tCS_9, ⟨@tElem_32, @tFld_24_0⟩⟩⟩⟩, ⟨⟨⟨@tFld_37_10, @tFld_37_4⟩, ⟨@tFld_37_5, ⟨@tFld_37_6, @tFld_79_1⟩⟩⟩, ⟨⟨@tKnown_3, ⟨@tKnown_79, @tKnown_9⟩⟩, ⟨@tOff_24_0, ⟨@tOff_37_10, @tOff_37_4⟩⟩⟩⟩⟩, ⟨⟨⟨⟨@tOff_37_5, @tOff_37_6⟩, ⟨@tOff_79_1, ⟨@tSize_3, @tSize_79⟩⟩⟩, ⟨⟨@tSize_9, ⟨@tSlice_32, @tStruct_24_0⟩⟩, ⟨@tStruct_37_10, ⟨@tStruct_37_4, @tStruct_37_5⟩⟩⟩⟩, ⟨⟨⟨@tStruct_37_6, @tStruct_79_1⟩, ⟨@tZ_79, ⟨@tZok_79, @d_Spliced.eq_1⟩⟩⟩, ⟨⟨@d_Call.eq_1, ⟨@d_Token.eq_1, @d_Source.eq_1⟩⟩, ⟨@t_origin_Span.eq_1, ⟨@c_origin_Span.eq_1, @e_origin_Span.eq_1⟩⟩⟩⟩⟩⟩
set_option maxRecDepth 100000 in
set_option maxHeartbeats 4000000 in
theorem origin_Span_ok : PureOk Try.prog 22 pf_origin_Span := by
  refine pure_of (t := t_origin_Span) (pure := fun n => [15].contains n) c_origin_Span_inj rfl t_origin_Span_ok mixed (fun n hn => tabOf_pure rfl n hn) Try.func22 rfl (by kernel_rfl) (fun a => by simp [c_origin_Span, Try.ntmps22]) ?_
  rintro ⟨a0, a1⟩ out H
  simp only [origin_Span] at H
  show aC _ _ (sig0 (List.map (fun d => AV.c (C.d d)) (c_origin_Span (a0, a1)))) _ _
  refine w_seq ?_
  refine w_region rfl (fun K hK => ?_)
  simp -implicitDefEqProofs only [goR, ↓upd_at, if_true, if_false, reduceCtorEq, ↓reduceIte, Nat.reduceEqDiff, Nat.reduceAdd, Nat.reduceSub, Nat.reduceMul, Nat.reduceBEq, Nat.reduceLT, Nat.reduceLeDiff, Int.reduceToNat, Int.reduceLE, Int.reduceLT, Int.reduceEq, Int.reduceNeg, ← List.map_drop, ← List.map_take, UInt8.reduceToNat, true_implies, implies_true, List.append_eq, y_origin_Span]
  (repeat' (first | ((with_reducible refine hK _ _ ?_); clear hK K) | (with_reducible apply And.intro) | (exact trivial) | (clear hK K; assumption) | (clear hK K; omega)))
  refine then_normal ?_
  refine w_seq ?_
  refine w_cut (origin_Span_j1 a0 a1) (fun s => [(0, .c (.d (.sl 2 (List.map d_Source a0)))), (3, .c (.pt 1 0)), (44, .c (.d (.v (.bool s))))]) (fun s => [[.d (.v (.int .i64 a1.Kind)), .d (.v (str a1.Text)), .d (.v (.bool a1.Space)), .d (.v (.bool a1.First)), .d (.v (.int .i64 a1.File)), .d (.v (.int .i64 a1.At)), .d (.v (.int .i64 a1.End)), .d (.v (.int .i64 a1.Line)), .d (.sl 1 (List.map dS a1.Hide)), .d (.sl 3 (List.map d_Call a1.Calls)), .d (.v (.int .i64 a1.Made))]]) [] out ?_ ?_
  · rcases bsplit H with ⟨hp2, H⟩ | ⟨hp2, H⟩
    · try simp -implicitDefEqProofs only [goR, ↓upd_at, if_true, if_false, reduceCtorEq, ↓reduceIte, Nat.reduceEqDiff, Nat.reduceAdd, Nat.reduceSub, Nat.reduceMul, Nat.reduceBEq, Nat.reduceLT, Nat.reduceLeDiff, Int.reduceToNat, Int.reduceLE, Int.reduceLT, Int.reduceEq, Int.reduceNeg, ← List.map_drop, ← List.map_take, UInt8.reduceToNat, true_implies, implies_true, List.append_eq, y_origin_Span] at hp2
      have hq2 := hp2
      try simp only [goT] at hq2
      refine w_region rfl (fun K hK => ?_)
      simp -implicitDefEqProofs only [goR, ↓upd_at, if_true, if_false, reduceCtorEq, ↓reduceIte, Nat.reduceEqDiff, Nat.reduceAdd, Nat.reduceSub, Nat.reduceMul, Nat.reduceBEq, Nat.reduceLT, Nat.reduceLeDiff, Int.reduceToNat, Int.reduceLE, Int.reduceLT, Int.reduceEq, Int.reduceNeg, ← List.map_drop, ← List.map_take, UInt8.reduceToNat, true_implies, implies_true, List.append_eq, y_origin_Span, hp2]
      (repeat' (first | ((with_reducible refine hK _ _ ?_); clear hK K) | (with_reducible apply And.intro) | (exact trivial) | (clear hK K; assumption) | (clear hK K; omega)))
      refine cut_at H ?_
      exact wk_ren ⟨[1], []⟩ rfl rfl rfl rfl rfl (by simp -implicitDefEqProofs only [goW, goR, ↓upd_at, if_true, if_false, reduceCtorEq, ↓reduceIte, Nat.reduceEqDiff, Nat.reduceAdd, Nat.reduceSub, Nat.reduceMul, Nat.reduceBEq, Nat.reduceLT, Nat.reduceLeDiff, Int.reduceToNat, Int.reduceLE, Int.reduceLT, Int.reduceEq, Int.reduceNeg, ← List.map_drop, ← List.map_take, UInt8.reduceToNat, true_implies, implies_true, List.append_eq, y_origin_Span]) (by simp -implicitDefEqProofs only [goW, goR, ↓upd_at, if_true, if_false, reduceCtorEq, ↓reduceIte, Nat.reduceEqDiff, Nat.reduceAdd, Nat.reduceSub, Nat.reduceMul, Nat.reduceBEq, Nat.reduceLT, Nat.reduceLeDiff, Int.reduceToNat, Int.reduceLE, Int.reduceLT, Int.reduceEq, Int.reduceNeg, ← List.map_drop, ← List.map_take, UInt8.reduceToNat, true_implies, implies_true, List.append_eq, y_origin_Span]) (by simp -implicitDefEqProofs only [goW, goR, ↓upd_at, if_true, if_false, reduceCtorEq, ↓reduceIte, Nat.reduceEqDiff, Nat.reduceAdd, Nat.reduceSub, Nat.reduceMul, Nat.reduceBEq, Nat.reduceLT, Nat.reduceLeDiff, Int.reduceToNat, Int.reduceLE, Int.reduceLT, Int.reduceEq, Int.reduceNeg, ← List.map_drop, ← List.map_take, UInt8.reduceToNat, true_implies, implies_true, List.append_eq, y_origin_Span]) rfl
    · try simp -implicitDefEqProofs only [goR, ↓upd_at, if_true, if_false, reduceCtorEq, ↓reduceIte, Nat.reduceEqDiff, Nat.reduceAdd, Nat.reduceSub, Nat.reduceMul, Nat.reduceBEq, Nat.reduceLT, Nat.reduceLeDiff, Int.reduceToNat, Int.reduceLE, Int.reduceLT, Int.reduceEq, Int.reduceNeg, ← List.map_drop, ← List.map_take, UInt8.reduceToNat, true_implies, implies_true, List.append_eq, y_origin_Span] at hp2
      have hq2 := hp2
      try simp only [goT] at hq2
      rcases bsplit H with ⟨hp3, H⟩ | ⟨hp3, H⟩
      · try simp -implicitDefEqProofs only [goR, ↓upd_at, if_true, if_false, reduceCtorEq, ↓reduceIte, Nat.reduceEqDiff, Nat.reduceAdd, Nat.reduceSub, Nat.reduceMul, Nat.reduceBEq, Nat.reduceLT, Nat.reduceLeDiff, Int.reduceToNat, Int.reduceLE, Int.reduceLT, Int.reduceEq, Int.reduceNeg, ← List.map_drop, ← List.map_take, UInt8.reduceToNat, true_implies, implies_true, List.append_eq, y_origin_Span] at hp3
        have hq3 := hp3
        try simp only [goT] at hq3
        refine w_region rfl (fun K hK => ?_)
        simp -implicitDefEqProofs only [goR, ↓upd_at, if_true, if_false, reduceCtorEq, ↓reduceIte, Nat.reduceEqDiff, Nat.reduceAdd, Nat.reduceSub, Nat.reduceMul, Nat.reduceBEq, Nat.reduceLT, Nat.reduceLeDiff, Int.reduceToNat, Int.reduceLE, Int.reduceLT, Int.reduceEq, Int.reduceNeg, ← List.map_drop, ← List.map_take, UInt8.reduceToNat, true_implies, implies_true, List.append_eq, y_origin_Span, hp2, hp3]
        (repeat' (first | ((with_reducible refine hK _ _ ?_); clear hK K) | (with_reducible apply And.intro) | (exact trivial) | (clear hK K; assumption) | (clear hK K; omega)))
        refine cut_at H ?_
        exact wk_ren ⟨[1], []⟩ rfl rfl rfl rfl rfl (by simp -implicitDefEqProofs only [goW, goR, ↓upd_at, if_true, if_false, reduceCtorEq, ↓reduceIte, Nat.reduceEqDiff, Nat.reduceAdd, Nat.reduceSub, Nat.reduceMul, Nat.reduceBEq, Nat.reduceLT, Nat.reduceLeDiff, Int.reduceToNat, Int.reduceLE, Int.reduceLT, Int.reduceEq, Int.reduceNeg, ← List.map_drop, ← List.map_take, UInt8.reduceToNat, true_implies, implies_true, List.append_eq, y_origin_Span]) (by simp -implicitDefEqProofs only [goW, goR, ↓upd_at, if_true, if_false, reduceCtorEq, ↓reduceIte, Nat.reduceEqDiff, Nat.reduceAdd, Nat.reduceSub, Nat.reduceMul, Nat.reduceBEq, Nat.reduceLT, Nat.reduceLeDiff, Int.reduceToNat, Int.reduceLE, Int.reduceLT, Int.reduceEq, Int.reduceNeg, ← List.map_drop, ← List.map_take, UInt8.reduceToNat, true_implies, implies_true, List.append_eq, y_origin_Span]) (by simp -implicitDefEqProofs only [goW, goR, ↓upd_at, if_true, if_false, reduceCtorEq, ↓reduceIte, Nat.reduceEqDiff, Nat.reduceAdd, Nat.reduceSub, Nat.reduceMul, Nat.reduceBEq, Nat.reduceLT, Nat.reduceLeDiff, Int.reduceToNat, Int.reduceLE, Int.reduceLT, Int.reduceEq, Int.reduceNeg, ← List.map_drop, ← List.map_take, UInt8.reduceToNat, true_implies, implies_true, List.append_eq, y_origin_Span]) rfl
      · try simp -implicitDefEqProofs only [goR, ↓upd_at, if_true, if_false, reduceCtorEq, ↓reduceIte, Nat.reduceEqDiff, Nat.reduceAdd, Nat.reduceSub, Nat.reduceMul, Nat.reduceBEq, Nat.reduceLT, Nat.reduceLeDiff, Int.reduceToNat, Int.reduceLE, Int.reduceLT, Int.reduceEq, Int.reduceNeg, ← List.map_drop, ← List.map_take, UInt8.reduceToNat, true_implies, implies_true, List.append_eq, y_origin_Span] at hp3
        have hq3 := hp3
        try simp only [goT] at hq3
        rcases bsplit H with ⟨hp4, H⟩ | ⟨hp4, H⟩
        · try simp -implicitDefEqProofs only [goR, ↓upd_at, if_true, if_false, reduceCtorEq, ↓reduceIte, Nat.reduceEqDiff, Nat.reduceAdd, Nat.reduceSub, Nat.reduceMul, Nat.reduceBEq, Nat.reduceLT, Nat.reduceLeDiff, Int.reduceToNat, Int.reduceLE, Int.reduceLT, Int.reduceEq, Int.reduceNeg, ← List.map_drop, ← List.map_take, UInt8.reduceToNat, true_implies, implies_true, List.append_eq, y_origin_Span] at hp4
          have hq4 := hp4
          try simp only [goT] at hq4
          refine w_region rfl (fun K hK => ?_)
          simp -implicitDefEqProofs only [goR, ↓upd_at, if_true, if_false, reduceCtorEq, ↓reduceIte, Nat.reduceEqDiff, Nat.reduceAdd, Nat.reduceSub, Nat.reduceMul, Nat.reduceBEq, Nat.reduceLT, Nat.reduceLeDiff, Int.reduceToNat, Int.reduceLE, Int.reduceLT, Int.reduceEq, Int.reduceNeg, ← List.map_drop, ← List.map_take, UInt8.reduceToNat, true_implies, implies_true, List.append_eq, y_origin_Span, hp2, hp3, hp4]
          (repeat' (first | ((with_reducible refine hK _ _ ?_); clear hK K) | (with_reducible apply And.intro) | (exact trivial) | (clear hK K; assumption) | (clear hK K; omega)))
          refine cut_at H ?_
          exact wk_ren ⟨[1], []⟩ rfl rfl rfl rfl rfl (by simp -implicitDefEqProofs only [goW, goR, ↓upd_at, if_true, if_false, reduceCtorEq, ↓reduceIte, Nat.reduceEqDiff, Nat.reduceAdd, Nat.reduceSub, Nat.reduceMul, Nat.reduceBEq, Nat.reduceLT, Nat.reduceLeDiff, Int.reduceToNat, Int.reduceLE, Int.reduceLT, Int.reduceEq, Int.reduceNeg, ← List.map_drop, ← List.map_take, UInt8.reduceToNat, true_implies, implies_true, List.append_eq, y_origin_Span]) (by simp -implicitDefEqProofs only [goW, goR, ↓upd_at, if_true, if_false, reduceCtorEq, ↓reduceIte, Nat.reduceEqDiff, Nat.reduceAdd, Nat.reduceSub, Nat.reduceMul, Nat.reduceBEq, Nat.reduceLT, Nat.reduceLeDiff, Int.reduceToNat, Int.reduceLE, Int.reduceLT, Int.reduceEq, Int.reduceNeg, ← List.map_drop, ← List.map_take, UInt8.reduceToNat, true_implies, implies_true, List.append_eq, y_origin_Span]) (by simp -implicitDefEqProofs only [goW, goR, ↓upd_at, if_true, if_false, reduceCtorEq, ↓reduceIte, Nat.reduceEqDiff, Nat.reduceAdd, Nat.reduceSub, Nat.reduceMul, Nat.reduceBEq, Nat.reduceLT, Nat.reduceLeDiff, Int.reduceToNat, Int.reduceLE, Int.reduceLT, Int.reduceEq, Int.reduceNeg, ← List.map_drop, ← List.map_take, UInt8.reduceToNat, true_implies, implies_true, List.append_eq, y_origin_Span]) rfl
        · try simp -implicitDefEqProofs only [goR, ↓upd_at, if_true, if_false, reduceCtorEq, ↓reduceIte, Nat.reduceEqDiff, Nat.reduceAdd, Nat.reduceSub, Nat.reduceMul, Nat.reduceBEq, Nat.reduceLT, Nat.reduceLeDiff, Int.reduceToNat, Int.reduceLE, Int.reduceLT, Int.reduceEq, Int.reduceNeg, ← List.map_drop, ← List.map_take, UInt8.reduceToNat, true_implies, implies_true, List.append_eq, y_origin_Span] at hp4
          have hq4 := hp4
          try simp only [goT] at hq4
          rcases bsplit H with ⟨hp5, H⟩ | ⟨hp5, H⟩
          · try simp -implicitDefEqProofs only [goR, ↓upd_at, if_true, if_false, reduceCtorEq, ↓reduceIte, Nat.reduceEqDiff, Nat.reduceAdd, Nat.reduceSub, Nat.reduceMul, Nat.reduceBEq, Nat.reduceLT, Nat.reduceLeDiff, Int.reduceToNat, Int.reduceLE, Int.reduceLT, Int.reduceEq, Int.reduceNeg, ← List.map_drop, ← List.map_take, UInt8.reduceToNat, true_implies, implies_true, List.append_eq, y_origin_Span] at hp5
            have hq5 := hp5
            try simp only [goT] at hq5
            refine w_region rfl (fun K hK => ?_)
            simp -implicitDefEqProofs only [goR, ↓upd_at, if_true, if_false, reduceCtorEq, ↓reduceIte, Nat.reduceEqDiff, Nat.reduceAdd, Nat.reduceSub, Nat.reduceMul, Nat.reduceBEq, Nat.reduceLT, Nat.reduceLeDiff, Int.reduceToNat, Int.reduceLE, Int.reduceLT, Int.reduceEq, Int.reduceNeg, ← List.map_drop, ← List.map_take, UInt8.reduceToNat, true_implies, implies_true, List.append_eq, y_origin_Span, hp2, hp3, hp4, hp5]
            (repeat' (first | ((with_reducible refine hK _ _ ?_); clear hK K) | (with_reducible apply And.intro) | (exact trivial) | (clear hK K; assumption) | (clear hK K; omega)))
            refine cut_at H ?_
            exact wk_ren ⟨[1], []⟩ rfl rfl rfl rfl rfl (by simp -implicitDefEqProofs only [goW, goR, ↓upd_at, if_true, if_false, reduceCtorEq, ↓reduceIte, Nat.reduceEqDiff, Nat.reduceAdd, Nat.reduceSub, Nat.reduceMul, Nat.reduceBEq, Nat.reduceLT, Nat.reduceLeDiff, Int.reduceToNat, Int.reduceLE, Int.reduceLT, Int.reduceEq, Int.reduceNeg, ← List.map_drop, ← List.map_take, UInt8.reduceToNat, true_implies, implies_true, List.append_eq, y_origin_Span]) (by simp -implicitDefEqProofs only [goW, goR, ↓upd_at, if_true, if_false, reduceCtorEq, ↓reduceIte, Nat.reduceEqDiff, Nat.reduceAdd, Nat.reduceSub, Nat.reduceMul, Nat.reduceBEq, Nat.reduceLT, Nat.reduceLeDiff, Int.reduceToNat, Int.reduceLE, Int.reduceLT, Int.reduceEq, Int.reduceNeg, ← List.map_drop, ← List.map_take, UInt8.reduceToNat, true_implies, implies_true, List.append_eq, y_origin_Span]) (by simp -implicitDefEqProofs only [goW, goR, ↓upd_at, if_true, if_false, reduceCtorEq, ↓reduceIte, Nat.reduceEqDiff, Nat.reduceAdd, Nat.reduceSub, Nat.reduceMul, Nat.reduceBEq, Nat.reduceLT, Nat.reduceLeDiff, Int.reduceToNat, Int.reduceLE, Int.reduceLT, Int.reduceEq, Int.reduceNeg, ← List.map_drop, ← List.map_take, UInt8.reduceToNat, true_implies, implies_true, List.append_eq, y_origin_Span]) rfl
          · try simp -implicitDefEqProofs only [goR, ↓upd_at, if_true, if_false, reduceCtorEq, ↓reduceIte, Nat.reduceEqDiff, Nat.reduceAdd, Nat.reduceSub, Nat.reduceMul, Nat.reduceBEq, Nat.reduceLT, Nat.reduceLeDiff, Int.reduceToNat, Int.reduceLE, Int.reduceLT, Int.reduceEq, Int.reduceNeg, ← List.map_drop, ← List.map_take, UInt8.reduceToNat, true_implies, implies_true, List.append_eq, y_origin_Span] at hp5
            have hq5 := hp5
            try simp only [goT] at hq5
            rcases bsplit H with ⟨hp6, H⟩ | ⟨hp6, H⟩
            · try simp -implicitDefEqProofs only [goR, ↓upd_at, if_true, if_false, reduceCtorEq, ↓reduceIte, Nat.reduceEqDiff, Nat.reduceAdd, Nat.reduceSub, Nat.reduceMul, Nat.reduceBEq, Nat.reduceLT, Nat.reduceLeDiff, Int.reduceToNat, Int.reduceLE, Int.reduceLT, Int.reduceEq, Int.reduceNeg, ← List.map_drop, ← List.map_take, UInt8.reduceToNat, true_implies, implies_true, List.append_eq, y_origin_Span] at hp6
              have hq6 := hp6
              try simp only [goT] at hq6
              refine w_region rfl (fun K hK => ?_)
              simp -implicitDefEqProofs only [goR, ↓upd_at, if_true, if_false, reduceCtorEq, ↓reduceIte, Nat.reduceEqDiff, Nat.reduceAdd, Nat.reduceSub, Nat.reduceMul, Nat.reduceBEq, Nat.reduceLT, Nat.reduceLeDiff, Int.reduceToNat, Int.reduceLE, Int.reduceLT, Int.reduceEq, Int.reduceNeg, ← List.map_drop, ← List.map_take, UInt8.reduceToNat, true_implies, implies_true, List.append_eq, y_origin_Span, hp2, hp3, hp4, hp5, hp6]
              (repeat' (first | ((with_reducible refine hK _ _ ?_); clear hK K) | (with_reducible apply And.intro) | (exact trivial) | (clear hK K; assumption) | (clear hK K; omega)))
              refine cut_at H ?_
              exact wk_ren ⟨[1], []⟩ rfl rfl rfl rfl rfl (by simp -implicitDefEqProofs only [goW, goR, ↓upd_at, if_true, if_false, reduceCtorEq, ↓reduceIte, Nat.reduceEqDiff, Nat.reduceAdd, Nat.reduceSub, Nat.reduceMul, Nat.reduceBEq, Nat.reduceLT, Nat.reduceLeDiff, Int.reduceToNat, Int.reduceLE, Int.reduceLT, Int.reduceEq, Int.reduceNeg, ← List.map_drop, ← List.map_take, UInt8.reduceToNat, true_implies, implies_true, List.append_eq, y_origin_Span]) (by simp -implicitDefEqProofs only [goW, goR, ↓upd_at, if_true, if_false, reduceCtorEq, ↓reduceIte, Nat.reduceEqDiff, Nat.reduceAdd, Nat.reduceSub, Nat.reduceMul, Nat.reduceBEq, Nat.reduceLT, Nat.reduceLeDiff, Int.reduceToNat, Int.reduceLE, Int.reduceLT, Int.reduceEq, Int.reduceNeg, ← List.map_drop, ← List.map_take, UInt8.reduceToNat, true_implies, implies_true, List.append_eq, y_origin_Span]) (by simp -implicitDefEqProofs only [goW, goR, ↓upd_at, if_true, if_false, reduceCtorEq, ↓reduceIte, Nat.reduceEqDiff, Nat.reduceAdd, Nat.reduceSub, Nat.reduceMul, Nat.reduceBEq, Nat.reduceLT, Nat.reduceLeDiff, Int.reduceToNat, Int.reduceLE, Int.reduceLT, Int.reduceEq, Int.reduceNeg, ← List.map_drop, ← List.map_take, UInt8.reduceToNat, true_implies, implies_true, List.append_eq, y_origin_Span]) rfl
            · try simp -implicitDefEqProofs only [goR, ↓upd_at, if_true, if_false, reduceCtorEq, ↓reduceIte, Nat.reduceEqDiff, Nat.reduceAdd, Nat.reduceSub, Nat.reduceMul, Nat.reduceBEq, Nat.reduceLT, Nat.reduceLeDiff, Int.reduceToNat, Int.reduceLE, Int.reduceLT, Int.reduceEq, Int.reduceNeg, ← List.map_drop, ← List.map_take, UInt8.reduceToNat, true_implies, implies_true, List.append_eq, y_origin_Span] at hp6
              have hq6 := hp6
              try simp only [goT] at hq6
              obtain ⟨hg3, H⟩ := gsplit H
              have g2 := map_getD d_Source a0 a1.File.toNat default default (by omega)
              refine w_region rfl (fun K hK => ?_)
              simp -implicitDefEqProofs only [goR, ↓upd_at, if_true, if_false, reduceCtorEq, ↓reduceIte, Nat.reduceEqDiff, Nat.reduceAdd, Nat.reduceSub, Nat.reduceMul, Nat.reduceBEq, Nat.reduceLT, Nat.reduceLeDiff, Int.reduceToNat, Int.reduceLE, Int.reduceLT, Int.reduceEq, Int.reduceNeg, ← List.map_drop, ← List.map_take, UInt8.reduceToNat, true_implies, implies_true, List.append_eq, y_origin_Span, hp2, hp3, hp4, hp5, hp6, g2]
              (repeat' (first | ((with_reducible refine hK _ _ ?_); clear hK K) | (with_reducible apply And.intro) | (exact trivial) | (clear hK K; assumption) | (clear hK K; omega)))
              refine cut_at H ?_
              exact wk_ren ⟨[1], []⟩ rfl rfl rfl rfl rfl (by simp -implicitDefEqProofs only [goW, goR, ↓upd_at, if_true, if_false, reduceCtorEq, ↓reduceIte, Nat.reduceEqDiff, Nat.reduceAdd, Nat.reduceSub, Nat.reduceMul, Nat.reduceBEq, Nat.reduceLT, Nat.reduceLeDiff, Int.reduceToNat, Int.reduceLE, Int.reduceLT, Int.reduceEq, Int.reduceNeg, ← List.map_drop, ← List.map_take, UInt8.reduceToNat, true_implies, implies_true, List.append_eq, y_origin_Span]) (by simp -implicitDefEqProofs only [goW, goR, ↓upd_at, if_true, if_false, reduceCtorEq, ↓reduceIte, Nat.reduceEqDiff, Nat.reduceAdd, Nat.reduceSub, Nat.reduceMul, Nat.reduceBEq, Nat.reduceLT, Nat.reduceLeDiff, Int.reduceToNat, Int.reduceLE, Int.reduceLT, Int.reduceEq, Int.reduceNeg, ← List.map_drop, ← List.map_take, UInt8.reduceToNat, true_implies, implies_true, List.append_eq, y_origin_Span]) (by simp -implicitDefEqProofs only [goW, goR, ↓upd_at, if_true, if_false, reduceCtorEq, ↓reduceIte, Nat.reduceEqDiff, Nat.reduceAdd, Nat.reduceSub, Nat.reduceMul, Nat.reduceBEq, Nat.reduceLT, Nat.reduceLeDiff, Int.reduceToNat, Int.reduceLE, Int.reduceLT, Int.reduceEq, Int.reduceNeg, ← List.map_drop, ← List.map_take, UInt8.reduceToNat, true_implies, implies_true, List.append_eq, y_origin_Span]) rfl
  · rintro x1 H
    rw [origin_Span_j1] at H
    rcases bsplit H with ⟨hp1, H⟩ | ⟨hp1, H⟩
    · try simp -implicitDefEqProofs only [goR, ↓upd_at, if_true, if_false, reduceCtorEq, ↓reduceIte, Nat.reduceEqDiff, Nat.reduceAdd, Nat.reduceSub, Nat.reduceMul, Nat.reduceBEq, Nat.reduceLT, Nat.reduceLeDiff, Int.reduceToNat, Int.reduceLE, Int.reduceLT, Int.reduceEq, Int.reduceNeg, ← List.map_drop, ← List.map_take, UInt8.reduceToNat, true_implies, implies_true, List.append_eq, y_origin_Span] at hp1
      have hq1 := hp1
      try simp only [goT] at hq1
      refine w_condT (by simp -implicitDefEqProofs only [goR, ↓upd_at, if_true, if_false, reduceCtorEq, ↓reduceIte, Nat.reduceEqDiff, Nat.reduceAdd, Nat.reduceSub, Nat.reduceMul, Nat.reduceBEq, Nat.reduceLT, Nat.reduceLeDiff, Int.reduceToNat, Int.reduceLE, Int.reduceLT, Int.reduceEq, Int.reduceNeg, ← List.map_drop, ← List.map_take, UInt8.reduceToNat, true_implies, implies_true, List.append_eq, y_origin_Span, hp1]) ?_
      refine w_seq ?_
      refine w_region rfl (fun K hK => ?_)
      simp -implicitDefEqProofs only [goR, ↓upd_at, if_true, if_false, reduceCtorEq, ↓reduceIte, Nat.reduceEqDiff, Nat.reduceAdd, Nat.reduceSub, Nat.reduceMul, Nat.reduceBEq, Nat.reduceLT, Nat.reduceLeDiff, Int.reduceToNat, Int.reduceLE, Int.reduceLT, Int.reduceEq, Int.reduceNeg, ← List.map_drop, ← List.map_take, UInt8.reduceToNat, true_implies, implies_true, List.append_eq, y_origin_Span]
      (repeat' (first | ((with_reducible refine hK _ _ ?_); clear hK K) | (with_reducible apply And.intro) | (exact trivial) | (clear hK K; assumption) | (clear hK K; omega)))
      refine then_normal ?_
      refine w_ret ?_
      refine then_ret ?_
      obtain rfl := Option.some.inj H
      simp -implicitDefEqProofs only [goQ, Try.results22, goR, ↓upd_at, if_true, if_false, reduceCtorEq, ↓reduceIte, Nat.reduceEqDiff, Nat.reduceAdd, Nat.reduceSub, Nat.reduceMul, Nat.reduceBEq, Nat.reduceLT, Nat.reduceLeDiff, Int.reduceToNat, Int.reduceLE, Int.reduceLT, Int.reduceEq, Int.reduceNeg, ← List.map_drop, ← List.map_take, UInt8.reduceToNat, true_implies, implies_true, List.append_eq, y_origin_Span]
    · try simp -implicitDefEqProofs only [goR, ↓upd_at, if_true, if_false, reduceCtorEq, ↓reduceIte, Nat.reduceEqDiff, Nat.reduceAdd, Nat.reduceSub, Nat.reduceMul, Nat.reduceBEq, Nat.reduceLT, Nat.reduceLeDiff, Int.reduceToNat, Int.reduceLE, Int.reduceLT, Int.reduceEq, Int.reduceNeg, ← List.map_drop, ← List.map_take, UInt8.reduceToNat, true_implies, implies_true, List.append_eq, y_origin_Span] at hp1
      have hq1 := hp1
      try simp only [goT] at hq1
      refine w_condF (by simp -implicitDefEqProofs only [goR, ↓upd_at, if_true, if_false, reduceCtorEq, ↓reduceIte, Nat.reduceEqDiff, Nat.reduceAdd, Nat.reduceSub, Nat.reduceMul, Nat.reduceBEq, Nat.reduceLT, Nat.reduceLeDiff, Int.reduceToNat, Int.reduceLE, Int.reduceLT, Int.reduceEq, Int.reduceNeg, ← List.map_drop, ← List.map_take, UInt8.reduceToNat, true_implies, implies_true, List.append_eq, y_origin_Span, hp1]) ?_
      refine w_skip ?_
      refine then_normal ?_
      refine w_seq ?_
      obtain ⟨hg1, H⟩ := gsplit H
      have g1 := map_getD d_Source a0 a1.File.toNat default default (by omega)
      obtain ⟨hg2, H⟩ := gsplit H
      obtain ⟨r1, hr1, H⟩ := osplit H
      have hc1 := splice_Text_c (List.take (a1.End.toNat - a1.At.toNat) (List.drop a1.At.toNat ((a0.getD a1.File.toNat default).Text))) r1 hr1
      simp -implicitDefEqProofs only [goR, ↓upd_at, if_true, if_false, reduceCtorEq, ↓reduceIte, Nat.reduceEqDiff, Nat.reduceAdd, Nat.reduceSub, Nat.reduceMul, Nat.reduceBEq, Nat.reduceLT, Nat.reduceLeDiff, Int.reduceToNat, Int.reduceLE, Int.reduceLT, Int.reduceEq, Int.reduceNeg, ← List.map_drop, ← List.map_take, UInt8.reduceToNat, true_implies, implies_true, List.append_eq, y_origin_Span] at hc1
      refine w_region rfl (fun K hK => ?_)
      simp -implicitDefEqProofs only [goR, ↓upd_at, if_true, if_false, reduceCtorEq, ↓reduceIte, Nat.reduceEqDiff, Nat.reduceAdd, Nat.reduceSub, Nat.reduceMul, Nat.reduceBEq, Nat.reduceLT, Nat.reduceLeDiff, Int.reduceToNat, Int.reduceLE, Int.reduceLT, Int.reduceEq, Int.reduceNeg, ← List.map_drop, ← List.map_take, UInt8.reduceToNat, true_implies, implies_true, List.append_eq, y_origin_Span, g1, hc1.1, hc1.2]
      (repeat' (first | ((with_reducible refine hK _ _ ?_); clear hK K) | (with_reducible apply And.intro) | (exact trivial) | (clear hK K; assumption) | (clear hK K; omega)))
      refine then_normal ?_
      refine w_ret ?_
      obtain rfl := Option.some.inj H
      simp -implicitDefEqProofs only [goQ, Try.results22, goR, ↓upd_at, if_true, if_false, reduceCtorEq, ↓reduceIte, Nat.reduceEqDiff, Nat.reduceAdd, Nat.reduceSub, Nat.reduceMul, Nat.reduceBEq, Nat.reduceLT, Nat.reduceLeDiff, Int.reduceToNat, Int.reduceLE, Int.reduceLT, Int.reduceEq, Int.reduceNeg, ← List.map_drop, ← List.map_take, UInt8.reduceToNat, true_implies, implies_true, List.append_eq, y_origin_Span]
theorem origin_Span_c (a0 : List Source) (a1 : Token) (r : (List UInt8) × Bool) (H : origin_Span a0 a1 = some r) : pf_origin_Span.pre [(dL 2 d_Source) a0, d_Token a1] = True ∧ pf_origin_Span.val [(dL 2 d_Source) a0, d_Token a1] = .tu [dS r.1, dB r.2] :=
  ⟨PF.of_pre (enc := c_origin_Span) (f := fun a => origin_Span a.1 a.2) (e := e_origin_Span) (a := (a0, a1)) H, PF.of_val (enc := c_origin_Span) (f := fun a => origin_Span a.1 a.2) (e := e_origin_Span) (a := (a0, a1)) c_origin_Span_inj H⟩
theorem origin_Span_cl (l : List D) (a0 : List Source) (a1 : Token) (r : (List UInt8) × Bool) (hl : les1 l (c_origin_Span (a0, a1))) (H : origin_Span a0 a1 = some r) : pf_origin_Span.pre l = True ∧ pf_origin_Span.val l = .tu [dS r.1, dB r.2] :=
  ⟨PF.of_prel (enc := c_origin_Span) (f := fun a => origin_Span a.1 a.2) (e := e_origin_Span) (a := (a0, a1)) hl H, PF.of_vall (enc := c_origin_Span) (f := fun a => origin_Span a.1 a.2) (e := e_origin_Span) (a := (a0, a1)) c_origin_Span_inj hl H⟩
noncomputable def preref7_Span_j1 (a0 : List Source) (a1 : Token) : Bool → Option ((List UInt8) × Bool)
  | x1 => if x1 = true then some ([], false) else if (0 : Int) ≤ a1.File ∧ a1.File.toNat < a0.length then if (0 : Int) ≤ a1.At ∧ a1.At ≤ a1.End ∧ a1.End ≤ (((a0.getD a1.File.toNat default).Text).length : Int) then (preref1_Splice (List.take (a1.End.toNat - a1.At.toNat) (List.drop a1.At.toNat ((a0.getD a1.File.toNat default).Text)))).bind fun r1 => some (r1.Text, true) else none else none
noncomputable def preref7_Span (a0 : List Source) (a1 : Token) : Option ((List UInt8) × Bool) :=
  if (!eqI a1.Made 0) = true then preref7_Span_j1 a0 a1 true else if (ltI a1.File 0) = true then preref7_Span_j1 a0 a1 true else if (leI (a0.length : Int) a1.File) = true then preref7_Span_j1 a0 a1 true else if (ltI a1.At 0) = true then preref7_Span_j1 a0 a1 true else if (ltI a1.End a1.At) = true then preref7_Span_j1 a0 a1 true else if (0 : Int) ≤ a1.File ∧ a1.File.toNat < a0.length then preref7_Span_j1 a0 a1 (ltI (((a0.getD a1.File.toNat default).Text).length : Int) a1.End) else none
def e_preref7_Span : (List UInt8) × Bool → D := fun r => .tu [dS r.1, dB r.2]
def c_preref7_Span : (List Source) × Token → List D := fun a => [(dL 2 d_Source) a.1, d_Token a.2]
theorem c_preref7_Span_inj : Inj c_preref7_Span := by rintro ⟨a0, a1⟩ ⟨b0, b1⟩ h; simp only [c_preref7_Span, List.map_cons, List.map_nil, List.cons.injEq, and_true] at h; obtain ⟨h0, h1⟩ := h; obtain rfl := (dL_inj (sz := 0) d_Source_inj _ _) h0; obtain rfl := (d_Token_sinj _ _) h1; rfl
noncomputable def pf_preref7_Span : PF := PF.of c_preref7_Span (fun a => preref7_Span a.1 a.2) e_preref7_Span
noncomputable def t_preref7_Span : Tab := tabOf Try.prog [(16, pf_preref1_Splice)] []
theorem t_preref7_Span_ok : TabOk t_preref7_Span := tabOf_ok (by exact ⟨⟨call_16, preref1_Splice_ok⟩, trivial⟩) (by exact trivial)
theorem y_preref7_Span : ((((((type_of% @Try.underlying9) ∧ (type_of% @tAgg_3)) ∧ ((type_of% @tAgg_79) ∧ ((type_of% @tAgg_9) ∧ (type_of% @tBytes_79)))) ∧ (((type_of% @tCS_3) ∧ (type_of% @tCS_79)) ∧ ((type_of% @tCS_9) ∧ ((type_of% @tElem_32) ∧ (type_of% @tFld_24_0))))) ∧ ((((type_of% @tFld_37_10) ∧ (type_of% @tFld_37_4)) ∧ ((type_of% @tFld_37_5) ∧ ((type_of% @tFld_37_6) ∧ (type_of% @tFld_79_1)))) ∧ (((type_of% @tKnown_3) ∧ ((type_of% @tKnown_79) ∧ (type_of% @tKnown_9))) ∧ ((type_of% @tOff_24_0) ∧ ((type_of% @tOff_37_10) ∧ (type_of% @tOff_37_4)))))) ∧ (((((type_of% @tOff_37_5) ∧ (type_of% @tOff_37_6)) ∧ ((type_of% @tOff_79_1) ∧ ((type_of% @tSize_3) ∧ (type_of% @tSize_79)))) ∧ (((type_of% @tSize_9) ∧ ((type_of% @tSlice_32) ∧ (type_of% @tStruct_24_0))) ∧ ((type_of% @tStruct_37_10) ∧ ((type_of% @tStruct_37_4) ∧ (type_of% @tStruct_37_5))))) ∧ ((((type_of% @tStruct_37_6) ∧ (type_of% @tStruct_79_1)) ∧ ((type_of% @tZ_79) ∧ ((type_of% @tZok_79) ∧ (type_of% @d_Spliced.eq_1)))) ∧ (((type_of% @d_Call.eq_1) ∧ ((type_of% @d_Token.eq_1) ∧ (type_of% @d_Source.eq_1))) ∧ ((type_of% @t_preref7_Span.eq_1) ∧ ((type_of% @c_preref7_Span.eq_1) ∧ (type_of% @e_preref7_Span.eq_1))))))) := ⟨⟨⟨⟨⟨@Try.underlying9, @tAgg_3⟩, ⟨@tAgg_79, ⟨@tAgg_9, @tBytes_79⟩⟩⟩, ⟨⟨@tCS_3, @tCS_79⟩, ⟨@tCS_9, ⟨@tElem_32, @tFld_24_0⟩⟩⟩⟩, ⟨⟨⟨@tFld_37_10, @tFld_37_4⟩, ⟨@tFld_37_5, ⟨@tFld_37_6, @tFld_79_1⟩⟩⟩, ⟨⟨@tKnown_3, ⟨@tKnown_79, @tKnown_9⟩⟩, ⟨@tOff_24_0, ⟨@tOff_37_10, @tOff_37_4⟩⟩⟩⟩⟩, ⟨⟨⟨⟨@tOff_37_5, @tOff_37_6⟩, ⟨@tOff_79_1, ⟨@tSize_3, @tSize_79⟩⟩⟩, ⟨⟨@tSize_9, ⟨@tSlice_32, @tStruct_24_0⟩⟩, ⟨@tStruct_37_10, ⟨@tStruct_37_4, @tStruct_37_5⟩⟩⟩⟩, ⟨⟨⟨@tStruct_37_6, @tStruct_79_1⟩, ⟨@tZ_79, ⟨@tZok_79, @d_Spliced.eq_1⟩⟩⟩, ⟨⟨@d_Call.eq_1, ⟨@d_Token.eq_1, @d_Source.eq_1⟩⟩, ⟨@t_preref7_Span.eq_1, ⟨@c_preref7_Span.eq_1, @e_preref7_Span.eq_1⟩⟩⟩⟩⟩⟩
set_option maxRecDepth 100000 in
set_option maxHeartbeats 4000000 in
theorem preref7_Span_ok : PureOk Try.prog 23 pf_preref7_Span := by
  refine pure_of (t := t_preref7_Span) (pure := fun n => [16].contains n) c_preref7_Span_inj rfl t_preref7_Span_ok mixed (fun n hn => tabOf_pure rfl n hn) Try.func23 rfl (by kernel_rfl) (fun a => by simp [c_preref7_Span, Try.ntmps23]) ?_
  rintro ⟨a0, a1⟩ out H
  simp only [preref7_Span] at H
  show aC _ _ (sig0 (List.map (fun d => AV.c (C.d d)) (c_preref7_Span (a0, a1)))) _ _
  refine w_seq ?_
  refine w_region rfl (fun K hK => ?_)
  simp -implicitDefEqProofs only [goR, ↓upd_at, if_true, if_false, reduceCtorEq, ↓reduceIte, Nat.reduceEqDiff, Nat.reduceAdd, Nat.reduceSub, Nat.reduceMul, Nat.reduceBEq, Nat.reduceLT, Nat.reduceLeDiff, Int.reduceToNat, Int.reduceLE, Int.reduceLT, Int.reduceEq, Int.reduceNeg, ← List.map_drop, ← List.map_take, UInt8.reduceToNat, true_implies, implies_true, List.append_eq, y_preref7_Span]
  (repeat' (first | ((with_reducible refine hK _ _ ?_); clear hK K) | (with_reducible apply And.intro) | (exact trivial) | (clear hK K; assumption) | (clear hK K; omega)))
  refine then_normal ?_
  refine w_seq ?_
  refine w_cut (preref7_Span_j1 a0 a1) (fun s => [(0, .c (.d (.sl 2 (List.map d_Source a0)))), (3, .c (.pt 1 0)), (44, .c (.d (.v (.bool s))))]) (fun s => [[.d (.v (.int .i64 a1.Kind)), .d (.v (str a1.Text)), .d (.v (.bool a1.Space)), .d (.v (.bool a1.First)), .d (.v (.int .i64 a1.File)), .d (.v (.int .i64 a1.At)), .d (.v (.int .i64 a1.End)), .d (.v (.int .i64 a1.Line)), .d (.sl 1 (List.map dS a1.Hide)), .d (.sl 3 (List.map d_Call a1.Calls)), .d (.v (.int .i64 a1.Made))]]) [] out ?_ ?_
  · rcases bsplit H with ⟨hp2, H⟩ | ⟨hp2, H⟩
    · try simp -implicitDefEqProofs only [goR, ↓upd_at, if_true, if_false, reduceCtorEq, ↓reduceIte, Nat.reduceEqDiff, Nat.reduceAdd, Nat.reduceSub, Nat.reduceMul, Nat.reduceBEq, Nat.reduceLT, Nat.reduceLeDiff, Int.reduceToNat, Int.reduceLE, Int.reduceLT, Int.reduceEq, Int.reduceNeg, ← List.map_drop, ← List.map_take, UInt8.reduceToNat, true_implies, implies_true, List.append_eq, y_preref7_Span] at hp2
      have hq2 := hp2
      try simp only [goT] at hq2
      refine w_region rfl (fun K hK => ?_)
      simp -implicitDefEqProofs only [goR, ↓upd_at, if_true, if_false, reduceCtorEq, ↓reduceIte, Nat.reduceEqDiff, Nat.reduceAdd, Nat.reduceSub, Nat.reduceMul, Nat.reduceBEq, Nat.reduceLT, Nat.reduceLeDiff, Int.reduceToNat, Int.reduceLE, Int.reduceLT, Int.reduceEq, Int.reduceNeg, ← List.map_drop, ← List.map_take, UInt8.reduceToNat, true_implies, implies_true, List.append_eq, y_preref7_Span, hp2]
      (repeat' (first | ((with_reducible refine hK _ _ ?_); clear hK K) | (with_reducible apply And.intro) | (exact trivial) | (clear hK K; assumption) | (clear hK K; omega)))
      refine cut_at H ?_
      exact wk_ren ⟨[1], []⟩ rfl rfl rfl rfl rfl (by simp -implicitDefEqProofs only [goW, goR, ↓upd_at, if_true, if_false, reduceCtorEq, ↓reduceIte, Nat.reduceEqDiff, Nat.reduceAdd, Nat.reduceSub, Nat.reduceMul, Nat.reduceBEq, Nat.reduceLT, Nat.reduceLeDiff, Int.reduceToNat, Int.reduceLE, Int.reduceLT, Int.reduceEq, Int.reduceNeg, ← List.map_drop, ← List.map_take, UInt8.reduceToNat, true_implies, implies_true, List.append_eq, y_preref7_Span]) (by simp -implicitDefEqProofs only [goW, goR, ↓upd_at, if_true, if_false, reduceCtorEq, ↓reduceIte, Nat.reduceEqDiff, Nat.reduceAdd, Nat.reduceSub, Nat.reduceMul, Nat.reduceBEq, Nat.reduceLT, Nat.reduceLeDiff, Int.reduceToNat, Int.reduceLE, Int.reduceLT, Int.reduceEq, Int.reduceNeg, ← List.map_drop, ← List.map_take, UInt8.reduceToNat, true_implies, implies_true, List.append_eq, y_preref7_Span]) (by simp -implicitDefEqProofs only [goW, goR, ↓upd_at, if_true, if_false, reduceCtorEq, ↓reduceIte, Nat.reduceEqDiff, Nat.reduceAdd, Nat.reduceSub, Nat.reduceMul, Nat.reduceBEq, Nat.reduceLT, Nat.reduceLeDiff, Int.reduceToNat, Int.reduceLE, Int.reduceLT, Int.reduceEq, Int.reduceNeg, ← List.map_drop, ← List.map_take, UInt8.reduceToNat, true_implies, implies_true, List.append_eq, y_preref7_Span]) rfl
    · try simp -implicitDefEqProofs only [goR, ↓upd_at, if_true, if_false, reduceCtorEq, ↓reduceIte, Nat.reduceEqDiff, Nat.reduceAdd, Nat.reduceSub, Nat.reduceMul, Nat.reduceBEq, Nat.reduceLT, Nat.reduceLeDiff, Int.reduceToNat, Int.reduceLE, Int.reduceLT, Int.reduceEq, Int.reduceNeg, ← List.map_drop, ← List.map_take, UInt8.reduceToNat, true_implies, implies_true, List.append_eq, y_preref7_Span] at hp2
      have hq2 := hp2
      try simp only [goT] at hq2
      rcases bsplit H with ⟨hp3, H⟩ | ⟨hp3, H⟩
      · try simp -implicitDefEqProofs only [goR, ↓upd_at, if_true, if_false, reduceCtorEq, ↓reduceIte, Nat.reduceEqDiff, Nat.reduceAdd, Nat.reduceSub, Nat.reduceMul, Nat.reduceBEq, Nat.reduceLT, Nat.reduceLeDiff, Int.reduceToNat, Int.reduceLE, Int.reduceLT, Int.reduceEq, Int.reduceNeg, ← List.map_drop, ← List.map_take, UInt8.reduceToNat, true_implies, implies_true, List.append_eq, y_preref7_Span] at hp3
        have hq3 := hp3
        try simp only [goT] at hq3
        refine w_region rfl (fun K hK => ?_)
        simp -implicitDefEqProofs only [goR, ↓upd_at, if_true, if_false, reduceCtorEq, ↓reduceIte, Nat.reduceEqDiff, Nat.reduceAdd, Nat.reduceSub, Nat.reduceMul, Nat.reduceBEq, Nat.reduceLT, Nat.reduceLeDiff, Int.reduceToNat, Int.reduceLE, Int.reduceLT, Int.reduceEq, Int.reduceNeg, ← List.map_drop, ← List.map_take, UInt8.reduceToNat, true_implies, implies_true, List.append_eq, y_preref7_Span, hp2, hp3]
        (repeat' (first | ((with_reducible refine hK _ _ ?_); clear hK K) | (with_reducible apply And.intro) | (exact trivial) | (clear hK K; assumption) | (clear hK K; omega)))
        refine cut_at H ?_
        exact wk_ren ⟨[1], []⟩ rfl rfl rfl rfl rfl (by simp -implicitDefEqProofs only [goW, goR, ↓upd_at, if_true, if_false, reduceCtorEq, ↓reduceIte, Nat.reduceEqDiff, Nat.reduceAdd, Nat.reduceSub, Nat.reduceMul, Nat.reduceBEq, Nat.reduceLT, Nat.reduceLeDiff, Int.reduceToNat, Int.reduceLE, Int.reduceLT, Int.reduceEq, Int.reduceNeg, ← List.map_drop, ← List.map_take, UInt8.reduceToNat, true_implies, implies_true, List.append_eq, y_preref7_Span]) (by simp -implicitDefEqProofs only [goW, goR, ↓upd_at, if_true, if_false, reduceCtorEq, ↓reduceIte, Nat.reduceEqDiff, Nat.reduceAdd, Nat.reduceSub, Nat.reduceMul, Nat.reduceBEq, Nat.reduceLT, Nat.reduceLeDiff, Int.reduceToNat, Int.reduceLE, Int.reduceLT, Int.reduceEq, Int.reduceNeg, ← List.map_drop, ← List.map_take, UInt8.reduceToNat, true_implies, implies_true, List.append_eq, y_preref7_Span]) (by simp -implicitDefEqProofs only [goW, goR, ↓upd_at, if_true, if_false, reduceCtorEq, ↓reduceIte, Nat.reduceEqDiff, Nat.reduceAdd, Nat.reduceSub, Nat.reduceMul, Nat.reduceBEq, Nat.reduceLT, Nat.reduceLeDiff, Int.reduceToNat, Int.reduceLE, Int.reduceLT, Int.reduceEq, Int.reduceNeg, ← List.map_drop, ← List.map_take, UInt8.reduceToNat, true_implies, implies_true, List.append_eq, y_preref7_Span]) rfl
      · try simp -implicitDefEqProofs only [goR, ↓upd_at, if_true, if_false, reduceCtorEq, ↓reduceIte, Nat.reduceEqDiff, Nat.reduceAdd, Nat.reduceSub, Nat.reduceMul, Nat.reduceBEq, Nat.reduceLT, Nat.reduceLeDiff, Int.reduceToNat, Int.reduceLE, Int.reduceLT, Int.reduceEq, Int.reduceNeg, ← List.map_drop, ← List.map_take, UInt8.reduceToNat, true_implies, implies_true, List.append_eq, y_preref7_Span] at hp3
        have hq3 := hp3
        try simp only [goT] at hq3
        rcases bsplit H with ⟨hp4, H⟩ | ⟨hp4, H⟩
        · try simp -implicitDefEqProofs only [goR, ↓upd_at, if_true, if_false, reduceCtorEq, ↓reduceIte, Nat.reduceEqDiff, Nat.reduceAdd, Nat.reduceSub, Nat.reduceMul, Nat.reduceBEq, Nat.reduceLT, Nat.reduceLeDiff, Int.reduceToNat, Int.reduceLE, Int.reduceLT, Int.reduceEq, Int.reduceNeg, ← List.map_drop, ← List.map_take, UInt8.reduceToNat, true_implies, implies_true, List.append_eq, y_preref7_Span] at hp4
          have hq4 := hp4
          try simp only [goT] at hq4
          refine w_region rfl (fun K hK => ?_)
          simp -implicitDefEqProofs only [goR, ↓upd_at, if_true, if_false, reduceCtorEq, ↓reduceIte, Nat.reduceEqDiff, Nat.reduceAdd, Nat.reduceSub, Nat.reduceMul, Nat.reduceBEq, Nat.reduceLT, Nat.reduceLeDiff, Int.reduceToNat, Int.reduceLE, Int.reduceLT, Int.reduceEq, Int.reduceNeg, ← List.map_drop, ← List.map_take, UInt8.reduceToNat, true_implies, implies_true, List.append_eq, y_preref7_Span, hp2, hp3, hp4]
          (repeat' (first | ((with_reducible refine hK _ _ ?_); clear hK K) | (with_reducible apply And.intro) | (exact trivial) | (clear hK K; assumption) | (clear hK K; omega)))
          refine cut_at H ?_
          exact wk_ren ⟨[1], []⟩ rfl rfl rfl rfl rfl (by simp -implicitDefEqProofs only [goW, goR, ↓upd_at, if_true, if_false, reduceCtorEq, ↓reduceIte, Nat.reduceEqDiff, Nat.reduceAdd, Nat.reduceSub, Nat.reduceMul, Nat.reduceBEq, Nat.reduceLT, Nat.reduceLeDiff, Int.reduceToNat, Int.reduceLE, Int.reduceLT, Int.reduceEq, Int.reduceNeg, ← List.map_drop, ← List.map_take, UInt8.reduceToNat, true_implies, implies_true, List.append_eq, y_preref7_Span]) (by simp -implicitDefEqProofs only [goW, goR, ↓upd_at, if_true, if_false, reduceCtorEq, ↓reduceIte, Nat.reduceEqDiff, Nat.reduceAdd, Nat.reduceSub, Nat.reduceMul, Nat.reduceBEq, Nat.reduceLT, Nat.reduceLeDiff, Int.reduceToNat, Int.reduceLE, Int.reduceLT, Int.reduceEq, Int.reduceNeg, ← List.map_drop, ← List.map_take, UInt8.reduceToNat, true_implies, implies_true, List.append_eq, y_preref7_Span]) (by simp -implicitDefEqProofs only [goW, goR, ↓upd_at, if_true, if_false, reduceCtorEq, ↓reduceIte, Nat.reduceEqDiff, Nat.reduceAdd, Nat.reduceSub, Nat.reduceMul, Nat.reduceBEq, Nat.reduceLT, Nat.reduceLeDiff, Int.reduceToNat, Int.reduceLE, Int.reduceLT, Int.reduceEq, Int.reduceNeg, ← List.map_drop, ← List.map_take, UInt8.reduceToNat, true_implies, implies_true, List.append_eq, y_preref7_Span]) rfl
        · try simp -implicitDefEqProofs only [goR, ↓upd_at, if_true, if_false, reduceCtorEq, ↓reduceIte, Nat.reduceEqDiff, Nat.reduceAdd, Nat.reduceSub, Nat.reduceMul, Nat.reduceBEq, Nat.reduceLT, Nat.reduceLeDiff, Int.reduceToNat, Int.reduceLE, Int.reduceLT, Int.reduceEq, Int.reduceNeg, ← List.map_drop, ← List.map_take, UInt8.reduceToNat, true_implies, implies_true, List.append_eq, y_preref7_Span] at hp4
          have hq4 := hp4
          try simp only [goT] at hq4
          rcases bsplit H with ⟨hp5, H⟩ | ⟨hp5, H⟩
          · try simp -implicitDefEqProofs only [goR, ↓upd_at, if_true, if_false, reduceCtorEq, ↓reduceIte, Nat.reduceEqDiff, Nat.reduceAdd, Nat.reduceSub, Nat.reduceMul, Nat.reduceBEq, Nat.reduceLT, Nat.reduceLeDiff, Int.reduceToNat, Int.reduceLE, Int.reduceLT, Int.reduceEq, Int.reduceNeg, ← List.map_drop, ← List.map_take, UInt8.reduceToNat, true_implies, implies_true, List.append_eq, y_preref7_Span] at hp5
            have hq5 := hp5
            try simp only [goT] at hq5
            refine w_region rfl (fun K hK => ?_)
            simp -implicitDefEqProofs only [goR, ↓upd_at, if_true, if_false, reduceCtorEq, ↓reduceIte, Nat.reduceEqDiff, Nat.reduceAdd, Nat.reduceSub, Nat.reduceMul, Nat.reduceBEq, Nat.reduceLT, Nat.reduceLeDiff, Int.reduceToNat, Int.reduceLE, Int.reduceLT, Int.reduceEq, Int.reduceNeg, ← List.map_drop, ← List.map_take, UInt8.reduceToNat, true_implies, implies_true, List.append_eq, y_preref7_Span, hp2, hp3, hp4, hp5]
            (repeat' (first | ((with_reducible refine hK _ _ ?_); clear hK K) | (with_reducible apply And.intro) | (exact trivial) | (clear hK K; assumption) | (clear hK K; omega)))
            refine cut_at H ?_
            exact wk_ren ⟨[1], []⟩ rfl rfl rfl rfl rfl (by simp -implicitDefEqProofs only [goW, goR, ↓upd_at, if_true, if_false, reduceCtorEq, ↓reduceIte, Nat.reduceEqDiff, Nat.reduceAdd, Nat.reduceSub, Nat.reduceMul, Nat.reduceBEq, Nat.reduceLT, Nat.reduceLeDiff, Int.reduceToNat, Int.reduceLE, Int.reduceLT, Int.reduceEq, Int.reduceNeg, ← List.map_drop, ← List.map_take, UInt8.reduceToNat, true_implies, implies_true, List.append_eq, y_preref7_Span]) (by simp -implicitDefEqProofs only [goW, goR, ↓upd_at, if_true, if_false, reduceCtorEq, ↓reduceIte, Nat.reduceEqDiff, Nat.reduceAdd, Nat.reduceSub, Nat.reduceMul, Nat.reduceBEq, Nat.reduceLT, Nat.reduceLeDiff, Int.reduceToNat, Int.reduceLE, Int.reduceLT, Int.reduceEq, Int.reduceNeg, ← List.map_drop, ← List.map_take, UInt8.reduceToNat, true_implies, implies_true, List.append_eq, y_preref7_Span]) (by simp -implicitDefEqProofs only [goW, goR, ↓upd_at, if_true, if_false, reduceCtorEq, ↓reduceIte, Nat.reduceEqDiff, Nat.reduceAdd, Nat.reduceSub, Nat.reduceMul, Nat.reduceBEq, Nat.reduceLT, Nat.reduceLeDiff, Int.reduceToNat, Int.reduceLE, Int.reduceLT, Int.reduceEq, Int.reduceNeg, ← List.map_drop, ← List.map_take, UInt8.reduceToNat, true_implies, implies_true, List.append_eq, y_preref7_Span]) rfl
          · try simp -implicitDefEqProofs only [goR, ↓upd_at, if_true, if_false, reduceCtorEq, ↓reduceIte, Nat.reduceEqDiff, Nat.reduceAdd, Nat.reduceSub, Nat.reduceMul, Nat.reduceBEq, Nat.reduceLT, Nat.reduceLeDiff, Int.reduceToNat, Int.reduceLE, Int.reduceLT, Int.reduceEq, Int.reduceNeg, ← List.map_drop, ← List.map_take, UInt8.reduceToNat, true_implies, implies_true, List.append_eq, y_preref7_Span] at hp5
            have hq5 := hp5
            try simp only [goT] at hq5
            rcases bsplit H with ⟨hp6, H⟩ | ⟨hp6, H⟩
            · try simp -implicitDefEqProofs only [goR, ↓upd_at, if_true, if_false, reduceCtorEq, ↓reduceIte, Nat.reduceEqDiff, Nat.reduceAdd, Nat.reduceSub, Nat.reduceMul, Nat.reduceBEq, Nat.reduceLT, Nat.reduceLeDiff, Int.reduceToNat, Int.reduceLE, Int.reduceLT, Int.reduceEq, Int.reduceNeg, ← List.map_drop, ← List.map_take, UInt8.reduceToNat, true_implies, implies_true, List.append_eq, y_preref7_Span] at hp6
              have hq6 := hp6
              try simp only [goT] at hq6
              refine w_region rfl (fun K hK => ?_)
              simp -implicitDefEqProofs only [goR, ↓upd_at, if_true, if_false, reduceCtorEq, ↓reduceIte, Nat.reduceEqDiff, Nat.reduceAdd, Nat.reduceSub, Nat.reduceMul, Nat.reduceBEq, Nat.reduceLT, Nat.reduceLeDiff, Int.reduceToNat, Int.reduceLE, Int.reduceLT, Int.reduceEq, Int.reduceNeg, ← List.map_drop, ← List.map_take, UInt8.reduceToNat, true_implies, implies_true, List.append_eq, y_preref7_Span, hp2, hp3, hp4, hp5, hp6]
              (repeat' (first | ((with_reducible refine hK _ _ ?_); clear hK K) | (with_reducible apply And.intro) | (exact trivial) | (clear hK K; assumption) | (clear hK K; omega)))
              refine cut_at H ?_
              exact wk_ren ⟨[1], []⟩ rfl rfl rfl rfl rfl (by simp -implicitDefEqProofs only [goW, goR, ↓upd_at, if_true, if_false, reduceCtorEq, ↓reduceIte, Nat.reduceEqDiff, Nat.reduceAdd, Nat.reduceSub, Nat.reduceMul, Nat.reduceBEq, Nat.reduceLT, Nat.reduceLeDiff, Int.reduceToNat, Int.reduceLE, Int.reduceLT, Int.reduceEq, Int.reduceNeg, ← List.map_drop, ← List.map_take, UInt8.reduceToNat, true_implies, implies_true, List.append_eq, y_preref7_Span]) (by simp -implicitDefEqProofs only [goW, goR, ↓upd_at, if_true, if_false, reduceCtorEq, ↓reduceIte, Nat.reduceEqDiff, Nat.reduceAdd, Nat.reduceSub, Nat.reduceMul, Nat.reduceBEq, Nat.reduceLT, Nat.reduceLeDiff, Int.reduceToNat, Int.reduceLE, Int.reduceLT, Int.reduceEq, Int.reduceNeg, ← List.map_drop, ← List.map_take, UInt8.reduceToNat, true_implies, implies_true, List.append_eq, y_preref7_Span]) (by simp -implicitDefEqProofs only [goW, goR, ↓upd_at, if_true, if_false, reduceCtorEq, ↓reduceIte, Nat.reduceEqDiff, Nat.reduceAdd, Nat.reduceSub, Nat.reduceMul, Nat.reduceBEq, Nat.reduceLT, Nat.reduceLeDiff, Int.reduceToNat, Int.reduceLE, Int.reduceLT, Int.reduceEq, Int.reduceNeg, ← List.map_drop, ← List.map_take, UInt8.reduceToNat, true_implies, implies_true, List.append_eq, y_preref7_Span]) rfl
            · try simp -implicitDefEqProofs only [goR, ↓upd_at, if_true, if_false, reduceCtorEq, ↓reduceIte, Nat.reduceEqDiff, Nat.reduceAdd, Nat.reduceSub, Nat.reduceMul, Nat.reduceBEq, Nat.reduceLT, Nat.reduceLeDiff, Int.reduceToNat, Int.reduceLE, Int.reduceLT, Int.reduceEq, Int.reduceNeg, ← List.map_drop, ← List.map_take, UInt8.reduceToNat, true_implies, implies_true, List.append_eq, y_preref7_Span] at hp6
              have hq6 := hp6
              try simp only [goT] at hq6
              obtain ⟨hg3, H⟩ := gsplit H
              have g2 := map_getD d_Source a0 a1.File.toNat default default (by omega)
              refine w_region rfl (fun K hK => ?_)
              simp -implicitDefEqProofs only [goR, ↓upd_at, if_true, if_false, reduceCtorEq, ↓reduceIte, Nat.reduceEqDiff, Nat.reduceAdd, Nat.reduceSub, Nat.reduceMul, Nat.reduceBEq, Nat.reduceLT, Nat.reduceLeDiff, Int.reduceToNat, Int.reduceLE, Int.reduceLT, Int.reduceEq, Int.reduceNeg, ← List.map_drop, ← List.map_take, UInt8.reduceToNat, true_implies, implies_true, List.append_eq, y_preref7_Span, hp2, hp3, hp4, hp5, hp6, g2]
              (repeat' (first | ((with_reducible refine hK _ _ ?_); clear hK K) | (with_reducible apply And.intro) | (exact trivial) | (clear hK K; assumption) | (clear hK K; omega)))
              refine cut_at H ?_
              exact wk_ren ⟨[1], []⟩ rfl rfl rfl rfl rfl (by simp -implicitDefEqProofs only [goW, goR, ↓upd_at, if_true, if_false, reduceCtorEq, ↓reduceIte, Nat.reduceEqDiff, Nat.reduceAdd, Nat.reduceSub, Nat.reduceMul, Nat.reduceBEq, Nat.reduceLT, Nat.reduceLeDiff, Int.reduceToNat, Int.reduceLE, Int.reduceLT, Int.reduceEq, Int.reduceNeg, ← List.map_drop, ← List.map_take, UInt8.reduceToNat, true_implies, implies_true, List.append_eq, y_preref7_Span]) (by simp -implicitDefEqProofs only [goW, goR, ↓upd_at, if_true, if_false, reduceCtorEq, ↓reduceIte, Nat.reduceEqDiff, Nat.reduceAdd, Nat.reduceSub, Nat.reduceMul, Nat.reduceBEq, Nat.reduceLT, Nat.reduceLeDiff, Int.reduceToNat, Int.reduceLE, Int.reduceLT, Int.reduceEq, Int.reduceNeg, ← List.map_drop, ← List.map_take, UInt8.reduceToNat, true_implies, implies_true, List.append_eq, y_preref7_Span]) (by simp -implicitDefEqProofs only [goW, goR, ↓upd_at, if_true, if_false, reduceCtorEq, ↓reduceIte, Nat.reduceEqDiff, Nat.reduceAdd, Nat.reduceSub, Nat.reduceMul, Nat.reduceBEq, Nat.reduceLT, Nat.reduceLeDiff, Int.reduceToNat, Int.reduceLE, Int.reduceLT, Int.reduceEq, Int.reduceNeg, ← List.map_drop, ← List.map_take, UInt8.reduceToNat, true_implies, implies_true, List.append_eq, y_preref7_Span]) rfl
  · rintro x1 H
    rw [preref7_Span_j1] at H
    rcases bsplit H with ⟨hp1, H⟩ | ⟨hp1, H⟩
    · try simp -implicitDefEqProofs only [goR, ↓upd_at, if_true, if_false, reduceCtorEq, ↓reduceIte, Nat.reduceEqDiff, Nat.reduceAdd, Nat.reduceSub, Nat.reduceMul, Nat.reduceBEq, Nat.reduceLT, Nat.reduceLeDiff, Int.reduceToNat, Int.reduceLE, Int.reduceLT, Int.reduceEq, Int.reduceNeg, ← List.map_drop, ← List.map_take, UInt8.reduceToNat, true_implies, implies_true, List.append_eq, y_preref7_Span] at hp1
      have hq1 := hp1
      try simp only [goT] at hq1
      refine w_condT (by simp -implicitDefEqProofs only [goR, ↓upd_at, if_true, if_false, reduceCtorEq, ↓reduceIte, Nat.reduceEqDiff, Nat.reduceAdd, Nat.reduceSub, Nat.reduceMul, Nat.reduceBEq, Nat.reduceLT, Nat.reduceLeDiff, Int.reduceToNat, Int.reduceLE, Int.reduceLT, Int.reduceEq, Int.reduceNeg, ← List.map_drop, ← List.map_take, UInt8.reduceToNat, true_implies, implies_true, List.append_eq, y_preref7_Span, hp1]) ?_
      refine w_seq ?_
      refine w_region rfl (fun K hK => ?_)
      simp -implicitDefEqProofs only [goR, ↓upd_at, if_true, if_false, reduceCtorEq, ↓reduceIte, Nat.reduceEqDiff, Nat.reduceAdd, Nat.reduceSub, Nat.reduceMul, Nat.reduceBEq, Nat.reduceLT, Nat.reduceLeDiff, Int.reduceToNat, Int.reduceLE, Int.reduceLT, Int.reduceEq, Int.reduceNeg, ← List.map_drop, ← List.map_take, UInt8.reduceToNat, true_implies, implies_true, List.append_eq, y_preref7_Span]
      (repeat' (first | ((with_reducible refine hK _ _ ?_); clear hK K) | (with_reducible apply And.intro) | (exact trivial) | (clear hK K; assumption) | (clear hK K; omega)))
      refine then_normal ?_
      refine w_ret ?_
      refine then_ret ?_
      obtain rfl := Option.some.inj H
      simp -implicitDefEqProofs only [goQ, Try.results23, goR, ↓upd_at, if_true, if_false, reduceCtorEq, ↓reduceIte, Nat.reduceEqDiff, Nat.reduceAdd, Nat.reduceSub, Nat.reduceMul, Nat.reduceBEq, Nat.reduceLT, Nat.reduceLeDiff, Int.reduceToNat, Int.reduceLE, Int.reduceLT, Int.reduceEq, Int.reduceNeg, ← List.map_drop, ← List.map_take, UInt8.reduceToNat, true_implies, implies_true, List.append_eq, y_preref7_Span]
    · try simp -implicitDefEqProofs only [goR, ↓upd_at, if_true, if_false, reduceCtorEq, ↓reduceIte, Nat.reduceEqDiff, Nat.reduceAdd, Nat.reduceSub, Nat.reduceMul, Nat.reduceBEq, Nat.reduceLT, Nat.reduceLeDiff, Int.reduceToNat, Int.reduceLE, Int.reduceLT, Int.reduceEq, Int.reduceNeg, ← List.map_drop, ← List.map_take, UInt8.reduceToNat, true_implies, implies_true, List.append_eq, y_preref7_Span] at hp1
      have hq1 := hp1
      try simp only [goT] at hq1
      refine w_condF (by simp -implicitDefEqProofs only [goR, ↓upd_at, if_true, if_false, reduceCtorEq, ↓reduceIte, Nat.reduceEqDiff, Nat.reduceAdd, Nat.reduceSub, Nat.reduceMul, Nat.reduceBEq, Nat.reduceLT, Nat.reduceLeDiff, Int.reduceToNat, Int.reduceLE, Int.reduceLT, Int.reduceEq, Int.reduceNeg, ← List.map_drop, ← List.map_take, UInt8.reduceToNat, true_implies, implies_true, List.append_eq, y_preref7_Span, hp1]) ?_
      refine w_skip ?_
      refine then_normal ?_
      refine w_seq ?_
      obtain ⟨hg1, H⟩ := gsplit H
      have g1 := map_getD d_Source a0 a1.File.toNat default default (by omega)
      obtain ⟨hg2, H⟩ := gsplit H
      obtain ⟨r1, hr1, H⟩ := osplit H
      have hc1 := preref1_Splice_c (List.take (a1.End.toNat - a1.At.toNat) (List.drop a1.At.toNat ((a0.getD a1.File.toNat default).Text))) r1 hr1
      simp -implicitDefEqProofs only [goR, ↓upd_at, if_true, if_false, reduceCtorEq, ↓reduceIte, Nat.reduceEqDiff, Nat.reduceAdd, Nat.reduceSub, Nat.reduceMul, Nat.reduceBEq, Nat.reduceLT, Nat.reduceLeDiff, Int.reduceToNat, Int.reduceLE, Int.reduceLT, Int.reduceEq, Int.reduceNeg, ← List.map_drop, ← List.map_take, UInt8.reduceToNat, true_implies, implies_true, List.append_eq, y_preref7_Span] at hc1
      refine w_region rfl (fun K hK => ?_)
      simp -implicitDefEqProofs only [goR, ↓upd_at, if_true, if_false, reduceCtorEq, ↓reduceIte, Nat.reduceEqDiff, Nat.reduceAdd, Nat.reduceSub, Nat.reduceMul, Nat.reduceBEq, Nat.reduceLT, Nat.reduceLeDiff, Int.reduceToNat, Int.reduceLE, Int.reduceLT, Int.reduceEq, Int.reduceNeg, ← List.map_drop, ← List.map_take, UInt8.reduceToNat, true_implies, implies_true, List.append_eq, y_preref7_Span, g1, hc1.1, hc1.2]
      (repeat' (first | ((with_reducible refine hK _ _ ?_); clear hK K) | (with_reducible apply And.intro) | (exact trivial) | (clear hK K; assumption) | (clear hK K; omega)))
      refine then_normal ?_
      refine w_ret ?_
      obtain rfl := Option.some.inj H
      simp -implicitDefEqProofs only [goQ, Try.results23, goR, ↓upd_at, if_true, if_false, reduceCtorEq, ↓reduceIte, Nat.reduceEqDiff, Nat.reduceAdd, Nat.reduceSub, Nat.reduceMul, Nat.reduceBEq, Nat.reduceLT, Nat.reduceLeDiff, Int.reduceToNat, Int.reduceLE, Int.reduceLT, Int.reduceEq, Int.reduceNeg, ← List.map_drop, ← List.map_take, UInt8.reduceToNat, true_implies, implies_true, List.append_eq, y_preref7_Span]
theorem preref7_Span_c (a0 : List Source) (a1 : Token) (r : (List UInt8) × Bool) (H : preref7_Span a0 a1 = some r) : pf_preref7_Span.pre [(dL 2 d_Source) a0, d_Token a1] = True ∧ pf_preref7_Span.val [(dL 2 d_Source) a0, d_Token a1] = .tu [dS r.1, dB r.2] :=
  ⟨PF.of_pre (enc := c_preref7_Span) (f := fun a => preref7_Span a.1 a.2) (e := e_preref7_Span) (a := (a0, a1)) H, PF.of_val (enc := c_preref7_Span) (f := fun a => preref7_Span a.1 a.2) (e := e_preref7_Span) (a := (a0, a1)) c_preref7_Span_inj H⟩
theorem preref7_Span_cl (l : List D) (a0 : List Source) (a1 : Token) (r : (List UInt8) × Bool) (hl : les1 l (c_preref7_Span (a0, a1))) (H : preref7_Span a0 a1 = some r) : pf_preref7_Span.pre l = True ∧ pf_preref7_Span.val l = .tu [dS r.1, dB r.2] :=
  ⟨PF.of_prel (enc := c_preref7_Span) (f := fun a => preref7_Span a.1 a.2) (e := e_preref7_Span) (a := (a0, a1)) hl H, PF.of_vall (enc := c_preref7_Span) (f := fun a => preref7_Span a.1 a.2) (e := e_preref7_Span) (a := (a0, a1)) c_preref7_Span_inj hl H⟩
noncomputable def origin_end_j2 (a1 : Call) (r1 : Spliced) : Bool → Option Int
  | x2 => if x2 = true then some (-1) else (splice_Where r1 (IntKind.i64.wrap ((a1.Name.length : Int) - 1))).bind fun r2 => some (IntKind.i64.wrap ((IntKind.i64.wrap (a1.At + r2)) + 1))
noncomputable def origin_end_j1 (a0 : List Source) (a1 : Call) : Bool → Option Int
  | x1 => if x1 = true then some (-1) else if (0 : Int) ≤ a1.File ∧ a1.File.toNat < a0.length then if (0 : Int) ≤ a1.At ∧ a1.At ≤ (((a0.getD a1.File.toNat default).Text).length : Int) ∧ (((a0.getD a1.File.toNat default).Text).length : Int) ≤ (((a0.getD a1.File.toNat default).Text).length : Int) then (splice_Text (List.drop a1.At.toNat ((a0.getD a1.File.toNat default).Text))).bind fun r1 => if (eqI (a1.Name.length : Int) 0) = true then origin_end_j2 a1 r1 true else origin_end_j2 a1 r1 (ltI (r1.Text.length : Int) (a1.Name.length : Int)) else none else none
noncomputable def origin_end (a0 : List Source) (a1 : Call) : Option Int :=
  if (ltI a1.File 0) = true then origin_end_j1 a0 a1 true else if (leI (a0.length : Int) a1.File) = true then origin_end_j1 a0 a1 true else if (ltI a1.At 0) = true then origin_end_j1 a0 a1 true else if (0 : Int) ≤ a1.File ∧ a1.File.toNat < a0.length then origin_end_j1 a0 a1 (ltI (((a0.getD a1.File.toNat default).Text).length : Int) a1.At) else none
def e_origin_end : Int → D := fun r => dI r
def c_origin_end : (List Source) × Call → List D := fun a => [(dL 2 d_Source) a.1, d_Call a.2]
theorem c_origin_end_inj : Inj c_origin_end := by rintro ⟨a0, a1⟩ ⟨b0, b1⟩ h; simp only [c_origin_end, List.map_cons, List.map_nil, List.cons.injEq, and_true] at h; obtain ⟨h0, h1⟩ := h; obtain rfl := (dL_inj (sz := 0) d_Source_inj _ _) h0; obtain rfl := (d_Call_sinj _ _) h1; rfl
noncomputable def pf_origin_end : PF := PF.of c_origin_end (fun a => origin_end a.1 a.2) e_origin_end
noncomputable def t_origin_end : Tab := tabOf Try.prog [(15, pf_splice_Text), (19, pf_splice_Where)] []
theorem t_origin_end_ok : TabOk t_origin_end := tabOf_ok (by exact ⟨⟨call_15, splice_Text_ok⟩, ⟨call_19, splice_Where_ok⟩, trivial⟩) (by exact trivial)
theorem y_origin_end : ((((((type_of% @Try.underlying9) ∧ (type_of% @tAgg_24)) ∧ ((type_of% @tAgg_3) ∧ ((type_of% @tAgg_79) ∧ (type_of% @tAgg_9)))) ∧ (((type_of% @tBytes_79) ∧ ((type_of% @tCS_24) ∧ (type_of% @tCS_3))) ∧ ((type_of% @tCS_79) ∧ ((type_of% @tCS_9) ∧ (type_of% @tElem_32))))) ∧ ((((type_of% @tFld_24_0) ∧ ((type_of% @tFld_44_0) ∧ (type_of% @tFld_44_1))) ∧ ((type_of% @tFld_44_2) ∧ ((type_of% @tFld_79_1) ∧ (type_of% @tKnown_24)))) ∧ (((type_of% @tKnown_3) ∧ ((type_of% @tKnown_79) ∧ (type_of% @tKnown_9))) ∧ ((type_of% @tOff_24_0) ∧ ((type_of% @tOff_44_0) ∧ (type_of% @tOff_44_1)))))) ∧ (((((type_of% @tOff_44_2) ∧ (type_of% @tOff_79_1)) ∧ ((type_of% @tSize_24) ∧ ((type_of% @tSize_3) ∧ (type_of% @tSize_79)))) ∧ (((type_of% @tSize_9) ∧ ((type_of% @tSlice_32) ∧ (type_of% @tStruct_24_0))) ∧ ((type_of% @tStruct_44_0) ∧ ((type_of% @tStruct_44_1) ∧ (type_of% @tStruct_44_2))))) ∧ ((((type_of% @tStruct_79_1) ∧ ((type_of% @tZ_24) ∧ (type_of% @tZ_79))) ∧ ((type_of% @tZok_24) ∧ ((type_of% @tZok_79) ∧ (type_of% @d_Spliced.eq_1)))) ∧ (((type_of% @d_Call.eq_1) ∧ ((type_of% @d_Token.eq_1) ∧ (type_of% @d_Source.eq_1))) ∧ ((type_of% @t_origin_end.eq_1) ∧ ((type_of% @c_origin_end.eq_1) ∧ (type_of% @e_origin_end.eq_1))))))) := ⟨⟨⟨⟨⟨@Try.underlying9, @tAgg_24⟩, ⟨@tAgg_3, ⟨@tAgg_79, @tAgg_9⟩⟩⟩, ⟨⟨@tBytes_79, ⟨@tCS_24, @tCS_3⟩⟩, ⟨@tCS_79, ⟨@tCS_9, @tElem_32⟩⟩⟩⟩, ⟨⟨⟨@tFld_24_0, ⟨@tFld_44_0, @tFld_44_1⟩⟩, ⟨@tFld_44_2, ⟨@tFld_79_1, @tKnown_24⟩⟩⟩, ⟨⟨@tKnown_3, ⟨@tKnown_79, @tKnown_9⟩⟩, ⟨@tOff_24_0, ⟨@tOff_44_0, @tOff_44_1⟩⟩⟩⟩⟩, ⟨⟨⟨⟨@tOff_44_2, @tOff_79_1⟩, ⟨@tSize_24, ⟨@tSize_3, @tSize_79⟩⟩⟩, ⟨⟨@tSize_9, ⟨@tSlice_32, @tStruct_24_0⟩⟩, ⟨@tStruct_44_0, ⟨@tStruct_44_1, @tStruct_44_2⟩⟩⟩⟩, ⟨⟨⟨@tStruct_79_1, ⟨@tZ_24, @tZ_79⟩⟩, ⟨@tZok_24, ⟨@tZok_79, @d_Spliced.eq_1⟩⟩⟩, ⟨⟨@d_Call.eq_1, ⟨@d_Token.eq_1, @d_Source.eq_1⟩⟩, ⟨@t_origin_end.eq_1, ⟨@c_origin_end.eq_1, @e_origin_end.eq_1⟩⟩⟩⟩⟩⟩
set_option maxRecDepth 100000 in
set_option maxHeartbeats 4000000 in
theorem origin_end_ok : PureOk Try.prog 60 pf_origin_end := by
  refine pure_of (t := t_origin_end) (pure := fun n => [15, 19].contains n) c_origin_end_inj rfl t_origin_end_ok mixed (fun n hn => tabOf_pure rfl n hn) Try.func60 rfl (by kernel_rfl) (fun a => by simp [c_origin_end, Try.ntmps60]) ?_
  rintro ⟨a0, a1⟩ out H
  simp only [origin_end] at H
  show aC _ _ (sig0 (List.map (fun d => AV.c (C.d d)) (c_origin_end (a0, a1)))) _ _
  refine w_seq ?_
  refine w_region rfl (fun K hK => ?_)
  simp -implicitDefEqProofs only [goR, ↓upd_at, if_true, if_false, reduceCtorEq, ↓reduceIte, Nat.reduceEqDiff, Nat.reduceAdd, Nat.reduceSub, Nat.reduceMul, Nat.reduceBEq, Nat.reduceLT, Nat.reduceLeDiff, Int.reduceToNat, Int.reduceLE, Int.reduceLT, Int.reduceEq, Int.reduceNeg, ← List.map_drop, ← List.map_take, UInt8.reduceToNat, true_implies, implies_true, List.append_eq, y_origin_end]
  (repeat' (first | ((with_reducible refine hK _ _ ?_); clear hK K) | (with_reducible apply And.intro) | (exact trivial) | (clear hK K; assumption) | (clear hK K; omega)))
  refine then_normal ?_
  refine w_seq ?_
  refine w_cut (origin_end_j1 a0 a1) (fun s => [(0, .c (.d (.sl 2 (List.map d_Source a0)))), (3, .c (.pt 1 0)), (32, .c (.d (.v (.bool s))))]) (fun s => [[.d (.v (str a1.Name)), .d (.v (.int .i64 a1.File)), .d (.v (.int .i64 a1.At))]]) [] out ?_ ?_
  · rcases bsplit H with ⟨hp4, H⟩ | ⟨hp4, H⟩
    · try simp -implicitDefEqProofs only [goR, ↓upd_at, if_true, if_false, reduceCtorEq, ↓reduceIte, Nat.reduceEqDiff, Nat.reduceAdd, Nat.reduceSub, Nat.reduceMul, Nat.reduceBEq, Nat.reduceLT, Nat.reduceLeDiff, Int.reduceToNat, Int.reduceLE, Int.reduceLT, Int.reduceEq, Int.reduceNeg, ← List.map_drop, ← List.map_take, UInt8.reduceToNat, true_implies, implies_true, List.append_eq, y_origin_end] at hp4
      have hq4 := hp4
      try simp only [goT] at hq4
      refine w_region rfl (fun K hK => ?_)
      simp -implicitDefEqProofs only [goR, ↓upd_at, if_true, if_false, reduceCtorEq, ↓reduceIte, Nat.reduceEqDiff, Nat.reduceAdd, Nat.reduceSub, Nat.reduceMul, Nat.reduceBEq, Nat.reduceLT, Nat.reduceLeDiff, Int.reduceToNat, Int.reduceLE, Int.reduceLT, Int.reduceEq, Int.reduceNeg, ← List.map_drop, ← List.map_take, UInt8.reduceToNat, true_implies, implies_true, List.append_eq, y_origin_end, hp4]
      (repeat' (first | ((with_reducible refine hK _ _ ?_); clear hK K) | (with_reducible apply And.intro) | (exact trivial) | (clear hK K; assumption) | (clear hK K; omega)))
      refine cut_at H ?_
      exact wk_ren ⟨[1], []⟩ rfl rfl rfl rfl rfl (by simp -implicitDefEqProofs only [goW, goR, ↓upd_at, if_true, if_false, reduceCtorEq, ↓reduceIte, Nat.reduceEqDiff, Nat.reduceAdd, Nat.reduceSub, Nat.reduceMul, Nat.reduceBEq, Nat.reduceLT, Nat.reduceLeDiff, Int.reduceToNat, Int.reduceLE, Int.reduceLT, Int.reduceEq, Int.reduceNeg, ← List.map_drop, ← List.map_take, UInt8.reduceToNat, true_implies, implies_true, List.append_eq, y_origin_end]) (by simp -implicitDefEqProofs only [goW, goR, ↓upd_at, if_true, if_false, reduceCtorEq, ↓reduceIte, Nat.reduceEqDiff, Nat.reduceAdd, Nat.reduceSub, Nat.reduceMul, Nat.reduceBEq, Nat.reduceLT, Nat.reduceLeDiff, Int.reduceToNat, Int.reduceLE, Int.reduceLT, Int.reduceEq, Int.reduceNeg, ← List.map_drop, ← List.map_take, UInt8.reduceToNat, true_implies, implies_true, List.append_eq, y_origin_end]) (by simp -implicitDefEqProofs only [goW, goR, ↓upd_at, if_true, if_false, reduceCtorEq, ↓reduceIte, Nat.reduceEqDiff, Nat.reduceAdd, Nat.reduceSub, Nat.reduceMul, Nat.reduceBEq, Nat.reduceLT, Nat.reduceLeDiff, Int.reduceToNat, Int.reduceLE, Int.reduceLT, Int.reduceEq, Int.reduceNeg, ← List.map_drop, ← List.map_take, UInt8.reduceToNat, true_implies, implies_true, List.append_eq, y_origin_end]) rfl
    · try simp -implicitDefEqProofs only [goR, ↓upd_at, if_true, if_false, reduceCtorEq, ↓reduceIte, Nat.reduceEqDiff, Nat.reduceAdd, Nat.reduceSub, Nat.reduceMul, Nat.reduceBEq, Nat.reduceLT, Nat.reduceLeDiff, Int.reduceToNat, Int.reduceLE, Int.reduceLT, Int.reduceEq, Int.reduceNeg, ← List.map_drop, ← List.map_take, UInt8.reduceToNat, true_implies, implies_true, List.append_eq, y_origin_end] at hp4
      have hq4 := hp4
      try simp only [goT] at hq4
      rcases bsplit H with ⟨hp5, H⟩ | ⟨hp5, H⟩
      · try simp -implicitDefEqProofs only [goR, ↓upd_at, if_true, if_false, reduceCtorEq, ↓reduceIte, Nat.reduceEqDiff, Nat.reduceAdd, Nat.reduceSub, Nat.reduceMul, Nat.reduceBEq, Nat.reduceLT, Nat.reduceLeDiff, Int.reduceToNat, Int.reduceLE, Int.reduceLT, Int.reduceEq, Int.reduceNeg, ← List.map_drop, ← List.map_take, UInt8.reduceToNat, true_implies, implies_true, List.append_eq, y_origin_end] at hp5
        have hq5 := hp5
        try simp only [goT] at hq5
        refine w_region rfl (fun K hK => ?_)
        simp -implicitDefEqProofs only [goR, ↓upd_at, if_true, if_false, reduceCtorEq, ↓reduceIte, Nat.reduceEqDiff, Nat.reduceAdd, Nat.reduceSub, Nat.reduceMul, Nat.reduceBEq, Nat.reduceLT, Nat.reduceLeDiff, Int.reduceToNat, Int.reduceLE, Int.reduceLT, Int.reduceEq, Int.reduceNeg, ← List.map_drop, ← List.map_take, UInt8.reduceToNat, true_implies, implies_true, List.append_eq, y_origin_end, hp4, hp5]
        (repeat' (first | ((with_reducible refine hK _ _ ?_); clear hK K) | (with_reducible apply And.intro) | (exact trivial) | (clear hK K; assumption) | (clear hK K; omega)))
        refine cut_at H ?_
        exact wk_ren ⟨[1], []⟩ rfl rfl rfl rfl rfl (by simp -implicitDefEqProofs only [goW, goR, ↓upd_at, if_true, if_false, reduceCtorEq, ↓reduceIte, Nat.reduceEqDiff, Nat.reduceAdd, Nat.reduceSub, Nat.reduceMul, Nat.reduceBEq, Nat.reduceLT, Nat.reduceLeDiff, Int.reduceToNat, Int.reduceLE, Int.reduceLT, Int.reduceEq, Int.reduceNeg, ← List.map_drop, ← List.map_take, UInt8.reduceToNat, true_implies, implies_true, List.append_eq, y_origin_end]) (by simp -implicitDefEqProofs only [goW, goR, ↓upd_at, if_true, if_false, reduceCtorEq, ↓reduceIte, Nat.reduceEqDiff, Nat.reduceAdd, Nat.reduceSub, Nat.reduceMul, Nat.reduceBEq, Nat.reduceLT, Nat.reduceLeDiff, Int.reduceToNat, Int.reduceLE, Int.reduceLT, Int.reduceEq, Int.reduceNeg, ← List.map_drop, ← List.map_take, UInt8.reduceToNat, true_implies, implies_true, List.append_eq, y_origin_end]) (by simp -implicitDefEqProofs only [goW, goR, ↓upd_at, if_true, if_false, reduceCtorEq, ↓reduceIte, Nat.reduceEqDiff, Nat.reduceAdd, Nat.reduceSub, Nat.reduceMul, Nat.reduceBEq, Nat.reduceLT, Nat.reduceLeDiff, Int.reduceToNat, Int.reduceLE, Int.reduceLT, Int.reduceEq, Int.reduceNeg, ← List.map_drop, ← List.map_take, UInt8.reduceToNat, true_implies, implies_true, List.append_eq, y_origin_end]) rfl
      · try simp -implicitDefEqProofs only [goR, ↓upd_at, if_true, if_false, reduceCtorEq, ↓reduceIte, Nat.reduceEqDiff, Nat.reduceAdd, Nat.reduceSub, Nat.reduceMul, Nat.reduceBEq, Nat.reduceLT, Nat.reduceLeDiff, Int.reduceToNat, Int.reduceLE, Int.reduceLT, Int.reduceEq, Int.reduceNeg, ← List.map_drop, ← List.map_take, UInt8.reduceToNat, true_implies, implies_true, List.append_eq, y_origin_end] at hp5
        have hq5 := hp5
        try simp only [goT] at hq5
        rcases bsplit H with ⟨hp6, H⟩ | ⟨hp6, H⟩
        · try simp -implicitDefEqProofs only [goR, ↓upd_at, if_true, if_false, reduceCtorEq, ↓reduceIte, Nat.reduceEqDiff, Nat.reduceAdd, Nat.reduceSub, Nat.reduceMul, Nat.reduceBEq, Nat.reduceLT, Nat.reduceLeDiff, Int.reduceToNat, Int.reduceLE, Int.reduceLT, Int.reduceEq, Int.reduceNeg, ← List.map_drop, ← List.map_take, UInt8.reduceToNat, true_implies, implies_true, List.append_eq, y_origin_end] at hp6
          have hq6 := hp6
          try simp only [goT] at hq6
          refine w_region rfl (fun K hK => ?_)
          simp -implicitDefEqProofs only [goR, ↓upd_at, if_true, if_false, reduceCtorEq, ↓reduceIte, Nat.reduceEqDiff, Nat.reduceAdd, Nat.reduceSub, Nat.reduceMul, Nat.reduceBEq, Nat.reduceLT, Nat.reduceLeDiff, Int.reduceToNat, Int.reduceLE, Int.reduceLT, Int.reduceEq, Int.reduceNeg, ← List.map_drop, ← List.map_take, UInt8.reduceToNat, true_implies, implies_true, List.append_eq, y_origin_end, hp4, hp5, hp6]
          (repeat' (first | ((with_reducible refine hK _ _ ?_); clear hK K) | (with_reducible apply And.intro) | (exact trivial) | (clear hK K; assumption) | (clear hK K; omega)))
          refine cut_at H ?_
          exact wk_ren ⟨[1], []⟩ rfl rfl rfl rfl rfl (by simp -implicitDefEqProofs only [goW, goR, ↓upd_at, if_true, if_false, reduceCtorEq, ↓reduceIte, Nat.reduceEqDiff, Nat.reduceAdd, Nat.reduceSub, Nat.reduceMul, Nat.reduceBEq, Nat.reduceLT, Nat.reduceLeDiff, Int.reduceToNat, Int.reduceLE, Int.reduceLT, Int.reduceEq, Int.reduceNeg, ← List.map_drop, ← List.map_take, UInt8.reduceToNat, true_implies, implies_true, List.append_eq, y_origin_end]) (by simp -implicitDefEqProofs only [goW, goR, ↓upd_at, if_true, if_false, reduceCtorEq, ↓reduceIte, Nat.reduceEqDiff, Nat.reduceAdd, Nat.reduceSub, Nat.reduceMul, Nat.reduceBEq, Nat.reduceLT, Nat.reduceLeDiff, Int.reduceToNat, Int.reduceLE, Int.reduceLT, Int.reduceEq, Int.reduceNeg, ← List.map_drop, ← List.map_take, UInt8.reduceToNat, true_implies, implies_true, List.append_eq, y_origin_end]) (by simp -implicitDefEqProofs only [goW, goR, ↓upd_at, if_true, if_false, reduceCtorEq, ↓reduceIte, Nat.reduceEqDiff, Nat.reduceAdd, Nat.reduceSub, Nat.reduceMul, Nat.reduceBEq, Nat.reduceLT, Nat.reduceLeDiff, Int.reduceToNat, Int.reduceLE, Int.reduceLT, Int.reduceEq, Int.reduceNeg, ← List.map_drop, ← List.map_take, UInt8.reduceToNat, true_implies, implies_true, List.append_eq, y_origin_end]) rfl
        · try simp -implicitDefEqProofs only [goR, ↓upd_at, if_true, if_false, reduceCtorEq, ↓reduceIte, Nat.reduceEqDiff, Nat.reduceAdd, Nat.reduceSub, Nat.reduceMul, Nat.reduceBEq, Nat.reduceLT, Nat.reduceLeDiff, Int.reduceToNat, Int.reduceLE, Int.reduceLT, Int.reduceEq, Int.reduceNeg, ← List.map_drop, ← List.map_take, UInt8.reduceToNat, true_implies, implies_true, List.append_eq, y_origin_end] at hp6
          have hq6 := hp6
          try simp only [goT] at hq6
          obtain ⟨hg3, H⟩ := gsplit H
          have g2 := map_getD d_Source a0 a1.File.toNat default default (by omega)
          refine w_region rfl (fun K hK => ?_)
          simp -implicitDefEqProofs only [goR, ↓upd_at, if_true, if_false, reduceCtorEq, ↓reduceIte, Nat.reduceEqDiff, Nat.reduceAdd, Nat.reduceSub, Nat.reduceMul, Nat.reduceBEq, Nat.reduceLT, Nat.reduceLeDiff, Int.reduceToNat, Int.reduceLE, Int.reduceLT, Int.reduceEq, Int.reduceNeg, ← List.map_drop, ← List.map_take, UInt8.reduceToNat, true_implies, implies_true, List.append_eq, y_origin_end, hp4, hp5, hp6, g2]
          (repeat' (first | ((with_reducible refine hK _ _ ?_); clear hK K) | (with_reducible apply And.intro) | (exact trivial) | (clear hK K; assumption) | (clear hK K; omega)))
          refine cut_at H ?_
          exact wk_ren ⟨[1], []⟩ rfl rfl rfl rfl rfl (by simp -implicitDefEqProofs only [goW, goR, ↓upd_at, if_true, if_false, reduceCtorEq, ↓reduceIte, Nat.reduceEqDiff, Nat.reduceAdd, Nat.reduceSub, Nat.reduceMul, Nat.reduceBEq, Nat.reduceLT, Nat.reduceLeDiff, Int.reduceToNat, Int.reduceLE, Int.reduceLT, Int.reduceEq, Int.reduceNeg, ← List.map_drop, ← List.map_take, UInt8.reduceToNat, true_implies, implies_true, List.append_eq, y_origin_end]) (by simp -implicitDefEqProofs only [goW, goR, ↓upd_at, if_true, if_false, reduceCtorEq, ↓reduceIte, Nat.reduceEqDiff, Nat.reduceAdd, Nat.reduceSub, Nat.reduceMul, Nat.reduceBEq, Nat.reduceLT, Nat.reduceLeDiff, Int.reduceToNat, Int.reduceLE, Int.reduceLT, Int.reduceEq, Int.reduceNeg, ← List.map_drop, ← List.map_take, UInt8.reduceToNat, true_implies, implies_true, List.append_eq, y_origin_end]) (by simp -implicitDefEqProofs only [goW, goR, ↓upd_at, if_true, if_false, reduceCtorEq, ↓reduceIte, Nat.reduceEqDiff, Nat.reduceAdd, Nat.reduceSub, Nat.reduceMul, Nat.reduceBEq, Nat.reduceLT, Nat.reduceLeDiff, Int.reduceToNat, Int.reduceLE, Int.reduceLT, Int.reduceEq, Int.reduceNeg, ← List.map_drop, ← List.map_take, UInt8.reduceToNat, true_implies, implies_true, List.append_eq, y_origin_end]) rfl
  · rintro x1 H
    rw [origin_end_j1] at H
    rcases bsplit H with ⟨hp1, H⟩ | ⟨hp1, H⟩
    · try simp -implicitDefEqProofs only [goR, ↓upd_at, if_true, if_false, reduceCtorEq, ↓reduceIte, Nat.reduceEqDiff, Nat.reduceAdd, Nat.reduceSub, Nat.reduceMul, Nat.reduceBEq, Nat.reduceLT, Nat.reduceLeDiff, Int.reduceToNat, Int.reduceLE, Int.reduceLT, Int.reduceEq, Int.reduceNeg, ← List.map_drop, ← List.map_take, UInt8.reduceToNat, true_implies, implies_true, List.append_eq, y_origin_end] at hp1
      have hq1 := hp1
      try simp only [goT] at hq1
      refine w_condT (by simp -implicitDefEqProofs only [goR, ↓upd_at, if_true, if_false, reduceCtorEq, ↓reduceIte, Nat.reduceEqDiff, Nat.reduceAdd, Nat.reduceSub, Nat.reduceMul, Nat.reduceBEq, Nat.reduceLT, Nat.reduceLeDiff, Int.reduceToNat, Int.reduceLE, Int.reduceLT, Int.reduceEq, Int.reduceNeg, ← List.map_drop, ← List.map_take, UInt8.reduceToNat, true_implies, implies_true, List.append_eq, y_origin_end, hp1]) ?_
      refine w_seq ?_
      refine w_region rfl (fun K hK => ?_)
      simp -implicitDefEqProofs only [goR, ↓upd_at, if_true, if_false, reduceCtorEq, ↓reduceIte, Nat.reduceEqDiff, Nat.reduceAdd, Nat.reduceSub, Nat.reduceMul, Nat.reduceBEq, Nat.reduceLT, Nat.reduceLeDiff, Int.reduceToNat, Int.reduceLE, Int.reduceLT, Int.reduceEq, Int.reduceNeg, ← List.map_drop, ← List.map_take, UInt8.reduceToNat, true_implies, implies_true, List.append_eq, y_origin_end]
      (repeat' (first | ((with_reducible refine hK _ _ ?_); clear hK K) | (with_reducible apply And.intro) | (exact trivial) | (clear hK K; assumption) | (clear hK K; omega)))
      refine then_normal ?_
      refine w_ret ?_
      refine then_ret ?_
      obtain rfl := Option.some.inj H
      simp -implicitDefEqProofs only [goQ, Try.results60, goR, ↓upd_at, if_true, if_false, reduceCtorEq, ↓reduceIte, Nat.reduceEqDiff, Nat.reduceAdd, Nat.reduceSub, Nat.reduceMul, Nat.reduceBEq, Nat.reduceLT, Nat.reduceLeDiff, Int.reduceToNat, Int.reduceLE, Int.reduceLT, Int.reduceEq, Int.reduceNeg, ← List.map_drop, ← List.map_take, UInt8.reduceToNat, true_implies, implies_true, List.append_eq, y_origin_end]
    · try simp -implicitDefEqProofs only [goR, ↓upd_at, if_true, if_false, reduceCtorEq, ↓reduceIte, Nat.reduceEqDiff, Nat.reduceAdd, Nat.reduceSub, Nat.reduceMul, Nat.reduceBEq, Nat.reduceLT, Nat.reduceLeDiff, Int.reduceToNat, Int.reduceLE, Int.reduceLT, Int.reduceEq, Int.reduceNeg, ← List.map_drop, ← List.map_take, UInt8.reduceToNat, true_implies, implies_true, List.append_eq, y_origin_end] at hp1
      have hq1 := hp1
      try simp only [goT] at hq1
      refine w_condF (by simp -implicitDefEqProofs only [goR, ↓upd_at, if_true, if_false, reduceCtorEq, ↓reduceIte, Nat.reduceEqDiff, Nat.reduceAdd, Nat.reduceSub, Nat.reduceMul, Nat.reduceBEq, Nat.reduceLT, Nat.reduceLeDiff, Int.reduceToNat, Int.reduceLE, Int.reduceLT, Int.reduceEq, Int.reduceNeg, ← List.map_drop, ← List.map_take, UInt8.reduceToNat, true_implies, implies_true, List.append_eq, y_origin_end, hp1]) ?_
      refine w_skip ?_
      refine then_normal ?_
      refine w_seq ?_
      obtain ⟨hg1, H⟩ := gsplit H
      have g1 := map_getD d_Source a0 a1.File.toNat default default (by omega)
      obtain ⟨hg2, H⟩ := gsplit H
      obtain ⟨r1, hr1, H⟩ := osplit H
      have hc1 := splice_Text_c (List.drop a1.At.toNat ((a0.getD a1.File.toNat default).Text)) r1 hr1
      simp -implicitDefEqProofs only [goR, ↓upd_at, if_true, if_false, reduceCtorEq, ↓reduceIte, Nat.reduceEqDiff, Nat.reduceAdd, Nat.reduceSub, Nat.reduceMul, Nat.reduceBEq, Nat.reduceLT, Nat.reduceLeDiff, Int.reduceToNat, Int.reduceLE, Int.reduceLT, Int.reduceEq, Int.reduceNeg, ← List.map_drop, ← List.map_take, UInt8.reduceToNat, true_implies, implies_true, List.append_eq, y_origin_end] at hc1
      refine w_region rfl (fun K hK => ?_)
      simp -implicitDefEqProofs only [goR, ↓upd_at, if_true, if_false, reduceCtorEq, ↓reduceIte, Nat.reduceEqDiff, Nat.reduceAdd, Nat.reduceSub, Nat.reduceMul, Nat.reduceBEq, Nat.reduceLT, Nat.reduceLeDiff, Int.reduceToNat, Int.reduceLE, Int.reduceLT, Int.reduceEq, Int.reduceNeg, ← List.map_drop, ← List.map_take, UInt8.reduceToNat, true_implies, implies_true, List.append_eq, y_origin_end, g1, hc1.1, hc1.2]
      (repeat' (first | ((with_reducible refine hK _ _ ?_); clear hK K) | (with_reducible apply And.intro) | (exact trivial) | (clear hK K; assumption) | (clear hK K; omega)))
      refine then_normal ?_
      refine w_seq ?_
      refine w_cut (origin_end_j2 a1 r1) (fun s => [(3, .c (.pt 1 0)), (5, .c (.pt 2 0)), (55, .c (.d (.v (.bool s))))]) (fun s => [[.d (.v (str a1.Name)), .d (.v (.int .i64 a1.File)), .d (.v (.int .i64 a1.At))], [.d (.v (str r1.Text)), .d (.sl 1 (List.map dI r1.At))]]) [] out ?_ ?_
      · rcases bsplit H with ⟨hp3, H⟩ | ⟨hp3, H⟩
        · try simp -implicitDefEqProofs only [goR, ↓upd_at, if_true, if_false, reduceCtorEq, ↓reduceIte, Nat.reduceEqDiff, Nat.reduceAdd, Nat.reduceSub, Nat.reduceMul, Nat.reduceBEq, Nat.reduceLT, Nat.reduceLeDiff, Int.reduceToNat, Int.reduceLE, Int.reduceLT, Int.reduceEq, Int.reduceNeg, ← List.map_drop, ← List.map_take, UInt8.reduceToNat, true_implies, implies_true, List.append_eq, y_origin_end] at hp3
          have hq3 := hp3
          try simp only [goT] at hq3
          refine w_region rfl (fun K hK => ?_)
          simp -implicitDefEqProofs only [goR, ↓upd_at, if_true, if_false, reduceCtorEq, ↓reduceIte, Nat.reduceEqDiff, Nat.reduceAdd, Nat.reduceSub, Nat.reduceMul, Nat.reduceBEq, Nat.reduceLT, Nat.reduceLeDiff, Int.reduceToNat, Int.reduceLE, Int.reduceLT, Int.reduceEq, Int.reduceNeg, ← List.map_drop, ← List.map_take, UInt8.reduceToNat, true_implies, implies_true, List.append_eq, y_origin_end, hp3]
          (repeat' (first | ((with_reducible refine hK _ _ ?_); clear hK K) | (with_reducible apply And.intro) | (exact trivial) | (clear hK K; assumption) | (clear hK K; omega)))
          refine cut_at H ?_
          exact wk_ren ⟨[1, 2], []⟩ rfl rfl rfl rfl rfl (by simp -implicitDefEqProofs only [goW, goR, ↓upd_at, if_true, if_false, reduceCtorEq, ↓reduceIte, Nat.reduceEqDiff, Nat.reduceAdd, Nat.reduceSub, Nat.reduceMul, Nat.reduceBEq, Nat.reduceLT, Nat.reduceLeDiff, Int.reduceToNat, Int.reduceLE, Int.reduceLT, Int.reduceEq, Int.reduceNeg, ← List.map_drop, ← List.map_take, UInt8.reduceToNat, true_implies, implies_true, List.append_eq, y_origin_end]) (by simp -implicitDefEqProofs only [goW, goR, ↓upd_at, if_true, if_false, reduceCtorEq, ↓reduceIte, Nat.reduceEqDiff, Nat.reduceAdd, Nat.reduceSub, Nat.reduceMul, Nat.reduceBEq, Nat.reduceLT, Nat.reduceLeDiff, Int.reduceToNat, Int.reduceLE, Int.reduceLT, Int.reduceEq, Int.reduceNeg, ← List.map_drop, ← List.map_take, UInt8.reduceToNat, true_implies, implies_true, List.append_eq, y_origin_end]) (by simp -implicitDefEqProofs only [goW, goR, ↓upd_at, if_true, if_false, reduceCtorEq, ↓reduceIte, Nat.reduceEqDiff, Nat.reduceAdd, Nat.reduceSub, Nat.reduceMul, Nat.reduceBEq, Nat.reduceLT, Nat.reduceLeDiff, Int.reduceToNat, Int.reduceLE, Int.reduceLT, Int.reduceEq, Int.reduceNeg, ← List.map_drop, ← List.map_take, UInt8.reduceToNat, true_implies, implies_true, List.append_eq, y_origin_end]) rfl
        · try simp -implicitDefEqProofs only [goR, ↓upd_at, if_true, if_false, reduceCtorEq, ↓reduceIte, Nat.reduceEqDiff, Nat.reduceAdd, Nat.reduceSub, Nat.reduceMul, Nat.reduceBEq, Nat.reduceLT, Nat.reduceLeDiff, Int.reduceToNat, Int.reduceLE, Int.reduceLT, Int.reduceEq, Int.reduceNeg, ← List.map_drop, ← List.map_take, UInt8.reduceToNat, true_implies, implies_true, List.append_eq, y_origin_end] at hp3
          have hq3 := hp3
          try simp only [goT] at hq3
          refine w_region rfl (fun K hK => ?_)
          simp -implicitDefEqProofs only [goR, ↓upd_at, if_true, if_false, reduceCtorEq, ↓reduceIte, Nat.reduceEqDiff, Nat.reduceAdd, Nat.reduceSub, Nat.reduceMul, Nat.reduceBEq, Nat.reduceLT, Nat.reduceLeDiff, Int.reduceToNat, Int.reduceLE, Int.reduceLT, Int.reduceEq, Int.reduceNeg, ← List.map_drop, ← List.map_take, UInt8.reduceToNat, true_implies, implies_true, List.append_eq, y_origin_end, hp3]
          (repeat' (first | ((with_reducible refine hK _ _ ?_); clear hK K) | (with_reducible apply And.intro) | (exact trivial) | (clear hK K; assumption) | (clear hK K; omega)))
          refine cut_at H ?_
          exact wk_ren ⟨[1, 2], []⟩ rfl rfl rfl rfl rfl (by simp -implicitDefEqProofs only [goW, goR, ↓upd_at, if_true, if_false, reduceCtorEq, ↓reduceIte, Nat.reduceEqDiff, Nat.reduceAdd, Nat.reduceSub, Nat.reduceMul, Nat.reduceBEq, Nat.reduceLT, Nat.reduceLeDiff, Int.reduceToNat, Int.reduceLE, Int.reduceLT, Int.reduceEq, Int.reduceNeg, ← List.map_drop, ← List.map_take, UInt8.reduceToNat, true_implies, implies_true, List.append_eq, y_origin_end]) (by simp -implicitDefEqProofs only [goW, goR, ↓upd_at, if_true, if_false, reduceCtorEq, ↓reduceIte, Nat.reduceEqDiff, Nat.reduceAdd, Nat.reduceSub, Nat.reduceMul, Nat.reduceBEq, Nat.reduceLT, Nat.reduceLeDiff, Int.reduceToNat, Int.reduceLE, Int.reduceLT, Int.reduceEq, Int.reduceNeg, ← List.map_drop, ← List.map_take, UInt8.reduceToNat, true_implies, implies_true, List.append_eq, y_origin_end]) (by simp -implicitDefEqProofs only [goW, goR, ↓upd_at, if_true, if_false, reduceCtorEq, ↓reduceIte, Nat.reduceEqDiff, Nat.reduceAdd, Nat.reduceSub, Nat.reduceMul, Nat.reduceBEq, Nat.reduceLT, Nat.reduceLeDiff, Int.reduceToNat, Int.reduceLE, Int.reduceLT, Int.reduceEq, Int.reduceNeg, ← List.map_drop, ← List.map_take, UInt8.reduceToNat, true_implies, implies_true, List.append_eq, y_origin_end]) rfl
      · rintro x2 H
        rw [origin_end_j2] at H
        rcases bsplit H with ⟨hp2, H⟩ | ⟨hp2, H⟩
        · try simp -implicitDefEqProofs only [goR, ↓upd_at, if_true, if_false, reduceCtorEq, ↓reduceIte, Nat.reduceEqDiff, Nat.reduceAdd, Nat.reduceSub, Nat.reduceMul, Nat.reduceBEq, Nat.reduceLT, Nat.reduceLeDiff, Int.reduceToNat, Int.reduceLE, Int.reduceLT, Int.reduceEq, Int.reduceNeg, ← List.map_drop, ← List.map_take, UInt8.reduceToNat, true_implies, implies_true, List.append_eq, y_origin_end] at hp2
          have hq2 := hp2
          try simp only [goT] at hq2
          refine w_condT (by simp -implicitDefEqProofs only [goR, ↓upd_at, if_true, if_false, reduceCtorEq, ↓reduceIte, Nat.reduceEqDiff, Nat.reduceAdd, Nat.reduceSub, Nat.reduceMul, Nat.reduceBEq, Nat.reduceLT, Nat.reduceLeDiff, Int.reduceToNat, Int.reduceLE, Int.reduceLT, Int.reduceEq, Int.reduceNeg, ← List.map_drop, ← List.map_take, UInt8.reduceToNat, true_implies, implies_true, List.append_eq, y_origin_end, hp2]) ?_
          refine w_seq ?_
          refine w_region rfl (fun K hK => ?_)
          simp -implicitDefEqProofs only [goR, ↓upd_at, if_true, if_false, reduceCtorEq, ↓reduceIte, Nat.reduceEqDiff, Nat.reduceAdd, Nat.reduceSub, Nat.reduceMul, Nat.reduceBEq, Nat.reduceLT, Nat.reduceLeDiff, Int.reduceToNat, Int.reduceLE, Int.reduceLT, Int.reduceEq, Int.reduceNeg, ← List.map_drop, ← List.map_take, UInt8.reduceToNat, true_implies, implies_true, List.append_eq, y_origin_end]
          (repeat' (first | ((with_reducible refine hK _ _ ?_); clear hK K) | (with_reducible apply And.intro) | (exact trivial) | (clear hK K; assumption) | (clear hK K; omega)))
          refine then_normal ?_
          refine w_ret ?_
          refine then_ret ?_
          obtain rfl := Option.some.inj H
          simp -implicitDefEqProofs only [goQ, Try.results60, goR, ↓upd_at, if_true, if_false, reduceCtorEq, ↓reduceIte, Nat.reduceEqDiff, Nat.reduceAdd, Nat.reduceSub, Nat.reduceMul, Nat.reduceBEq, Nat.reduceLT, Nat.reduceLeDiff, Int.reduceToNat, Int.reduceLE, Int.reduceLT, Int.reduceEq, Int.reduceNeg, ← List.map_drop, ← List.map_take, UInt8.reduceToNat, true_implies, implies_true, List.append_eq, y_origin_end]
        · try simp -implicitDefEqProofs only [goR, ↓upd_at, if_true, if_false, reduceCtorEq, ↓reduceIte, Nat.reduceEqDiff, Nat.reduceAdd, Nat.reduceSub, Nat.reduceMul, Nat.reduceBEq, Nat.reduceLT, Nat.reduceLeDiff, Int.reduceToNat, Int.reduceLE, Int.reduceLT, Int.reduceEq, Int.reduceNeg, ← List.map_drop, ← List.map_take, UInt8.reduceToNat, true_implies, implies_true, List.append_eq, y_origin_end] at hp2
          have hq2 := hp2
          try simp only [goT] at hq2
          refine w_condF (by simp -implicitDefEqProofs only [goR, ↓upd_at, if_true, if_false, reduceCtorEq, ↓reduceIte, Nat.reduceEqDiff, Nat.reduceAdd, Nat.reduceSub, Nat.reduceMul, Nat.reduceBEq, Nat.reduceLT, Nat.reduceLeDiff, Int.reduceToNat, Int.reduceLE, Int.reduceLT, Int.reduceEq, Int.reduceNeg, ← List.map_drop, ← List.map_take, UInt8.reduceToNat, true_implies, implies_true, List.append_eq, y_origin_end, hp2]) ?_
          refine w_skip ?_
          refine then_normal ?_
          refine w_seq ?_
          obtain ⟨r2, hr2, H⟩ := osplit H
          have hc2 := splice_Where_c r1 (IntKind.i64.wrap ((a1.Name.length : Int) - 1)) r2 hr2
          simp -implicitDefEqProofs only [goR, ↓upd_at, if_true, if_false, reduceCtorEq, ↓reduceIte, Nat.reduceEqDiff, Nat.reduceAdd, Nat.reduceSub, Nat.reduceMul, Nat.reduceBEq, Nat.reduceLT, Nat.reduceLeDiff, Int.reduceToNat, Int.reduceLE, Int.reduceLT, Int.reduceEq, Int.reduceNeg, ← List.map_drop, ← List.map_take, UInt8.reduceToNat, true_implies, implies_true, List.append_eq, y_origin_end] at hc2
          refine w_region rfl (fun K hK => ?_)
          simp -implicitDefEqProofs only [goR, ↓upd_at, if_true, if_false, reduceCtorEq, ↓reduceIte, Nat.reduceEqDiff, Nat.reduceAdd, Nat.reduceSub, Nat.reduceMul, Nat.reduceBEq, Nat.reduceLT, Nat.reduceLeDiff, Int.reduceToNat, Int.reduceLE, Int.reduceLT, Int.reduceEq, Int.reduceNeg, ← List.map_drop, ← List.map_take, UInt8.reduceToNat, true_implies, implies_true, List.append_eq, y_origin_end, hc2.1, hc2.2]
          (repeat' (first | ((with_reducible refine hK _ _ ?_); clear hK K) | (with_reducible apply And.intro) | (exact trivial) | (clear hK K; assumption) | (clear hK K; omega)))
          refine then_normal ?_
          refine w_ret ?_
          obtain rfl := Option.some.inj H
          simp -implicitDefEqProofs only [goQ, Try.results60, goR, ↓upd_at, if_true, if_false, reduceCtorEq, ↓reduceIte, Nat.reduceEqDiff, Nat.reduceAdd, Nat.reduceSub, Nat.reduceMul, Nat.reduceBEq, Nat.reduceLT, Nat.reduceLeDiff, Int.reduceToNat, Int.reduceLE, Int.reduceLT, Int.reduceEq, Int.reduceNeg, ← List.map_drop, ← List.map_take, UInt8.reduceToNat, true_implies, implies_true, List.append_eq, y_origin_end]
theorem origin_end_c (a0 : List Source) (a1 : Call) (r : Int) (H : origin_end a0 a1 = some r) : pf_origin_end.pre [(dL 2 d_Source) a0, d_Call a1] = True ∧ pf_origin_end.val [(dL 2 d_Source) a0, d_Call a1] = dI r :=
  ⟨PF.of_pre (enc := c_origin_end) (f := fun a => origin_end a.1 a.2) (e := e_origin_end) (a := (a0, a1)) H, PF.of_val (enc := c_origin_end) (f := fun a => origin_end a.1 a.2) (e := e_origin_end) (a := (a0, a1)) c_origin_end_inj H⟩
theorem origin_end_cl (l : List D) (a0 : List Source) (a1 : Call) (r : Int) (hl : les1 l (c_origin_end (a0, a1))) (H : origin_end a0 a1 = some r) : pf_origin_end.pre l = True ∧ pf_origin_end.val l = dI r :=
  ⟨PF.of_prel (enc := c_origin_end) (f := fun a => origin_end a.1 a.2) (e := e_origin_end) (a := (a0, a1)) hl H, PF.of_vall (enc := c_origin_end) (f := fun a => origin_end a.1 a.2) (e := e_origin_end) (a := (a0, a1)) c_origin_end_inj hl H⟩
noncomputable def origin_Right_j2 (x1 : Int) (x2 : Int) : Unit → Option ((Int × Int) ⊕ Bool)
  | () => some (.inl (x1, IntKind.i64.wrap (x2 + 1)))
noncomputable def origin_Right_j3 (x1 : Int) (x2 : Int) : Bool → Option ((Int × Int) ⊕ Bool)
  | x3 => if x3 = true then inrO (some false) else origin_Right_j2 x1 x2 ()
noncomputable def origin_Right_j4 : Bool → Option Bool
  | x4 => some x4
noncomputable def origin_Right_b1 (a0 : List Source) (a1 : Token) : (Int × Int) → Option ((Int × Int) ⊕ Bool)
  | (x1, x2) => if (ltI x2 x1) = true then if (0 : Int) ≤ x2 ∧ x2.toNat < a1.Calls.length then if (eqI ((a1.Calls.getD x2.toNat default).File) (-1)) = true then origin_Right_j2 x1 x2 () else (origin_end a0 (a1.Calls.getD x2.toNat default)).bind fun r1 => (origin_Span a0 (⟨0, [], false, false, (a1.Calls.getD x2.toNat default).File, (a1.Calls.getD x2.toNat default).At, r1, 0, ([] : List (List UInt8)), ([] : List Call), 0⟩ : Token)).bind fun r2 => if (!r2.2) = true then origin_Right_j3 x1 x2 true else origin_Right_j3 x1 x2 (!eqS r2.1 ((a1.Calls.getD x2.toNat default).Name)) else none else inrO ((origin_Span a0 a1).bind fun r3 => if (!eqI a1.Made 0) = true then origin_Right_j4 true else if r3.2 = true then origin_Right_j4 (eqS r3.1 a1.Text) else origin_Right_j4 false)
noncomputable def origin_Right (a0 : List Source) (a1 : Token) : Option Bool :=
  loopO (origin_Right_b1 a0 a1) ((a1.Calls.length : Int), 0)
def e_origin_Right : Bool → D := fun r => dB r
def c_origin_Right : (List Source) × Token → List D := fun a => [(dL 2 d_Source) a.1, d_Token a.2]
theorem c_origin_Right_inj : Inj c_origin_Right := by rintro ⟨a0, a1⟩ ⟨b0, b1⟩ h; simp only [c_origin_Right, List.map_cons, List.map_nil, List.cons.injEq, and_true] at h; obtain ⟨h0, h1⟩ := h; obtain rfl := (dL_inj (sz := 0) d_Source_inj _ _) h0; obtain rfl := (d_Token_sinj _ _) h1; rfl
noncomputable def pf_origin_Right : PF := PF.of c_origin_Right (fun a => origin_Right a.1 a.2) e_origin_Right
noncomputable def t_origin_Right : Tab := tabOf Try.prog [(60, pf_origin_end), (22, pf_origin_Span)] []
theorem t_origin_Right_ok : TabOk t_origin_Right := tabOf_ok (by exact ⟨⟨call_60, origin_end_ok⟩, ⟨call_22, origin_Span_ok⟩, trivial⟩) (by exact trivial)
theorem y_origin_Right : (((((((type_of% @tAgg_3) ∧ (type_of% @tAgg_35)) ∧ ((type_of% @tAgg_37) ∧ ((type_of% @tAgg_44) ∧ (type_of% @tAgg_9)))) ∧ (((type_of% @tBytes_44) ∧ (type_of% @tCS_3)) ∧ ((type_of% @tCS_34) ∧ ((type_of% @tCS_35) ∧ (type_of% @tCS_37))))) ∧ ((((type_of% @tCS_4) ∧ (type_of% @tCS_44)) ∧ ((type_of% @tCS_9) ∧ ((type_of% @tElem_35) ∧ (type_of% @tFld_37_0)))) ∧ (((type_of% @tFld_37_1) ∧ (type_of% @tFld_37_10)) ∧ ((type_of% @tFld_37_2) ∧ ((type_of% @tFld_37_3) ∧ (type_of% @tFld_37_4)))))) ∧ (((((type_of% @tFld_37_5) ∧ (type_of% @tFld_37_6)) ∧ ((type_of% @tFld_37_7) ∧ ((type_of% @tFld_37_8) ∧ (type_of% @tFld_37_9)))) ∧ (((type_of% @tFld_44_0) ∧ (type_of% @tFld_44_1)) ∧ ((type_of% @tFld_44_2) ∧ ((type_of% @tKnown_3) ∧ (type_of% @tKnown_35))))) ∧ ((((type_of% @tKnown_37) ∧ (type_of% @tKnown_44)) ∧ ((type_of% @tKnown_9) ∧ ((type_of% @tOff_37_0) ∧ (type_of% @tOff_37_1)))) ∧ (((type_of% @tOff_37_10) ∧ (type_of% @tOff_37_2)) ∧ ((type_of% @tOff_37_3) ∧ ((type_of% @tOff_37_4) ∧ (type_of% @tOff_37_5))))))) ∧ ((((((type_of% @tOff_37_6) ∧ (type_of% @tOff_37_7)) ∧ ((type_of% @tOff_37_8) ∧ ((type_of% @tOff_37_9) ∧ (type_of% @tOff_44_0)))) ∧ (((type_of% @tOff_44_1) ∧ (type_of% @tOff_44_2)) ∧ ((type_of% @tPlain_37) ∧ ((type_of% @tSize_3) ∧ (type_of% @tSize_34))))) ∧ ((((type_of% @tSize_35) ∧ (type_of% @tSize_37)) ∧ ((type_of% @tSize_4) ∧ ((type_of% @tSize_44) ∧ (type_of% @tSize_9)))) ∧ (((type_of% @tSlice_35) ∧ (type_of% @tStruct_37_0)) ∧ ((type_of% @tStruct_37_1) ∧ ((type_of% @tStruct_37_10) ∧ (type_of% @tStruct_37_2)))))) ∧ (((((type_of% @tStruct_37_3) ∧ (type_of% @tStruct_37_4)) ∧ ((type_of% @tStruct_37_5) ∧ ((type_of% @tStruct_37_6) ∧ (type_of% @tStruct_37_7)))) ∧ (((type_of% @tStruct_37_8) ∧ (type_of% @tStruct_37_9)) ∧ ((type_of% @tStruct_44_0) ∧ ((type_of% @tStruct_44_1) ∧ (type_of% @tStruct_44_2))))) ∧ ((((type_of% @tZ_37) ∧ (type_of% @tZ_44)) ∧ ((type_of% @tZok_37) ∧ ((type_of% @tZok_44) ∧ (type_of% @d_Spliced.eq_1)))) ∧ (((type_of% @d_Call.eq_1) ∧ ((type_of% @d_Token.eq_1) ∧ (type_of% @d_Source.eq_1))) ∧ ((type_of% @t_origin_Right.eq_1) ∧ ((type_of% @c_origin_Right.eq_1) ∧ (type_of% @e_origin_Right.eq_1)))))))) := ⟨⟨⟨⟨⟨⟨@tAgg_3, @tAgg_35⟩, ⟨@tAgg_37, ⟨@tAgg_44, @tAgg_9⟩⟩⟩, ⟨⟨@tBytes_44, @tCS_3⟩, ⟨@tCS_34, ⟨@tCS_35, @tCS_37⟩⟩⟩⟩, ⟨⟨⟨@tCS_4, @tCS_44⟩, ⟨@tCS_9, ⟨@tElem_35, @tFld_37_0⟩⟩⟩, ⟨⟨@tFld_37_1, @tFld_37_10⟩, ⟨@tFld_37_2, ⟨@tFld_37_3, @tFld_37_4⟩⟩⟩⟩⟩, ⟨⟨⟨⟨@tFld_37_5, @tFld_37_6⟩, ⟨@tFld_37_7, ⟨@tFld_37_8, @tFld_37_9⟩⟩⟩, ⟨⟨@tFld_44_0, @tFld_44_1⟩, ⟨@tFld_44_2, ⟨@tKnown_3, @tKnown_35⟩⟩⟩⟩, ⟨⟨⟨@tKnown_37, @tKnown_44⟩, ⟨@tKnown_9, ⟨@tOff_37_0, @tOff_37_1⟩⟩⟩, ⟨⟨@tOff_37_10, @tOff_37_2⟩, ⟨@tOff_37_3, ⟨@tOff_37_4, @tOff_37_5⟩⟩⟩⟩⟩⟩, ⟨⟨⟨⟨⟨@tOff_37_6, @tOff_37_7⟩, ⟨@tOff_37_8, ⟨@tOff_37_9, @tOff_44_0⟩⟩⟩, ⟨⟨@tOff_44_1, @tOff_44_2⟩, ⟨@tPlain_37, ⟨@tSize_3, @tSize_34⟩⟩⟩⟩, ⟨⟨⟨@tSize_35, @tSize_37⟩, ⟨@tSize_4, ⟨@tSize_44, @tSize_9⟩⟩⟩, ⟨⟨@tSlice_35, @tStruct_37_0⟩, ⟨@tStruct_37_1, ⟨@tStruct_37_10, @tStruct_37_2⟩⟩⟩⟩⟩, ⟨⟨⟨⟨@tStruct_37_3, @tStruct_37_4⟩, ⟨@tStruct_37_5, ⟨@tStruct_37_6, @tStruct_37_7⟩⟩⟩, ⟨⟨@tStruct_37_8, @tStruct_37_9⟩, ⟨@tStruct_44_0, ⟨@tStruct_44_1, @tStruct_44_2⟩⟩⟩⟩, ⟨⟨⟨@tZ_37, @tZ_44⟩, ⟨@tZok_37, ⟨@tZok_44, @d_Spliced.eq_1⟩⟩⟩, ⟨⟨@d_Call.eq_1, ⟨@d_Token.eq_1, @d_Source.eq_1⟩⟩, ⟨@t_origin_Right.eq_1, ⟨@c_origin_Right.eq_1, @e_origin_Right.eq_1⟩⟩⟩⟩⟩⟩⟩
set_option maxRecDepth 100000 in
set_option maxHeartbeats 4000000 in
theorem origin_Right_ok : PureOk Try.prog 24 pf_origin_Right := by
  refine pure_of (t := t_origin_Right) (pure := fun n => [60, 22].contains n) c_origin_Right_inj rfl t_origin_Right_ok mixed (fun n hn => tabOf_pure rfl n hn) Try.func24 rfl (by kernel_rfl) (fun a => by simp [c_origin_Right, Try.ntmps24]) ?_
  rintro ⟨a0, a1⟩ out H
  simp only [origin_Right] at H
  show aC _ _ (sig0 (List.map (fun d => AV.c (C.d d)) (c_origin_Right (a0, a1)))) _ _
  refine w_seq ?_
  refine w_region rfl (fun K hK => ?_)
  simp -implicitDefEqProofs only [goR, ↓upd_at, if_true, if_false, reduceCtorEq, ↓reduceIte, Nat.reduceEqDiff, Nat.reduceAdd, Nat.reduceSub, Nat.reduceMul, Nat.reduceBEq, Nat.reduceLT, Nat.reduceLeDiff, Int.reduceToNat, Int.reduceLE, Int.reduceLT, Int.reduceEq, Int.reduceNeg, ← List.map_drop, ← List.map_take, UInt8.reduceToNat, true_implies, implies_true, List.append_eq, y_origin_Right]
  (repeat' (first | ((with_reducible refine hK _ _ ?_); clear hK K) | (with_reducible apply And.intro) | (exact trivial) | (clear hK K; assumption) | (clear hK K; omega)))
  refine then_normal ?_
  refine w_seq ?_
  refine w_seq ?_
  refine w_region rfl (fun K hK => ?_)
  simp -implicitDefEqProofs only [goR, ↓upd_at, if_true, if_false, reduceCtorEq, ↓reduceIte, Nat.reduceEqDiff, Nat.reduceAdd, Nat.reduceSub, Nat.reduceMul, Nat.reduceBEq, Nat.reduceLT, Nat.reduceLeDiff, Int.reduceToNat, Int.reduceLE, Int.reduceLT, Int.reduceEq, Int.reduceNeg, ← List.map_drop, ← List.map_take, UInt8.reduceToNat, true_implies, implies_true, List.append_eq, y_origin_Right]
  (repeat' (first | ((with_reducible refine hK _ _ ?_); clear hK K) | (with_reducible apply And.intro) | (exact trivial) | (clear hK K; assumption) | (clear hK K; omega)))
  refine then_normal ?_
  refine w_block ?_
  refine w_loop (origin_Right_b1 a0 a1) (fun s => [(0, .c (.d (.sl 2 (List.map d_Source a0)))), (3, .c (.pt 1 0)), (12, .c (.d (.sl 3 (List.map d_Call a1.Calls)))), (13, .c (.d (.v (.int .i64 s.1)))), (14, .c (.d (.v (.int .i64 s.2))))]) (fun s => [[.d (.v (.int .i64 a1.Kind)), .d (.v (str a1.Text)), .d (.v (.bool a1.Space)), .d (.v (.bool a1.First)), .d (.v (.int .i64 a1.File)), .d (.v (.int .i64 a1.At)), .d (.v (.int .i64 a1.End)), .d (.v (.int .i64 a1.Line)), .d (.sl 1 (List.map dS a1.Hide)), .d (.sl 3 (List.map d_Call a1.Calls)), .d (.v (.int .i64 a1.Made))]]) [] H ?_ ?_
  · exact wk_ren ⟨[1], []⟩ rfl rfl rfl rfl rfl (by simp -implicitDefEqProofs only [goW, goR, ↓upd_at, if_true, if_false, reduceCtorEq, ↓reduceIte, Nat.reduceEqDiff, Nat.reduceAdd, Nat.reduceSub, Nat.reduceMul, Nat.reduceBEq, Nat.reduceLT, Nat.reduceLeDiff, Int.reduceToNat, Int.reduceLE, Int.reduceLT, Int.reduceEq, Int.reduceNeg, ← List.map_drop, ← List.map_take, UInt8.reduceToNat, true_implies, implies_true, List.append_eq, y_origin_Right]) (by simp -implicitDefEqProofs only [goW, goR, ↓upd_at, if_true, if_false, reduceCtorEq, ↓reduceIte, Nat.reduceEqDiff, Nat.reduceAdd, Nat.reduceSub, Nat.reduceMul, Nat.reduceBEq, Nat.reduceLT, Nat.reduceLeDiff, Int.reduceToNat, Int.reduceLE, Int.reduceLT, Int.reduceEq, Int.reduceNeg, ← List.map_drop, ← List.map_take, UInt8.reduceToNat, true_implies, implies_true, List.append_eq, y_origin_Right]) (by simp -implicitDefEqProofs only [goW, goR, ↓upd_at, if_true, if_false, reduceCtorEq, ↓reduceIte, Nat.reduceEqDiff, Nat.reduceAdd, Nat.reduceSub, Nat.reduceMul, Nat.reduceBEq, Nat.reduceLT, Nat.reduceLeDiff, Int.reduceToNat, Int.reduceLE, Int.reduceLT, Int.reduceEq, Int.reduceNeg, ← List.map_drop, ← List.map_take, UInt8.reduceToNat, true_implies, implies_true, List.append_eq, y_origin_Right]) rfl
  · rintro n1 ⟨x1, x2⟩ o1 H hF1
    rw [origin_Right_b1] at H
    refine w_seq ?_
    refine w_region rfl (fun K hK => ?_)
    simp -implicitDefEqProofs only [goR, ↓upd_at, if_true, if_false, reduceCtorEq, ↓reduceIte, Nat.reduceEqDiff, Nat.reduceAdd, Nat.reduceSub, Nat.reduceMul, Nat.reduceBEq, Nat.reduceLT, Nat.reduceLeDiff, Int.reduceToNat, Int.reduceLE, Int.reduceLT, Int.reduceEq, Int.reduceNeg, ← List.map_drop, ← List.map_take, UInt8.reduceToNat, true_implies, implies_true, List.append_eq, y_origin_Right]
    (repeat' (first | ((with_reducible refine hK _ _ ?_); clear hK K) | (with_reducible apply And.intro) | (exact trivial) | (clear hK K; assumption) | (clear hK K; omega)))
    refine then_normal ?_
    refine w_seq ?_
    rcases bsplit H with ⟨hp1, H⟩ | ⟨hp1, H⟩
    · try simp -implicitDefEqProofs only [goR, ↓upd_at, if_true, if_false, reduceCtorEq, ↓reduceIte, Nat.reduceEqDiff, Nat.reduceAdd, Nat.reduceSub, Nat.reduceMul, Nat.reduceBEq, Nat.reduceLT, Nat.reduceLeDiff, Int.reduceToNat, Int.reduceLE, Int.reduceLT, Int.reduceEq, Int.reduceNeg, ← List.map_drop, ← List.map_take, UInt8.reduceToNat, true_implies, implies_true, List.append_eq, y_origin_Right] at hp1
      have hq1 := hp1
      try simp only [goT] at hq1
      refine w_condT (by simp -implicitDefEqProofs only [goR, ↓upd_at, if_true, if_false, reduceCtorEq, ↓reduceIte, Nat.reduceEqDiff, Nat.reduceAdd, Nat.reduceSub, Nat.reduceMul, Nat.reduceBEq, Nat.reduceLT, Nat.reduceLeDiff, Int.reduceToNat, Int.reduceLE, Int.reduceLT, Int.reduceEq, Int.reduceNeg, ← List.map_drop, ← List.map_take, UInt8.reduceToNat, true_implies, implies_true, List.append_eq, y_origin_Right, hp1]) ?_
      refine w_skip ?_
      refine then_normal ?_
      refine w_cut (origin_Right_j2 x1 x2) (fun s => [(0, .c (.d (.sl 2 (List.map d_Source a0)))), (3, .c (.pt 1 0)), (12, .c (.d (.sl 3 (List.map d_Call a1.Calls)))), (13, .c (.d (.v (.int .i64 x1)))), (14, .c (.d (.v (.int .i64 x2))))]) (fun s => [[.d (.v (.int .i64 a1.Kind)), .d (.v (str a1.Text)), .d (.v (.bool a1.Space)), .d (.v (.bool a1.First)), .d (.v (.int .i64 a1.File)), .d (.v (.int .i64 a1.At)), .d (.v (.int .i64 a1.End)), .d (.v (.int .i64 a1.Line)), .d (.sl 1 (List.map dS a1.Hide)), .d (.sl 3 (List.map d_Call a1.Calls)), .d (.v (.int .i64 a1.Made))]]) [] o1 ?_ ?_
      · refine w_block ?_
        refine w_seq ?_
        obtain ⟨hg1, H⟩ := gsplit H
        have g1 := map_getD d_Call a1.Calls x2.toNat default default (by omega)
        refine w_region rfl (fun K hK => ?_)
        simp -implicitDefEqProofs only [goR, ↓upd_at, if_true, if_false, reduceCtorEq, ↓reduceIte, Nat.reduceEqDiff, Nat.reduceAdd, Nat.reduceSub, Nat.reduceMul, Nat.reduceBEq, Nat.reduceLT, Nat.reduceLeDiff, Int.reduceToNat, Int.reduceLE, Int.reduceLT, Int.reduceEq, Int.reduceNeg, ← List.map_drop, ← List.map_take, UInt8.reduceToNat, true_implies, implies_true, List.append_eq, y_origin_Right, g1]
        (repeat' (first | ((with_reducible refine hK _ _ ?_); clear hK K) | (with_reducible apply And.intro) | (exact trivial) | (clear hK K; assumption) | (clear hK K; omega)))
        refine then_normal ?_
        refine w_seq ?_
        refine w_seq ?_
        refine w_region rfl (fun K hK => ?_)
        simp -implicitDefEqProofs only [goR, ↓upd_at, if_true, if_false, reduceCtorEq, ↓reduceIte, Nat.reduceEqDiff, Nat.reduceAdd, Nat.reduceSub, Nat.reduceMul, Nat.reduceBEq, Nat.reduceLT, Nat.reduceLeDiff, Int.reduceToNat, Int.reduceLE, Int.reduceLT, Int.reduceEq, Int.reduceNeg, ← List.map_drop, ← List.map_take, UInt8.reduceToNat, true_implies, implies_true, List.append_eq, y_origin_Right]
        (repeat' (first | ((with_reducible refine hK _ _ ?_); clear hK K) | (with_reducible apply And.intro) | (exact trivial) | (clear hK K; assumption) | (clear hK K; omega)))
        refine then_normal ?_
        rcases bsplit H with ⟨hp2, H⟩ | ⟨hp2, H⟩
        · try simp -implicitDefEqProofs only [goR, ↓upd_at, if_true, if_false, reduceCtorEq, ↓reduceIte, Nat.reduceEqDiff, Nat.reduceAdd, Nat.reduceSub, Nat.reduceMul, Nat.reduceBEq, Nat.reduceLT, Nat.reduceLeDiff, Int.reduceToNat, Int.reduceLE, Int.reduceLT, Int.reduceEq, Int.reduceNeg, ← List.map_drop, ← List.map_take, UInt8.reduceToNat, true_implies, implies_true, List.append_eq, y_origin_Right] at hp2
          have hq2 := hp2
          try simp only [goT] at hq2
          refine w_condT (by simp -implicitDefEqProofs only [goR, ↓upd_at, if_true, if_false, reduceCtorEq, ↓reduceIte, Nat.reduceEqDiff, Nat.reduceAdd, Nat.reduceSub, Nat.reduceMul, Nat.reduceBEq, Nat.reduceLT, Nat.reduceLeDiff, Int.reduceToNat, Int.reduceLE, Int.reduceLT, Int.reduceEq, Int.reduceNeg, ← List.map_drop, ← List.map_take, UInt8.reduceToNat, true_implies, implies_true, List.append_eq, y_origin_Right, hp2]) ?_
          refine w_exit ?_
          refine then_exit ?_
          refine block_exit ?_
          refine cut_at H ?_
          exact wk_ren ⟨[1], []⟩ rfl rfl rfl rfl rfl (by simp -implicitDefEqProofs only [goW, goR, ↓upd_at, if_true, if_false, reduceCtorEq, ↓reduceIte, Nat.reduceEqDiff, Nat.reduceAdd, Nat.reduceSub, Nat.reduceMul, Nat.reduceBEq, Nat.reduceLT, Nat.reduceLeDiff, Int.reduceToNat, Int.reduceLE, Int.reduceLT, Int.reduceEq, Int.reduceNeg, ← List.map_drop, ← List.map_take, UInt8.reduceToNat, true_implies, implies_true, List.append_eq, y_origin_Right]) (by simp -implicitDefEqProofs only [goW, goR, ↓upd_at, if_true, if_false, reduceCtorEq, ↓reduceIte, Nat.reduceEqDiff, Nat.reduceAdd, Nat.reduceSub, Nat.reduceMul, Nat.reduceBEq, Nat.reduceLT, Nat.reduceLeDiff, Int.reduceToNat, Int.reduceLE, Int.reduceLT, Int.reduceEq, Int.reduceNeg, ← List.map_drop, ← List.map_take, UInt8.reduceToNat, true_implies, implies_true, List.append_eq, y_origin_Right]) (by simp -implicitDefEqProofs only [goW, goR, ↓upd_at, if_true, if_false, reduceCtorEq, ↓reduceIte, Nat.reduceEqDiff, Nat.reduceAdd, Nat.reduceSub, Nat.reduceMul, Nat.reduceBEq, Nat.reduceLT, Nat.reduceLeDiff, Int.reduceToNat, Int.reduceLE, Int.reduceLT, Int.reduceEq, Int.reduceNeg, ← List.map_drop, ← List.map_take, UInt8.reduceToNat, true_implies, implies_true, List.append_eq, y_origin_Right]) rfl
        · try simp -implicitDefEqProofs only [goR, ↓upd_at, if_true, if_false, reduceCtorEq, ↓reduceIte, Nat.reduceEqDiff, Nat.reduceAdd, Nat.reduceSub, Nat.reduceMul, Nat.reduceBEq, Nat.reduceLT, Nat.reduceLeDiff, Int.reduceToNat, Int.reduceLE, Int.reduceLT, Int.reduceEq, Int.reduceNeg, ← List.map_drop, ← List.map_take, UInt8.reduceToNat, true_implies, implies_true, List.append_eq, y_origin_Right] at hp2
          have hq2 := hp2
          try simp only [goT] at hq2
          refine w_condF (by simp -implicitDefEqProofs only [goR, ↓upd_at, if_true, if_false, reduceCtorEq, ↓reduceIte, Nat.reduceEqDiff, Nat.reduceAdd, Nat.reduceSub, Nat.reduceMul, Nat.reduceBEq, Nat.reduceLT, Nat.reduceLeDiff, Int.reduceToNat, Int.reduceLE, Int.reduceLT, Int.reduceEq, Int.reduceNeg, ← List.map_drop, ← List.map_take, UInt8.reduceToNat, true_implies, implies_true, List.append_eq, y_origin_Right, hp2]) ?_
          refine w_skip ?_
          refine then_normal ?_
          refine w_seq ?_
          obtain ⟨r1, hr1, H⟩ := osplit H
          have hc1 := origin_end_c a0 (a1.Calls.getD x2.toNat default) r1 hr1
          simp -implicitDefEqProofs only [goR, ↓upd_at, if_true, if_false, reduceCtorEq, ↓reduceIte, Nat.reduceEqDiff, Nat.reduceAdd, Nat.reduceSub, Nat.reduceMul, Nat.reduceBEq, Nat.reduceLT, Nat.reduceLeDiff, Int.reduceToNat, Int.reduceLE, Int.reduceLT, Int.reduceEq, Int.reduceNeg, ← List.map_drop, ← List.map_take, UInt8.reduceToNat, true_implies, implies_true, List.append_eq, y_origin_Right] at hc1
          obtain ⟨r2, hr2, H⟩ := osplit H
          have hc2 := origin_Span_c a0 (⟨0, [], false, false, (a1.Calls.getD x2.toNat default).File, (a1.Calls.getD x2.toNat default).At, r1, 0, ([] : List (List UInt8)), ([] : List Call), 0⟩ : Token) r2 hr2
          simp -implicitDefEqProofs only [goR, ↓upd_at, if_true, if_false, reduceCtorEq, ↓reduceIte, Nat.reduceEqDiff, Nat.reduceAdd, Nat.reduceSub, Nat.reduceMul, Nat.reduceBEq, Nat.reduceLT, Nat.reduceLeDiff, Int.reduceToNat, Int.reduceLE, Int.reduceLT, Int.reduceEq, Int.reduceNeg, ← List.map_drop, ← List.map_take, UInt8.reduceToNat, true_implies, implies_true, List.append_eq, y_origin_Right] at hc2
          refine w_region rfl (fun K hK => ?_)
          simp -implicitDefEqProofs only [goR, ↓upd_at, if_true, if_false, reduceCtorEq, ↓reduceIte, Nat.reduceEqDiff, Nat.reduceAdd, Nat.reduceSub, Nat.reduceMul, Nat.reduceBEq, Nat.reduceLT, Nat.reduceLeDiff, Int.reduceToNat, Int.reduceLE, Int.reduceLT, Int.reduceEq, Int.reduceNeg, ← List.map_drop, ← List.map_take, UInt8.reduceToNat, true_implies, implies_true, List.append_eq, y_origin_Right, hc1.1, hc1.2, hc2.1, hc2.2]
          (repeat' (first | ((with_reducible refine hK _ _ ?_); clear hK K) | (with_reducible apply And.intro) | (exact trivial) | (clear hK K; assumption) | (clear hK K; omega)))
          refine then_normal ?_
          refine w_cut (origin_Right_j3 x1 x2) (fun s => [(0, .c (.d (.sl 2 (List.map d_Source a0)))), (3, .c (.pt 1 0)), (12, .c (.d (.sl 3 (List.map d_Call a1.Calls)))), (13, .c (.d (.v (.int .i64 x1)))), (14, .c (.d (.v (.int .i64 x2)))), (41, .c (.d (.v (.bool s))))]) (fun s => [[.d (.v (.int .i64 a1.Kind)), .d (.v (str a1.Text)), .d (.v (.bool a1.Space)), .d (.v (.bool a1.First)), .d (.v (.int .i64 a1.File)), .d (.v (.int .i64 a1.At)), .d (.v (.int .i64 a1.End)), .d (.v (.int .i64 a1.Line)), .d (.sl 1 (List.map dS a1.Hide)), .d (.sl 3 (List.map d_Call a1.Calls)), .d (.v (.int .i64 a1.Made))]]) [] o1 ?_ ?_
          · rcases bsplit H with ⟨hp4, H⟩ | ⟨hp4, H⟩
            · try simp -implicitDefEqProofs only [goR, ↓upd_at, if_true, if_false, reduceCtorEq, ↓reduceIte, Nat.reduceEqDiff, Nat.reduceAdd, Nat.reduceSub, Nat.reduceMul, Nat.reduceBEq, Nat.reduceLT, Nat.reduceLeDiff, Int.reduceToNat, Int.reduceLE, Int.reduceLT, Int.reduceEq, Int.reduceNeg, ← List.map_drop, ← List.map_take, UInt8.reduceToNat, true_implies, implies_true, List.append_eq, y_origin_Right] at hp4
              have hq4 := hp4
              try simp only [goT] at hq4
              refine w_region rfl (fun K hK => ?_)
              simp -implicitDefEqProofs only [goR, ↓upd_at, if_true, if_false, reduceCtorEq, ↓reduceIte, Nat.reduceEqDiff, Nat.reduceAdd, Nat.reduceSub, Nat.reduceMul, Nat.reduceBEq, Nat.reduceLT, Nat.reduceLeDiff, Int.reduceToNat, Int.reduceLE, Int.reduceLT, Int.reduceEq, Int.reduceNeg, ← List.map_drop, ← List.map_take, UInt8.reduceToNat, true_implies, implies_true, List.append_eq, y_origin_Right, hp4]
              (repeat' (first | ((with_reducible refine hK _ _ ?_); clear hK K) | (with_reducible apply And.intro) | (exact trivial) | (clear hK K; assumption) | (clear hK K; omega)))
              refine cut_at H ?_
              exact wk_ren ⟨[1], []⟩ rfl rfl rfl rfl rfl (by simp -implicitDefEqProofs only [goW, goR, ↓upd_at, if_true, if_false, reduceCtorEq, ↓reduceIte, Nat.reduceEqDiff, Nat.reduceAdd, Nat.reduceSub, Nat.reduceMul, Nat.reduceBEq, Nat.reduceLT, Nat.reduceLeDiff, Int.reduceToNat, Int.reduceLE, Int.reduceLT, Int.reduceEq, Int.reduceNeg, ← List.map_drop, ← List.map_take, UInt8.reduceToNat, true_implies, implies_true, List.append_eq, y_origin_Right]) (by simp -implicitDefEqProofs only [goW, goR, ↓upd_at, if_true, if_false, reduceCtorEq, ↓reduceIte, Nat.reduceEqDiff, Nat.reduceAdd, Nat.reduceSub, Nat.reduceMul, Nat.reduceBEq, Nat.reduceLT, Nat.reduceLeDiff, Int.reduceToNat, Int.reduceLE, Int.reduceLT, Int.reduceEq, Int.reduceNeg, ← List.map_drop, ← List.map_take, UInt8.reduceToNat, true_implies, implies_true, List.append_eq, y_origin_Right]) (by simp -implicitDefEqProofs only [goW, goR, ↓upd_at, if_true, if_false, reduceCtorEq, ↓reduceIte, Nat.reduceEqDiff, Nat.reduceAdd, Nat.reduceSub, Nat.reduceMul, Nat.reduceBEq, Nat.reduceLT, Nat.reduceLeDiff, Int.reduceToNat, Int.reduceLE, Int.reduceLT, Int.reduceEq, Int.reduceNeg, ← List.map_drop, ← List.map_take, UInt8.reduceToNat, true_implies, implies_true, List.append_eq, y_origin_Right]) rfl
            · try simp -implicitDefEqProofs only [goR, ↓upd_at, if_true, if_false, reduceCtorEq, ↓reduceIte, Nat.reduceEqDiff, Nat.reduceAdd, Nat.reduceSub, Nat.reduceMul, Nat.reduceBEq, Nat.reduceLT, Nat.reduceLeDiff, Int.reduceToNat, Int.reduceLE, Int.reduceLT, Int.reduceEq, Int.reduceNeg, ← List.map_drop, ← List.map_take, UInt8.reduceToNat, true_implies, implies_true, List.append_eq, y_origin_Right] at hp4
              have hq4 := hp4
              try simp only [goT] at hq4
              refine w_region rfl (fun K hK => ?_)
              simp -implicitDefEqProofs only [goR, ↓upd_at, if_true, if_false, reduceCtorEq, ↓reduceIte, Nat.reduceEqDiff, Nat.reduceAdd, Nat.reduceSub, Nat.reduceMul, Nat.reduceBEq, Nat.reduceLT, Nat.reduceLeDiff, Int.reduceToNat, Int.reduceLE, Int.reduceLT, Int.reduceEq, Int.reduceNeg, ← List.map_drop, ← List.map_take, UInt8.reduceToNat, true_implies, implies_true, List.append_eq, y_origin_Right, hp4]
              (repeat' (first | ((with_reducible refine hK _ _ ?_); clear hK K) | (with_reducible apply And.intro) | (exact trivial) | (clear hK K; assumption) | (clear hK K; omega)))
              refine cut_at H ?_
              exact wk_ren ⟨[1], []⟩ rfl rfl rfl rfl rfl (by simp -implicitDefEqProofs only [goW, goR, ↓upd_at, if_true, if_false, reduceCtorEq, ↓reduceIte, Nat.reduceEqDiff, Nat.reduceAdd, Nat.reduceSub, Nat.reduceMul, Nat.reduceBEq, Nat.reduceLT, Nat.reduceLeDiff, Int.reduceToNat, Int.reduceLE, Int.reduceLT, Int.reduceEq, Int.reduceNeg, ← List.map_drop, ← List.map_take, UInt8.reduceToNat, true_implies, implies_true, List.append_eq, y_origin_Right]) (by simp -implicitDefEqProofs only [goW, goR, ↓upd_at, if_true, if_false, reduceCtorEq, ↓reduceIte, Nat.reduceEqDiff, Nat.reduceAdd, Nat.reduceSub, Nat.reduceMul, Nat.reduceBEq, Nat.reduceLT, Nat.reduceLeDiff, Int.reduceToNat, Int.reduceLE, Int.reduceLT, Int.reduceEq, Int.reduceNeg, ← List.map_drop, ← List.map_take, UInt8.reduceToNat, true_implies, implies_true, List.append_eq, y_origin_Right]) (by simp -implicitDefEqProofs only [goW, goR, ↓upd_at, if_true, if_false, reduceCtorEq, ↓reduceIte, Nat.reduceEqDiff, Nat.reduceAdd, Nat.reduceSub, Nat.reduceMul, Nat.reduceBEq, Nat.reduceLT, Nat.reduceLeDiff, Int.reduceToNat, Int.reduceLE, Int.reduceLT, Int.reduceEq, Int.reduceNeg, ← List.map_drop, ← List.map_take, UInt8.reduceToNat, true_implies, implies_true, List.append_eq, y_origin_Right]) rfl
          · rintro x3 H
            rw [origin_Right_j3] at H
            rcases bsplit H with ⟨hp3, H⟩ | ⟨hp3, H⟩
            · try simp -implicitDefEqProofs only [goR, ↓upd_at, if_true, if_false, reduceCtorEq, ↓reduceIte, Nat.reduceEqDiff, Nat.reduceAdd, Nat.reduceSub, Nat.reduceMul, Nat.reduceBEq, Nat.reduceLT, Nat.reduceLeDiff, Int.reduceToNat, Int.reduceLE, Int.reduceLT, Int.reduceEq, Int.reduceNeg, ← List.map_drop, ← List.map_take, UInt8.reduceToNat, true_implies, implies_true, List.append_eq, y_origin_Right] at hp3
              have hq3 := hp3
              try simp only [goT] at hq3
              refine w_condT (by simp -implicitDefEqProofs only [goR, ↓upd_at, if_true, if_false, reduceCtorEq, ↓reduceIte, Nat.reduceEqDiff, Nat.reduceAdd, Nat.reduceSub, Nat.reduceMul, Nat.reduceBEq, Nat.reduceLT, Nat.reduceLeDiff, Int.reduceToNat, Int.reduceLE, Int.reduceLT, Int.reduceEq, Int.reduceNeg, ← List.map_drop, ← List.map_take, UInt8.reduceToNat, true_implies, implies_true, List.append_eq, y_origin_Right, hp3]) ?_
              refine w_seq ?_
              refine w_region rfl (fun K hK => ?_)
              simp -implicitDefEqProofs only [goR, ↓upd_at, if_true, if_false, reduceCtorEq, ↓reduceIte, Nat.reduceEqDiff, Nat.reduceAdd, Nat.reduceSub, Nat.reduceMul, Nat.reduceBEq, Nat.reduceLT, Nat.reduceLeDiff, Int.reduceToNat, Int.reduceLE, Int.reduceLT, Int.reduceEq, Int.reduceNeg, ← List.map_drop, ← List.map_take, UInt8.reduceToNat, true_implies, implies_true, List.append_eq, y_origin_Right]
              (repeat' (first | ((with_reducible refine hK _ _ ?_); clear hK K) | (with_reducible apply And.intro) | (exact trivial) | (clear hK K; assumption) | (clear hK K; omega)))
              refine then_normal ?_
              refine w_ret ?_
              refine block_ret ?_
              refine cut_ret ?_
              replace H := inrO_fin H hF1
              refine round_ret ?_
              refine block_ret ?_
              refine then_ret ?_
              obtain rfl := Option.some.inj H
              simp -implicitDefEqProofs only [goQ, Try.results24, goR, ↓upd_at, if_true, if_false, reduceCtorEq, ↓reduceIte, Nat.reduceEqDiff, Nat.reduceAdd, Nat.reduceSub, Nat.reduceMul, Nat.reduceBEq, Nat.reduceLT, Nat.reduceLeDiff, Int.reduceToNat, Int.reduceLE, Int.reduceLT, Int.reduceEq, Int.reduceNeg, ← List.map_drop, ← List.map_take, UInt8.reduceToNat, true_implies, implies_true, List.append_eq, y_origin_Right]
            · try simp -implicitDefEqProofs only [goR, ↓upd_at, if_true, if_false, reduceCtorEq, ↓reduceIte, Nat.reduceEqDiff, Nat.reduceAdd, Nat.reduceSub, Nat.reduceMul, Nat.reduceBEq, Nat.reduceLT, Nat.reduceLeDiff, Int.reduceToNat, Int.reduceLE, Int.reduceLT, Int.reduceEq, Int.reduceNeg, ← List.map_drop, ← List.map_take, UInt8.reduceToNat, true_implies, implies_true, List.append_eq, y_origin_Right] at hp3
              have hq3 := hp3
              try simp only [goT] at hq3
              refine w_condF (by simp -implicitDefEqProofs only [goR, ↓upd_at, if_true, if_false, reduceCtorEq, ↓reduceIte, Nat.reduceEqDiff, Nat.reduceAdd, Nat.reduceSub, Nat.reduceMul, Nat.reduceBEq, Nat.reduceLT, Nat.reduceLeDiff, Int.reduceToNat, Int.reduceLE, Int.reduceLT, Int.reduceEq, Int.reduceNeg, ← List.map_drop, ← List.map_take, UInt8.reduceToNat, true_implies, implies_true, List.append_eq, y_origin_Right, hp3]) ?_
              refine w_skip ?_
              refine block_normal ?_
              refine cut_at H ?_
              exact wk_ren ⟨[1], []⟩ rfl rfl rfl rfl rfl (by simp -implicitDefEqProofs only [goW, goR, ↓upd_at, if_true, if_false, reduceCtorEq, ↓reduceIte, Nat.reduceEqDiff, Nat.reduceAdd, Nat.reduceSub, Nat.reduceMul, Nat.reduceBEq, Nat.reduceLT, Nat.reduceLeDiff, Int.reduceToNat, Int.reduceLE, Int.reduceLT, Int.reduceEq, Int.reduceNeg, ← List.map_drop, ← List.map_take, UInt8.reduceToNat, true_implies, implies_true, List.append_eq, y_origin_Right]) (by simp -implicitDefEqProofs only [goW, goR, ↓upd_at, if_true, if_false, reduceCtorEq, ↓reduceIte, Nat.reduceEqDiff, Nat.reduceAdd, Nat.reduceSub, Nat.reduceMul, Nat.reduceBEq, Nat.reduceLT, Nat.reduceLeDiff, Int.reduceToNat, Int.reduceLE, Int.reduceLT, Int.reduceEq, Int.reduceNeg, ← List.map_drop, ← List.map_take, UInt8.reduceToNat, true_implies, implies_true, List.append_eq, y_origin_Right]) (by simp -implicitDefEqProofs only [goW, goR, ↓upd_at, if_true, if_false, reduceCtorEq, ↓reduceIte, Nat.reduceEqDiff, Nat.reduceAdd, Nat.reduceSub, Nat.reduceMul, Nat.reduceBEq, Nat.reduceLT, Nat.reduceLeDiff, Int.reduceToNat, Int.reduceLE, Int.reduceLT, Int.reduceEq, Int.reduceNeg, ← List.map_drop, ← List.map_take, UInt8.reduceToNat, true_implies, implies_true, List.append_eq, y_origin_Right]) rfl
      · rintro ⟨⟩ H
        rw [origin_Right_j2] at H
        refine w_region rfl (fun K hK => ?_)
        simp -implicitDefEqProofs only [goR, ↓upd_at, if_true, if_false, reduceCtorEq, ↓reduceIte, Nat.reduceEqDiff, Nat.reduceAdd, Nat.reduceSub, Nat.reduceMul, Nat.reduceBEq, Nat.reduceLT, Nat.reduceLeDiff, Int.reduceToNat, Int.reduceLE, Int.reduceLT, Int.reduceEq, Int.reduceNeg, ← List.map_drop, ← List.map_take, UInt8.reduceToNat, true_implies, implies_true, List.append_eq, y_origin_Right]
        (repeat' (first | ((with_reducible refine hK _ _ ?_); clear hK K) | (with_reducible apply And.intro) | (exact trivial) | (clear hK K; assumption) | (clear hK K; omega)))
        refine round_at (inl_fin H hF1) ?_
        exact wk_ren ⟨[1], []⟩ rfl rfl rfl rfl rfl (by simp -implicitDefEqProofs only [goW, goR, ↓upd_at, if_true, if_false, reduceCtorEq, ↓reduceIte, Nat.reduceEqDiff, Nat.reduceAdd, Nat.reduceSub, Nat.reduceMul, Nat.reduceBEq, Nat.reduceLT, Nat.reduceLeDiff, Int.reduceToNat, Int.reduceLE, Int.reduceLT, Int.reduceEq, Int.reduceNeg, ← List.map_drop, ← List.map_take, UInt8.reduceToNat, true_implies, implies_true, List.append_eq, y_origin_Right]) (by simp -implicitDefEqProofs only [goW, goR, ↓upd_at, if_true, if_false, reduceCtorEq, ↓reduceIte, Nat.reduceEqDiff, Nat.reduceAdd, Nat.reduceSub, Nat.reduceMul, Nat.reduceBEq, Nat.reduceLT, Nat.reduceLeDiff, Int.reduceToNat, Int.reduceLE, Int.reduceLT, Int.reduceEq, Int.reduceNeg, ← List.map_drop, ← List.map_take, UInt8.reduceToNat, true_implies, implies_true, List.append_eq, y_origin_Right]) (by simp -implicitDefEqProofs only [goW, goR, ↓upd_at, if_true, if_false, reduceCtorEq, ↓reduceIte, Nat.reduceEqDiff, Nat.reduceAdd, Nat.reduceSub, Nat.reduceMul, Nat.reduceBEq, Nat.reduceLT, Nat.reduceLeDiff, Int.reduceToNat, Int.reduceLE, Int.reduceLT, Int.reduceEq, Int.reduceNeg, ← List.map_drop, ← List.map_take, UInt8.reduceToNat, true_implies, implies_true, List.append_eq, y_origin_Right]) rfl
    · try simp -implicitDefEqProofs only [goR, ↓upd_at, if_true, if_false, reduceCtorEq, ↓reduceIte, Nat.reduceEqDiff, Nat.reduceAdd, Nat.reduceSub, Nat.reduceMul, Nat.reduceBEq, Nat.reduceLT, Nat.reduceLeDiff, Int.reduceToNat, Int.reduceLE, Int.reduceLT, Int.reduceEq, Int.reduceNeg, ← List.map_drop, ← List.map_take, UInt8.reduceToNat, true_implies, implies_true, List.append_eq, y_origin_Right] at hp1
      have hq1 := hp1
      try simp only [goT] at hq1
      refine w_condF (by simp -implicitDefEqProofs only [goR, ↓upd_at, if_true, if_false, reduceCtorEq, ↓reduceIte, Nat.reduceEqDiff, Nat.reduceAdd, Nat.reduceSub, Nat.reduceMul, Nat.reduceBEq, Nat.reduceLT, Nat.reduceLeDiff, Int.reduceToNat, Int.reduceLE, Int.reduceLT, Int.reduceEq, Int.reduceNeg, ← List.map_drop, ← List.map_take, UInt8.reduceToNat, true_implies, implies_true, List.append_eq, y_origin_Right, hp1]) ?_
      refine w_exit ?_
      refine then_exit ?_
      replace H := inrO_fin H hF1
      refine round_exit ?_
      refine block_exit ?_
      refine then_normal ?_
      refine w_seq ?_
      obtain ⟨r3, hr3, H⟩ := osplit H
      have hc3 := origin_Span_c a0 a1 r3 hr3
      simp -implicitDefEqProofs only [goR, ↓upd_at, if_true, if_false, reduceCtorEq, ↓reduceIte, Nat.reduceEqDiff, Nat.reduceAdd, Nat.reduceSub, Nat.reduceMul, Nat.reduceBEq, Nat.reduceLT, Nat.reduceLeDiff, Int.reduceToNat, Int.reduceLE, Int.reduceLT, Int.reduceEq, Int.reduceNeg, ← List.map_drop, ← List.map_take, UInt8.reduceToNat, true_implies, implies_true, List.append_eq, y_origin_Right] at hc3
      refine w_region rfl (fun K hK => ?_)
      simp -implicitDefEqProofs only [goR, ↓upd_at, if_true, if_false, reduceCtorEq, ↓reduceIte, Nat.reduceEqDiff, Nat.reduceAdd, Nat.reduceSub, Nat.reduceMul, Nat.reduceBEq, Nat.reduceLT, Nat.reduceLeDiff, Int.reduceToNat, Int.reduceLE, Int.reduceLT, Int.reduceEq, Int.reduceNeg, ← List.map_drop, ← List.map_take, UInt8.reduceToNat, true_implies, implies_true, List.append_eq, y_origin_Right, hc3.1, hc3.2]
      (repeat' (first | ((with_reducible refine hK _ _ ?_); clear hK K) | (with_reducible apply And.intro) | (exact trivial) | (clear hK K; assumption) | (clear hK K; omega)))
      refine then_normal ?_
      refine w_cut origin_Right_j4 (fun s => [(4, .c (.d (.v (.bool s))))]) (fun s => []) [] out ?_ ?_
      · rcases bsplit H with ⟨hp5, H⟩ | ⟨hp5, H⟩
        · try simp -implicitDefEqProofs only [goR, ↓upd_at, if_true, if_false, reduceCtorEq, ↓reduceIte, Nat.reduceEqDiff, Nat.reduceAdd, Nat.reduceSub, Nat.reduceMul, Nat.reduceBEq, Nat.reduceLT, Nat.reduceLeDiff, Int.reduceToNat, Int.reduceLE, Int.reduceLT, Int.reduceEq, Int.reduceNeg, ← List.map_drop, ← List.map_take, UInt8.reduceToNat, true_implies, implies_true, List.append_eq, y_origin_Right] at hp5
          have hq5 := hp5
          try simp only [goT] at hq5
          refine w_region rfl (fun K hK => ?_)
          simp -implicitDefEqProofs only [goR, ↓upd_at, if_true, if_false, reduceCtorEq, ↓reduceIte, Nat.reduceEqDiff, Nat.reduceAdd, Nat.reduceSub, Nat.reduceMul, Nat.reduceBEq, Nat.reduceLT, Nat.reduceLeDiff, Int.reduceToNat, Int.reduceLE, Int.reduceLT, Int.reduceEq, Int.reduceNeg, ← List.map_drop, ← List.map_take, UInt8.reduceToNat, true_implies, implies_true, List.append_eq, y_origin_Right, hp5]
          (repeat' (first | ((with_reducible refine hK _ _ ?_); clear hK K) | (with_reducible apply And.intro) | (exact trivial) | (clear hK K; assumption) | (clear hK K; omega)))
          refine cut_at H ?_
          exact wk_ren ⟨[], []⟩ rfl rfl rfl rfl rfl (by simp -implicitDefEqProofs only [goW, goR, ↓upd_at, if_true, if_false, reduceCtorEq, ↓reduceIte, Nat.reduceEqDiff, Nat.reduceAdd, Nat.reduceSub, Nat.reduceMul, Nat.reduceBEq, Nat.reduceLT, Nat.reduceLeDiff, Int.reduceToNat, Int.reduceLE, Int.reduceLT, Int.reduceEq, Int.reduceNeg, ← List.map_drop, ← List.map_take, UInt8.reduceToNat, true_implies, implies_true, List.append_eq, y_origin_Right]) (by simp -implicitDefEqProofs only [goW, goR, ↓upd_at, if_true, if_false, reduceCtorEq, ↓reduceIte, Nat.reduceEqDiff, Nat.reduceAdd, Nat.reduceSub, Nat.reduceMul, Nat.reduceBEq, Nat.reduceLT, Nat.reduceLeDiff, Int.reduceToNat, Int.reduceLE, Int.reduceLT, Int.reduceEq, Int.reduceNeg, ← List.map_drop, ← List.map_take, UInt8.reduceToNat, true_implies, implies_true, List.append_eq, y_origin_Right]) (by simp -implicitDefEqProofs only [goW, goR, ↓upd_at, if_true, if_false, reduceCtorEq, ↓reduceIte, Nat.reduceEqDiff, Nat.reduceAdd, Nat.reduceSub, Nat.reduceMul, Nat.reduceBEq, Nat.reduceLT, Nat.reduceLeDiff, Int.reduceToNat, Int.reduceLE, Int.reduceLT, Int.reduceEq, Int.reduceNeg, ← List.map_drop, ← List.map_take, UInt8.reduceToNat, true_implies, implies_true, List.append_eq, y_origin_Right]) rfl
        · try simp -implicitDefEqProofs only [goR, ↓upd_at, if_true, if_false, reduceCtorEq, ↓reduceIte, Nat.reduceEqDiff, Nat.reduceAdd, Nat.reduceSub, Nat.reduceMul, Nat.reduceBEq, Nat.reduceLT, Nat.reduceLeDiff, Int.reduceToNat, Int.reduceLE, Int.reduceLT, Int.reduceEq, Int.reduceNeg, ← List.map_drop, ← List.map_take, UInt8.reduceToNat, true_implies, implies_true, List.append_eq, y_origin_Right] at hp5
          have hq5 := hp5
          try simp only [goT] at hq5
          rcases bsplit H with ⟨hp6, H⟩ | ⟨hp6, H⟩
          · try simp -implicitDefEqProofs only [goR, ↓upd_at, if_true, if_false, reduceCtorEq, ↓reduceIte, Nat.reduceEqDiff, Nat.reduceAdd, Nat.reduceSub, Nat.reduceMul, Nat.reduceBEq, Nat.reduceLT, Nat.reduceLeDiff, Int.reduceToNat, Int.reduceLE, Int.reduceLT, Int.reduceEq, Int.reduceNeg, ← List.map_drop, ← List.map_take, UInt8.reduceToNat, true_implies, implies_true, List.append_eq, y_origin_Right] at hp6
            have hq6 := hp6
            try simp only [goT] at hq6
            refine w_region rfl (fun K hK => ?_)
            simp -implicitDefEqProofs only [goR, ↓upd_at, if_true, if_false, reduceCtorEq, ↓reduceIte, Nat.reduceEqDiff, Nat.reduceAdd, Nat.reduceSub, Nat.reduceMul, Nat.reduceBEq, Nat.reduceLT, Nat.reduceLeDiff, Int.reduceToNat, Int.reduceLE, Int.reduceLT, Int.reduceEq, Int.reduceNeg, ← List.map_drop, ← List.map_take, UInt8.reduceToNat, true_implies, implies_true, List.append_eq, y_origin_Right, hp5, hp6]
            (repeat' (first | ((with_reducible refine hK _ _ ?_); clear hK K) | (with_reducible apply And.intro) | (exact trivial) | (clear hK K; assumption) | (clear hK K; omega)))
            refine cut_at H ?_
            exact wk_ren ⟨[], []⟩ rfl rfl rfl rfl rfl (by simp -implicitDefEqProofs only [goW, goR, ↓upd_at, if_true, if_false, reduceCtorEq, ↓reduceIte, Nat.reduceEqDiff, Nat.reduceAdd, Nat.reduceSub, Nat.reduceMul, Nat.reduceBEq, Nat.reduceLT, Nat.reduceLeDiff, Int.reduceToNat, Int.reduceLE, Int.reduceLT, Int.reduceEq, Int.reduceNeg, ← List.map_drop, ← List.map_take, UInt8.reduceToNat, true_implies, implies_true, List.append_eq, y_origin_Right]) (by simp -implicitDefEqProofs only [goW, goR, ↓upd_at, if_true, if_false, reduceCtorEq, ↓reduceIte, Nat.reduceEqDiff, Nat.reduceAdd, Nat.reduceSub, Nat.reduceMul, Nat.reduceBEq, Nat.reduceLT, Nat.reduceLeDiff, Int.reduceToNat, Int.reduceLE, Int.reduceLT, Int.reduceEq, Int.reduceNeg, ← List.map_drop, ← List.map_take, UInt8.reduceToNat, true_implies, implies_true, List.append_eq, y_origin_Right]) (by simp -implicitDefEqProofs only [goW, goR, ↓upd_at, if_true, if_false, reduceCtorEq, ↓reduceIte, Nat.reduceEqDiff, Nat.reduceAdd, Nat.reduceSub, Nat.reduceMul, Nat.reduceBEq, Nat.reduceLT, Nat.reduceLeDiff, Int.reduceToNat, Int.reduceLE, Int.reduceLT, Int.reduceEq, Int.reduceNeg, ← List.map_drop, ← List.map_take, UInt8.reduceToNat, true_implies, implies_true, List.append_eq, y_origin_Right]) rfl
          · try simp -implicitDefEqProofs only [goR, ↓upd_at, if_true, if_false, reduceCtorEq, ↓reduceIte, Nat.reduceEqDiff, Nat.reduceAdd, Nat.reduceSub, Nat.reduceMul, Nat.reduceBEq, Nat.reduceLT, Nat.reduceLeDiff, Int.reduceToNat, Int.reduceLE, Int.reduceLT, Int.reduceEq, Int.reduceNeg, ← List.map_drop, ← List.map_take, UInt8.reduceToNat, true_implies, implies_true, List.append_eq, y_origin_Right] at hp6
            have hq6 := hp6
            try simp only [goT] at hq6
            refine w_region rfl (fun K hK => ?_)
            simp -implicitDefEqProofs only [goR, ↓upd_at, if_true, if_false, reduceCtorEq, ↓reduceIte, Nat.reduceEqDiff, Nat.reduceAdd, Nat.reduceSub, Nat.reduceMul, Nat.reduceBEq, Nat.reduceLT, Nat.reduceLeDiff, Int.reduceToNat, Int.reduceLE, Int.reduceLT, Int.reduceEq, Int.reduceNeg, ← List.map_drop, ← List.map_take, UInt8.reduceToNat, true_implies, implies_true, List.append_eq, y_origin_Right, hp5, hp6]
            (repeat' (first | ((with_reducible refine hK _ _ ?_); clear hK K) | (with_reducible apply And.intro) | (exact trivial) | (clear hK K; assumption) | (clear hK K; omega)))
            refine cut_at H ?_
            exact wk_ren ⟨[], []⟩ rfl rfl rfl rfl rfl (by simp -implicitDefEqProofs only [goW, goR, ↓upd_at, if_true, if_false, reduceCtorEq, ↓reduceIte, Nat.reduceEqDiff, Nat.reduceAdd, Nat.reduceSub, Nat.reduceMul, Nat.reduceBEq, Nat.reduceLT, Nat.reduceLeDiff, Int.reduceToNat, Int.reduceLE, Int.reduceLT, Int.reduceEq, Int.reduceNeg, ← List.map_drop, ← List.map_take, UInt8.reduceToNat, true_implies, implies_true, List.append_eq, y_origin_Right]) (by simp -implicitDefEqProofs only [goW, goR, ↓upd_at, if_true, if_false, reduceCtorEq, ↓reduceIte, Nat.reduceEqDiff, Nat.reduceAdd, Nat.reduceSub, Nat.reduceMul, Nat.reduceBEq, Nat.reduceLT, Nat.reduceLeDiff, Int.reduceToNat, Int.reduceLE, Int.reduceLT, Int.reduceEq, Int.reduceNeg, ← List.map_drop, ← List.map_take, UInt8.reduceToNat, true_implies, implies_true, List.append_eq, y_origin_Right]) (by simp -implicitDefEqProofs only [goW, goR, ↓upd_at, if_true, if_false, reduceCtorEq, ↓reduceIte, Nat.reduceEqDiff, Nat.reduceAdd, Nat.reduceSub, Nat.reduceMul, Nat.reduceBEq, Nat.reduceLT, Nat.reduceLeDiff, Int.reduceToNat, Int.reduceLE, Int.reduceLT, Int.reduceEq, Int.reduceNeg, ← List.map_drop, ← List.map_take, UInt8.reduceToNat, true_implies, implies_true, List.append_eq, y_origin_Right]) rfl
      · rintro x4 H
        rw [origin_Right_j4] at H
        refine w_ret ?_
        obtain rfl := Option.some.inj H
        simp -implicitDefEqProofs only [goQ, Try.results24, goR, ↓upd_at, if_true, if_false, reduceCtorEq, ↓reduceIte, Nat.reduceEqDiff, Nat.reduceAdd, Nat.reduceSub, Nat.reduceMul, Nat.reduceBEq, Nat.reduceLT, Nat.reduceLeDiff, Int.reduceToNat, Int.reduceLE, Int.reduceLT, Int.reduceEq, Int.reduceNeg, ← List.map_drop, ← List.map_take, UInt8.reduceToNat, true_implies, implies_true, List.append_eq, y_origin_Right]
theorem origin_Right_c (a0 : List Source) (a1 : Token) (r : Bool) (H : origin_Right a0 a1 = some r) : pf_origin_Right.pre [(dL 2 d_Source) a0, d_Token a1] = True ∧ pf_origin_Right.val [(dL 2 d_Source) a0, d_Token a1] = dB r :=
  ⟨PF.of_pre (enc := c_origin_Right) (f := fun a => origin_Right a.1 a.2) (e := e_origin_Right) (a := (a0, a1)) H, PF.of_val (enc := c_origin_Right) (f := fun a => origin_Right a.1 a.2) (e := e_origin_Right) (a := (a0, a1)) c_origin_Right_inj H⟩
theorem origin_Right_cl (l : List D) (a0 : List Source) (a1 : Token) (r : Bool) (hl : les1 l (c_origin_Right (a0, a1))) (H : origin_Right a0 a1 = some r) : pf_origin_Right.pre l = True ∧ pf_origin_Right.val l = dB r :=
  ⟨PF.of_prel (enc := c_origin_Right) (f := fun a => origin_Right a.1 a.2) (e := e_origin_Right) (a := (a0, a1)) hl H, PF.of_vall (enc := c_origin_Right) (f := fun a => origin_Right a.1 a.2) (e := e_origin_Right) (a := (a0, a1)) c_origin_Right_inj hl H⟩
noncomputable def preref7_Begins_j2 : Bool → Option Bool
  | x2 => some x2
noncomputable def preref7_Begins_j1 (a0 : List Source) (a1 : Call) : Bool → Option Bool
  | x1 => if x1 = true then some false else if (0 : Int) ≤ a1.File ∧ a1.File.toNat < a0.length then if (0 : Int) ≤ a1.At ∧ a1.At ≤ (((a0.getD a1.File.toNat default).Text).length : Int) ∧ (((a0.getD a1.File.toNat default).Text).length : Int) ≤ (((a0.getD a1.File.toNat default).Text).length : Int) then (preref1_Splice (List.drop a1.At.toNat ((a0.getD a1.File.toNat default).Text))).bind fun r1 => if (leI (a1.Name.length : Int) (r1.Text.length : Int)) = true then if (0 : Int) ≤ 0 ∧ 0 ≤ (a1.Name.length : Int) ∧ (a1.Name.length : Int) ≤ (r1.Text.length : Int) then preref7_Begins_j2 (eqS (List.take a1.Name.length r1.Text) a1.Name) else none else preref7_Begins_j2 false else none else none
noncomputable def preref7_Begins (a0 : List Source) (a1 : Call) : Option Bool :=
  if (ltI a1.File 0) = true then preref7_Begins_j1 a0 a1 true else if (leI (a0.length : Int) a1.File) = true then preref7_Begins_j1 a0 a1 true else if (ltI a1.At 0) = true then preref7_Begins_j1 a0 a1 true else if (0 : Int) ≤ a1.File ∧ a1.File.toNat < a0.length then if (ltI (((a0.getD a1.File.toNat default).Text).length : Int) a1.At) = true then preref7_Begins_j1 a0 a1 true else preref7_Begins_j1 a0 a1 (eqS a1.Name []) else none
def e_preref7_Begins : Bool → D := fun r => dB r
def c_preref7_Begins : (List Source) × Call → List D := fun a => [(dL 2 d_Source) a.1, d_Call a.2]
theorem c_preref7_Begins_inj : Inj c_preref7_Begins := by rintro ⟨a0, a1⟩ ⟨b0, b1⟩ h; simp only [c_preref7_Begins, List.map_cons, List.map_nil, List.cons.injEq, and_true] at h; obtain ⟨h0, h1⟩ := h; obtain rfl := (dL_inj (sz := 0) d_Source_inj _ _) h0; obtain rfl := (d_Call_sinj _ _) h1; rfl
noncomputable def pf_preref7_Begins : PF := PF.of c_preref7_Begins (fun a => preref7_Begins a.1 a.2) e_preref7_Begins
noncomputable def t_preref7_Begins : Tab := tabOf Try.prog [(16, pf_preref1_Splice)] []
theorem t_preref7_Begins_ok : TabOk t_preref7_Begins := tabOf_ok (by exact ⟨⟨call_16, preref1_Splice_ok⟩, trivial⟩) (by exact trivial)
theorem y_preref7_Begins : ((((((type_of% @Try.underlying9) ∧ (type_of% @tAgg_3)) ∧ ((type_of% @tAgg_79) ∧ ((type_of% @tAgg_9) ∧ (type_of% @tBytes_79)))) ∧ (((type_of% @tCS_3) ∧ (type_of% @tCS_79)) ∧ ((type_of% @tCS_9) ∧ ((type_of% @tElem_32) ∧ (type_of% @tFld_24_0))))) ∧ ((((type_of% @tFld_44_0) ∧ (type_of% @tFld_44_1)) ∧ ((type_of% @tFld_44_2) ∧ ((type_of% @tFld_79_1) ∧ (type_of% @tKnown_3)))) ∧ (((type_of% @tKnown_79) ∧ (type_of% @tKnown_9)) ∧ ((type_of% @tOff_24_0) ∧ ((type_of% @tOff_44_0) ∧ (type_of% @tOff_44_1)))))) ∧ (((((type_of% @tOff_44_2) ∧ (type_of% @tOff_79_1)) ∧ ((type_of% @tSize_3) ∧ ((type_of% @tSize_79) ∧ (type_of% @tSize_9)))) ∧ (((type_of% @tSlice_32) ∧ (type_of% @tStruct_24_0)) ∧ ((type_of% @tStruct_44_0) ∧ ((type_of% @tStruct_44_1) ∧ (type_of% @tStruct_44_2))))) ∧ ((((type_of% @tStruct_79_1) ∧ (type_of% @tZ_79)) ∧ ((type_of% @tZok_79) ∧ ((type_of% @d_Spliced.eq_1) ∧ (type_of% @d_Call.eq_1)))) ∧ (((type_of% @d_Token.eq_1) ∧ (type_of% @d_Source.eq_1)) ∧ ((type_of% @t_preref7_Begins.eq_1) ∧ ((type_of% @c_preref7_Begins.eq_1) ∧ (type_of% @e_preref7_Begins.eq_1))))))) := ⟨⟨⟨⟨⟨@Try.underlying9, @tAgg_3⟩, ⟨@tAgg_79, ⟨@tAgg_9, @tBytes_79⟩⟩⟩, ⟨⟨@tCS_3, @tCS_79⟩, ⟨@tCS_9, ⟨@tElem_32, @tFld_24_0⟩⟩⟩⟩, ⟨⟨⟨@tFld_44_0, @tFld_44_1⟩, ⟨@tFld_44_2, ⟨@tFld_79_1, @tKnown_3⟩⟩⟩, ⟨⟨@tKnown_79, @tKnown_9⟩, ⟨@tOff_24_0, ⟨@tOff_44_0, @tOff_44_1⟩⟩⟩⟩⟩, ⟨⟨⟨⟨@tOff_44_2, @tOff_79_1⟩, ⟨@tSize_3, ⟨@tSize_79, @tSize_9⟩⟩⟩, ⟨⟨@tSlice_32, @tStruct_24_0⟩, ⟨@tStruct_44_0, ⟨@tStruct_44_1, @tStruct_44_2⟩⟩⟩⟩, ⟨⟨⟨@tStruct_79_1, @tZ_79⟩, ⟨@tZok_79, ⟨@d_Spliced.eq_1, @d_Call.eq_1⟩⟩⟩, ⟨⟨@d_Token.eq_1, @d_Source.eq_1⟩, ⟨@t_preref7_Begins.eq_1, ⟨@c_preref7_Begins.eq_1, @e_preref7_Begins.eq_1⟩⟩⟩⟩⟩⟩
set_option maxRecDepth 100000 in
set_option maxHeartbeats 4000000 in
theorem preref7_Begins_ok : PureOk Try.prog 61 pf_preref7_Begins := by
  refine pure_of (t := t_preref7_Begins) (pure := fun n => [16].contains n) c_preref7_Begins_inj rfl t_preref7_Begins_ok mixed (fun n hn => tabOf_pure rfl n hn) Try.func61 rfl (by kernel_rfl) (fun a => by simp [c_preref7_Begins, Try.ntmps61]) ?_
  rintro ⟨a0, a1⟩ out H
  simp only [preref7_Begins] at H
  show aC _ _ (sig0 (List.map (fun d => AV.c (C.d d)) (c_preref7_Begins (a0, a1)))) _ _
  refine w_seq ?_
  refine w_region rfl (fun K hK => ?_)
  simp -implicitDefEqProofs only [goR, ↓upd_at, if_true, if_false, reduceCtorEq, ↓reduceIte, Nat.reduceEqDiff, Nat.reduceAdd, Nat.reduceSub, Nat.reduceMul, Nat.reduceBEq, Nat.reduceLT, Nat.reduceLeDiff, Int.reduceToNat, Int.reduceLE, Int.reduceLT, Int.reduceEq, Int.reduceNeg, ← List.map_drop, ← List.map_take, UInt8.reduceToNat, true_implies, implies_true, List.append_eq, y_preref7_Begins]
  (repeat' (first | ((with_reducible refine hK _ _ ?_); clear hK K) | (with_reducible apply And.intro) | (exact trivial) | (clear hK K; assumption) | (clear hK K; omega)))
  refine then_normal ?_
  refine w_seq ?_
  refine w_cut (preref7_Begins_j1 a0 a1) (fun s => [(0, .c (.d (.sl 2 (List.map d_Source a0)))), (3, .c (.pt 1 0)), (37, .c (.d (.v (.bool s))))]) (fun s => [[.d (.v (str a1.Name)), .d (.v (.int .i64 a1.File)), .d (.v (.int .i64 a1.At))]]) [] out ?_ ?_
  · rcases bsplit H with ⟨hp3, H⟩ | ⟨hp3, H⟩
    · try simp -implicitDefEqProofs only [goR, ↓upd_at, if_true, if_false, reduceCtorEq, ↓reduceIte, Nat.reduceEqDiff, Nat.reduceAdd, Nat.reduceSub, Nat.reduceMul, Nat.reduceBEq, Nat.reduceLT, Nat.reduceLeDiff, Int.reduceToNat, Int.reduceLE, Int.reduceLT, Int.reduceEq, Int.reduceNeg, ← List.map_drop, ← List.map_take, UInt8.reduceToNat, true_implies, implies_true, List.append_eq, y_preref7_Begins] at hp3
      have hq3 := hp3
      try simp only [goT] at hq3
      refine w_region rfl (fun K hK => ?_)
      simp -implicitDefEqProofs only [goR, ↓upd_at, if_true, if_false, reduceCtorEq, ↓reduceIte, Nat.reduceEqDiff, Nat.reduceAdd, Nat.reduceSub, Nat.reduceMul, Nat.reduceBEq, Nat.reduceLT, Nat.reduceLeDiff, Int.reduceToNat, Int.reduceLE, Int.reduceLT, Int.reduceEq, Int.reduceNeg, ← List.map_drop, ← List.map_take, UInt8.reduceToNat, true_implies, implies_true, List.append_eq, y_preref7_Begins, hp3]
      (repeat' (first | ((with_reducible refine hK _ _ ?_); clear hK K) | (with_reducible apply And.intro) | (exact trivial) | (clear hK K; assumption) | (clear hK K; omega)))
      refine cut_at H ?_
      exact wk_ren ⟨[1], []⟩ rfl rfl rfl rfl rfl (by simp -implicitDefEqProofs only [goW, goR, ↓upd_at, if_true, if_false, reduceCtorEq, ↓reduceIte, Nat.reduceEqDiff, Nat.reduceAdd, Nat.reduceSub, Nat.reduceMul, Nat.reduceBEq, Nat.reduceLT, Nat.reduceLeDiff, Int.reduceToNat, Int.reduceLE, Int.reduceLT, Int.reduceEq, Int.reduceNeg, ← List.map_drop, ← List.map_take, UInt8.reduceToNat, true_implies, implies_true, List.append_eq, y_preref7_Begins]) (by simp -implicitDefEqProofs only [goW, goR, ↓upd_at, if_true, if_false, reduceCtorEq, ↓reduceIte, Nat.reduceEqDiff, Nat.reduceAdd, Nat.reduceSub, Nat.reduceMul, Nat.reduceBEq, Nat.reduceLT, Nat.reduceLeDiff, Int.reduceToNat, Int.reduceLE, Int.reduceLT, Int.reduceEq, Int.reduceNeg, ← List.map_drop, ← List.map_take, UInt8.reduceToNat, true_implies, implies_true, List.append_eq, y_preref7_Begins]) (by simp -implicitDefEqProofs only [goW, goR, ↓upd_at, if_true, if_false, reduceCtorEq, ↓reduceIte, Nat.reduceEqDiff, Nat.reduceAdd, Nat.reduceSub, Nat.reduceMul, Nat.reduceBEq, Nat.reduceLT, Nat.reduceLeDiff, Int.reduceToNat, Int.reduceLE, Int.reduceLT, Int.reduceEq, Int.reduceNeg, ← List.map_drop, ← List.map_take, UInt8.reduceToNat, true_implies, implies_true, List.append_eq, y_preref7_Begins]) rfl
    · try simp -implicitDefEqProofs only [goR, ↓upd_at, if_true, if_false, reduceCtorEq, ↓reduceIte, Nat.reduceEqDiff, Nat.reduceAdd, Nat.reduceSub, Nat.reduceMul, Nat.reduceBEq, Nat.reduceLT, Nat.reduceLeDiff, Int.reduceToNat, Int.reduceLE, Int.reduceLT, Int.reduceEq, Int.reduceNeg, ← List.map_drop, ← List.map_take, UInt8.reduceToNat, true_implies, implies_true, List.append_eq, y_preref7_Begins] at hp3
      have hq3 := hp3
      try simp only [goT] at hq3
      rcases bsplit H with ⟨hp4, H⟩ | ⟨hp4, H⟩
      · try simp -implicitDefEqProofs only [goR, ↓upd_at, if_true, if_false, reduceCtorEq, ↓reduceIte, Nat.reduceEqDiff, Nat.reduceAdd, Nat.reduceSub, Nat.reduceMul, Nat.reduceBEq, Nat.reduceLT, Nat.reduceLeDiff, Int.reduceToNat, Int.reduceLE, Int.reduceLT, Int.reduceEq, Int.reduceNeg, ← List.map_drop, ← List.map_take, UInt8.reduceToNat, true_implies, implies_true, List.append_eq, y_preref7_Begins] at hp4
        have hq4 := hp4
        try simp only [goT] at hq4
        refine w_region rfl (fun K hK => ?_)
        simp -implicitDefEqProofs only [goR, ↓upd_at, if_true, if_false, reduceCtorEq, ↓reduceIte, Nat.reduceEqDiff, Nat.reduceAdd, Nat.reduceSub, Nat.reduceMul, Nat.reduceBEq, Nat.reduceLT, Nat.reduceLeDiff, Int.reduceToNat, Int.reduceLE, Int.reduceLT, Int.reduceEq, Int.reduceNeg, ← List.map_drop, ← List.map_take, UInt8.reduceToNat, true_implies, implies_true, List.append_eq, y_preref7_Begins, hp3, hp4]
        (repeat' (first | ((with_reducible refine hK _ _ ?_); clear hK K) | (with_reducible apply And.intro) | (exact trivial) | (clear hK K; assumption) | (clear hK K; omega)))
        refine cut_at H ?_
        exact wk_ren ⟨[1], []⟩ rfl rfl rfl rfl rfl (by simp -implicitDefEqProofs only [goW, goR, ↓upd_at, if_true, if_false, reduceCtorEq, ↓reduceIte, Nat.reduceEqDiff, Nat.reduceAdd, Nat.reduceSub, Nat.reduceMul, Nat.reduceBEq, Nat.reduceLT, Nat.reduceLeDiff, Int.reduceToNat, Int.reduceLE, Int.reduceLT, Int.reduceEq, Int.reduceNeg, ← List.map_drop, ← List.map_take, UInt8.reduceToNat, true_implies, implies_true, List.append_eq, y_preref7_Begins]) (by simp -implicitDefEqProofs only [goW, goR, ↓upd_at, if_true, if_false, reduceCtorEq, ↓reduceIte, Nat.reduceEqDiff, Nat.reduceAdd, Nat.reduceSub, Nat.reduceMul, Nat.reduceBEq, Nat.reduceLT, Nat.reduceLeDiff, Int.reduceToNat, Int.reduceLE, Int.reduceLT, Int.reduceEq, Int.reduceNeg, ← List.map_drop, ← List.map_take, UInt8.reduceToNat, true_implies, implies_true, List.append_eq, y_preref7_Begins]) (by simp -implicitDefEqProofs only [goW, goR, ↓upd_at, if_true, if_false, reduceCtorEq, ↓reduceIte, Nat.reduceEqDiff, Nat.reduceAdd, Nat.reduceSub, Nat.reduceMul, Nat.reduceBEq, Nat.reduceLT, Nat.reduceLeDiff, Int.reduceToNat, Int.reduceLE, Int.reduceLT, Int.reduceEq, Int.reduceNeg, ← List.map_drop, ← List.map_take, UInt8.reduceToNat, true_implies, implies_true, List.append_eq, y_preref7_Begins]) rfl
      · try simp -implicitDefEqProofs only [goR, ↓upd_at, if_true, if_false, reduceCtorEq, ↓reduceIte, Nat.reduceEqDiff, Nat.reduceAdd, Nat.reduceSub, Nat.reduceMul, Nat.reduceBEq, Nat.reduceLT, Nat.reduceLeDiff, Int.reduceToNat, Int.reduceLE, Int.reduceLT, Int.reduceEq, Int.reduceNeg, ← List.map_drop, ← List.map_take, UInt8.reduceToNat, true_implies, implies_true, List.append_eq, y_preref7_Begins] at hp4
        have hq4 := hp4
        try simp only [goT] at hq4
        rcases bsplit H with ⟨hp5, H⟩ | ⟨hp5, H⟩
        · try simp -implicitDefEqProofs only [goR, ↓upd_at, if_true, if_false, reduceCtorEq, ↓reduceIte, Nat.reduceEqDiff, Nat.reduceAdd, Nat.reduceSub, Nat.reduceMul, Nat.reduceBEq, Nat.reduceLT, Nat.reduceLeDiff, Int.reduceToNat, Int.reduceLE, Int.reduceLT, Int.reduceEq, Int.reduceNeg, ← List.map_drop, ← List.map_take, UInt8.reduceToNat, true_implies, implies_true, List.append_eq, y_preref7_Begins] at hp5
          have hq5 := hp5
          try simp only [goT] at hq5
          refine w_region rfl (fun K hK => ?_)
          simp -implicitDefEqProofs only [goR, ↓upd_at, if_true, if_false, reduceCtorEq, ↓reduceIte, Nat.reduceEqDiff, Nat.reduceAdd, Nat.reduceSub, Nat.reduceMul, Nat.reduceBEq, Nat.reduceLT, Nat.reduceLeDiff, Int.reduceToNat, Int.reduceLE, Int.reduceLT, Int.reduceEq, Int.reduceNeg, ← List.map_drop, ← List.map_take, UInt8.reduceToNat, true_implies, implies_true, List.append_eq, y_preref7_Begins, hp3, hp4, hp5]
          (repeat' (first | ((with_reducible refine hK _ _ ?_); clear hK K) | (with_reducible apply And.intro) | (exact trivial) | (clear hK K; assumption) | (clear hK K; omega)))
          refine cut_at H ?_
          exact wk_ren ⟨[1], []⟩ rfl rfl rfl rfl rfl (by simp -implicitDefEqProofs only [goW, goR, ↓upd_at, if_true, if_false, reduceCtorEq, ↓reduceIte, Nat.reduceEqDiff, Nat.reduceAdd, Nat.reduceSub, Nat.reduceMul, Nat.reduceBEq, Nat.reduceLT, Nat.reduceLeDiff, Int.reduceToNat, Int.reduceLE, Int.reduceLT, Int.reduceEq, Int.reduceNeg, ← List.map_drop, ← List.map_take, UInt8.reduceToNat, true_implies, implies_true, List.append_eq, y_preref7_Begins]) (by simp -implicitDefEqProofs only [goW, goR, ↓upd_at, if_true, if_false, reduceCtorEq, ↓reduceIte, Nat.reduceEqDiff, Nat.reduceAdd, Nat.reduceSub, Nat.reduceMul, Nat.reduceBEq, Nat.reduceLT, Nat.reduceLeDiff, Int.reduceToNat, Int.reduceLE, Int.reduceLT, Int.reduceEq, Int.reduceNeg, ← List.map_drop, ← List.map_take, UInt8.reduceToNat, true_implies, implies_true, List.append_eq, y_preref7_Begins]) (by simp -implicitDefEqProofs only [goW, goR, ↓upd_at, if_true, if_false, reduceCtorEq, ↓reduceIte, Nat.reduceEqDiff, Nat.reduceAdd, Nat.reduceSub, Nat.reduceMul, Nat.reduceBEq, Nat.reduceLT, Nat.reduceLeDiff, Int.reduceToNat, Int.reduceLE, Int.reduceLT, Int.reduceEq, Int.reduceNeg, ← List.map_drop, ← List.map_take, UInt8.reduceToNat, true_implies, implies_true, List.append_eq, y_preref7_Begins]) rfl
        · try simp -implicitDefEqProofs only [goR, ↓upd_at, if_true, if_false, reduceCtorEq, ↓reduceIte, Nat.reduceEqDiff, Nat.reduceAdd, Nat.reduceSub, Nat.reduceMul, Nat.reduceBEq, Nat.reduceLT, Nat.reduceLeDiff, Int.reduceToNat, Int.reduceLE, Int.reduceLT, Int.reduceEq, Int.reduceNeg, ← List.map_drop, ← List.map_take, UInt8.reduceToNat, true_implies, implies_true, List.append_eq, y_preref7_Begins] at hp5
          have hq5 := hp5
          try simp only [goT] at hq5
          obtain ⟨hg4, H⟩ := gsplit H
          have g2 := map_getD d_Source a0 a1.File.toNat default default (by omega)
          rcases bsplit H with ⟨hp6, H⟩ | ⟨hp6, H⟩
          · try simp -implicitDefEqProofs only [goR, ↓upd_at, if_true, if_false, reduceCtorEq, ↓reduceIte, Nat.reduceEqDiff, Nat.reduceAdd, Nat.reduceSub, Nat.reduceMul, Nat.reduceBEq, Nat.reduceLT, Nat.reduceLeDiff, Int.reduceToNat, Int.reduceLE, Int.reduceLT, Int.reduceEq, Int.reduceNeg, ← List.map_drop, ← List.map_take, UInt8.reduceToNat, true_implies, implies_true, List.append_eq, y_preref7_Begins] at hp6
            have hq6 := hp6
            try simp only [goT] at hq6
            refine w_region rfl (fun K hK => ?_)
            simp -implicitDefEqProofs only [goR, ↓upd_at, if_true, if_false, reduceCtorEq, ↓reduceIte, Nat.reduceEqDiff, Nat.reduceAdd, Nat.reduceSub, Nat.reduceMul, Nat.reduceBEq, Nat.reduceLT, Nat.reduceLeDiff, Int.reduceToNat, Int.reduceLE, Int.reduceLT, Int.reduceEq, Int.reduceNeg, ← List.map_drop, ← List.map_take, UInt8.reduceToNat, true_implies, implies_true, List.append_eq, y_preref7_Begins, hp3, hp4, hp5, g2, hp6]
            (repeat' (first | ((with_reducible refine hK _ _ ?_); clear hK K) | (with_reducible apply And.intro) | (exact trivial) | (clear hK K; assumption) | (clear hK K; omega)))
            refine cut_at H ?_
            exact wk_ren ⟨[1], []⟩ rfl rfl rfl rfl rfl (by simp -implicitDefEqProofs only [goW, goR, ↓upd_at, if_true, if_false, reduceCtorEq, ↓reduceIte, Nat.reduceEqDiff, Nat.reduceAdd, Nat.reduceSub, Nat.reduceMul, Nat.reduceBEq, Nat.reduceLT, Nat.reduceLeDiff, Int.reduceToNat, Int.reduceLE, Int.reduceLT, Int.reduceEq, Int.reduceNeg, ← List.map_drop, ← List.map_take, UInt8.reduceToNat, true_implies, implies_true, List.append_eq, y_preref7_Begins]) (by simp -implicitDefEqProofs only [goW, goR, ↓upd_at, if_true, if_false, reduceCtorEq, ↓reduceIte, Nat.reduceEqDiff, Nat.reduceAdd, Nat.reduceSub, Nat.reduceMul, Nat.reduceBEq, Nat.reduceLT, Nat.reduceLeDiff, Int.reduceToNat, Int.reduceLE, Int.reduceLT, Int.reduceEq, Int.reduceNeg, ← List.map_drop, ← List.map_take, UInt8.reduceToNat, true_implies, implies_true, List.append_eq, y_preref7_Begins]) (by simp -implicitDefEqProofs only [goW, goR, ↓upd_at, if_true, if_false, reduceCtorEq, ↓reduceIte, Nat.reduceEqDiff, Nat.reduceAdd, Nat.reduceSub, Nat.reduceMul, Nat.reduceBEq, Nat.reduceLT, Nat.reduceLeDiff, Int.reduceToNat, Int.reduceLE, Int.reduceLT, Int.reduceEq, Int.reduceNeg, ← List.map_drop, ← List.map_take, UInt8.reduceToNat, true_implies, implies_true, List.append_eq, y_preref7_Begins]) rfl
          · try simp -implicitDefEqProofs only [goR, ↓upd_at, if_true, if_false, reduceCtorEq, ↓reduceIte, Nat.reduceEqDiff, Nat.reduceAdd, Nat.reduceSub, Nat.reduceMul, Nat.reduceBEq, Nat.reduceLT, Nat.reduceLeDiff, Int.reduceToNat, Int.reduceLE, Int.reduceLT, Int.reduceEq, Int.reduceNeg, ← List.map_drop, ← List.map_take, UInt8.reduceToNat, true_implies, implies_true, List.append_eq, y_preref7_Begins] at hp6
            have hq6 := hp6
            try simp only [goT] at hq6
            refine w_region rfl (fun K hK => ?_)
            simp -implicitDefEqProofs only [goR, ↓upd_at, if_true, if_false, reduceCtorEq, ↓reduceIte, Nat.reduceEqDiff, Nat.reduceAdd, Nat.reduceSub, Nat.reduceMul, Nat.reduceBEq, Nat.reduceLT, Nat.reduceLeDiff, Int.reduceToNat, Int.reduceLE, Int.reduceLT, Int.reduceEq, Int.reduceNeg, ← List.map_drop, ← List.map_take, UInt8.reduceToNat, true_implies, implies_true, List.append_eq, y_preref7_Begins, hp3, hp4, hp5, g2, hp6]
            (repeat' (first | ((with_reducible refine hK _ _ ?_); clear hK K) | (with_reducible apply And.intro) | (exact trivial) | (clear hK K; assumption) | (clear hK K; omega)))
            refine cut_at H ?_
            exact wk_ren ⟨[1], []⟩ rfl rfl rfl rfl rfl (by simp -implicitDefEqProofs only [goW, goR, ↓upd_at, if_true, if_false, reduceCtorEq, ↓reduceIte, Nat.reduceEqDiff, Nat.reduceAdd, Nat.reduceSub, Nat.reduceMul, Nat.reduceBEq, Nat.reduceLT, Nat.reduceLeDiff, Int.reduceToNat, Int.reduceLE, Int.reduceLT, Int.reduceEq, Int.reduceNeg, ← List.map_drop, ← List.map_take, UInt8.reduceToNat, true_implies, implies_true, List.append_eq, y_preref7_Begins]) (by simp -implicitDefEqProofs only [goW, goR, ↓upd_at, if_true, if_false, reduceCtorEq, ↓reduceIte, Nat.reduceEqDiff, Nat.reduceAdd, Nat.reduceSub, Nat.reduceMul, Nat.reduceBEq, Nat.reduceLT, Nat.reduceLeDiff, Int.reduceToNat, Int.reduceLE, Int.reduceLT, Int.reduceEq, Int.reduceNeg, ← List.map_drop, ← List.map_take, UInt8.reduceToNat, true_implies, implies_true, List.append_eq, y_preref7_Begins]) (by simp -implicitDefEqProofs only [goW, goR, ↓upd_at, if_true, if_false, reduceCtorEq, ↓reduceIte, Nat.reduceEqDiff, Nat.reduceAdd, Nat.reduceSub, Nat.reduceMul, Nat.reduceBEq, Nat.reduceLT, Nat.reduceLeDiff, Int.reduceToNat, Int.reduceLE, Int.reduceLT, Int.reduceEq, Int.reduceNeg, ← List.map_drop, ← List.map_take, UInt8.reduceToNat, true_implies, implies_true, List.append_eq, y_preref7_Begins]) rfl
  · rintro x1 H
    rw [preref7_Begins_j1] at H
    rcases bsplit H with ⟨hp1, H⟩ | ⟨hp1, H⟩
    · try simp -implicitDefEqProofs only [goR, ↓upd_at, if_true, if_false, reduceCtorEq, ↓reduceIte, Nat.reduceEqDiff, Nat.reduceAdd, Nat.reduceSub, Nat.reduceMul, Nat.reduceBEq, Nat.reduceLT, Nat.reduceLeDiff, Int.reduceToNat, Int.reduceLE, Int.reduceLT, Int.reduceEq, Int.reduceNeg, ← List.map_drop, ← List.map_take, UInt8.reduceToNat, true_implies, implies_true, List.append_eq, y_preref7_Begins] at hp1
      have hq1 := hp1
      try simp only [goT] at hq1
      refine w_condT (by simp -implicitDefEqProofs only [goR, ↓upd_at, if_true, if_false, reduceCtorEq, ↓reduceIte, Nat.reduceEqDiff, Nat.reduceAdd, Nat.reduceSub, Nat.reduceMul, Nat.reduceBEq, Nat.reduceLT, Nat.reduceLeDiff, Int.reduceToNat, Int.reduceLE, Int.reduceLT, Int.reduceEq, Int.reduceNeg, ← List.map_drop, ← List.map_take, UInt8.reduceToNat, true_implies, implies_true, List.append_eq, y_preref7_Begins, hp1]) ?_
      refine w_seq ?_
      refine w_region rfl (fun K hK => ?_)
      simp -implicitDefEqProofs only [goR, ↓upd_at, if_true, if_false, reduceCtorEq, ↓reduceIte, Nat.reduceEqDiff, Nat.reduceAdd, Nat.reduceSub, Nat.reduceMul, Nat.reduceBEq, Nat.reduceLT, Nat.reduceLeDiff, Int.reduceToNat, Int.reduceLE, Int.reduceLT, Int.reduceEq, Int.reduceNeg, ← List.map_drop, ← List.map_take, UInt8.reduceToNat, true_implies, implies_true, List.append_eq, y_preref7_Begins]
      (repeat' (first | ((with_reducible refine hK _ _ ?_); clear hK K) | (with_reducible apply And.intro) | (exact trivial) | (clear hK K; assumption) | (clear hK K; omega)))
      refine then_normal ?_
      refine w_ret ?_
      refine then_ret ?_
      obtain rfl := Option.some.inj H
      simp -implicitDefEqProofs only [goQ, Try.results61, goR, ↓upd_at, if_true, if_false, reduceCtorEq, ↓reduceIte, Nat.reduceEqDiff, Nat.reduceAdd, Nat.reduceSub, Nat.reduceMul, Nat.reduceBEq, Nat.reduceLT, Nat.reduceLeDiff, Int.reduceToNat, Int.reduceLE, Int.reduceLT, Int.reduceEq, Int.reduceNeg, ← List.map_drop, ← List.map_take, UInt8.reduceToNat, true_implies, implies_true, List.append_eq, y_preref7_Begins]
    · try simp -implicitDefEqProofs only [goR, ↓upd_at, if_true, if_false, reduceCtorEq, ↓reduceIte, Nat.reduceEqDiff, Nat.reduceAdd, Nat.reduceSub, Nat.reduceMul, Nat.reduceBEq, Nat.reduceLT, Nat.reduceLeDiff, Int.reduceToNat, Int.reduceLE, Int.reduceLT, Int.reduceEq, Int.reduceNeg, ← List.map_drop, ← List.map_take, UInt8.reduceToNat, true_implies, implies_true, List.append_eq, y_preref7_Begins] at hp1
      have hq1 := hp1
      try simp only [goT] at hq1
      refine w_condF (by simp -implicitDefEqProofs only [goR, ↓upd_at, if_true, if_false, reduceCtorEq, ↓reduceIte, Nat.reduceEqDiff, Nat.reduceAdd, Nat.reduceSub, Nat.reduceMul, Nat.reduceBEq, Nat.reduceLT, Nat.reduceLeDiff, Int.reduceToNat, Int.reduceLE, Int.reduceLT, Int.reduceEq, Int.reduceNeg, ← List.map_drop, ← List.map_take, UInt8.reduceToNat, true_implies, implies_true, List.append_eq, y_preref7_Begins, hp1]) ?_
      refine w_skip ?_
      refine then_normal ?_
      refine w_seq ?_
      obtain ⟨hg1, H⟩ := gsplit H
      have g1 := map_getD d_Source a0 a1.File.toNat default default (by omega)
      obtain ⟨hg2, H⟩ := gsplit H
      obtain ⟨r1, hr1, H⟩ := osplit H
      have hc1 := preref1_Splice_c (List.drop a1.At.toNat ((a0.getD a1.File.toNat default).Text)) r1 hr1
      simp -implicitDefEqProofs only [goR, ↓upd_at, if_true, if_false, reduceCtorEq, ↓reduceIte, Nat.reduceEqDiff, Nat.reduceAdd, Nat.reduceSub, Nat.reduceMul, Nat.reduceBEq, Nat.reduceLT, Nat.reduceLeDiff, Int.reduceToNat, Int.reduceLE, Int.reduceLT, Int.reduceEq, Int.reduceNeg, ← List.map_drop, ← List.map_take, UInt8.reduceToNat, true_implies, implies_true, List.append_eq, y_preref7_Begins] at hc1
      refine w_region rfl (fun K hK => ?_)
      simp -implicitDefEqProofs only [goR, ↓upd_at, if_true, if_false, reduceCtorEq, ↓reduceIte, Nat.reduceEqDiff, Nat.reduceAdd, Nat.reduceSub, Nat.reduceMul, Nat.reduceBEq, Nat.reduceLT, Nat.reduceLeDiff, Int.reduceToNat, Int.reduceLE, Int.reduceLT, Int.reduceEq, Int.reduceNeg, ← List.map_drop, ← List.map_take, UInt8.reduceToNat, true_implies, implies_true, List.append_eq, y_preref7_Begins, g1, hc1.1, hc1.2]
      (repeat' (first | ((with_reducible refine hK _ _ ?_); clear hK K) | (with_reducible apply And.intro) | (exact trivial) | (clear hK K; assumption) | (clear hK K; omega)))
      refine then_normal ?_
      refine w_cut preref7_Begins_j2 (fun s => [(4, .c (.d (.v (.bool s))))]) (fun s => []) [] out ?_ ?_
      · rcases bsplit H with ⟨hp2, H⟩ | ⟨hp2, H⟩
        · try simp -implicitDefEqProofs only [goR, ↓upd_at, if_true, if_false, reduceCtorEq, ↓reduceIte, Nat.reduceEqDiff, Nat.reduceAdd, Nat.reduceSub, Nat.reduceMul, Nat.reduceBEq, Nat.reduceLT, Nat.reduceLeDiff, Int.reduceToNat, Int.reduceLE, Int.reduceLT, Int.reduceEq, Int.reduceNeg, ← List.map_drop, ← List.map_take, UInt8.reduceToNat, true_implies, implies_true, List.append_eq, y_preref7_Begins] at hp2
          have hq2 := hp2
          try simp only [goT] at hq2
          obtain ⟨hg3, H⟩ := gsplit H
          refine w_region rfl (fun K hK => ?_)
          simp -implicitDefEqProofs only [goR, ↓upd_at, if_true, if_false, reduceCtorEq, ↓reduceIte, Nat.reduceEqDiff, Nat.reduceAdd, Nat.reduceSub, Nat.reduceMul, Nat.reduceBEq, Nat.reduceLT, Nat.reduceLeDiff, Int.reduceToNat, Int.reduceLE, Int.reduceLT, Int.reduceEq, Int.reduceNeg, ← List.map_drop, ← List.map_take, UInt8.reduceToNat, true_implies, implies_true, List.append_eq, y_preref7_Begins, hp2]
          (repeat' (first | ((with_reducible refine hK _ _ ?_); clear hK K) | (with_reducible apply And.intro) | (exact trivial) | (clear hK K; assumption) | (clear hK K; omega)))
          refine cut_at H ?_
          exact wk_ren ⟨[], []⟩ rfl rfl rfl rfl rfl (by simp -implicitDefEqProofs only [goW, goR, ↓upd_at, if_true, if_false, reduceCtorEq, ↓reduceIte, Nat.reduceEqDiff, Nat.reduceAdd, Nat.reduceSub, Nat.reduceMul, Nat.reduceBEq, Nat.reduceLT, Nat.reduceLeDiff, Int.reduceToNat, Int.reduceLE, Int.reduceLT, Int.reduceEq, Int.reduceNeg, ← List.map_drop, ← List.map_take, UInt8.reduceToNat, true_implies, implies_true, List.append_eq, y_preref7_Begins]) (by simp -implicitDefEqProofs only [goW, goR, ↓upd_at, if_true, if_false, reduceCtorEq, ↓reduceIte, Nat.reduceEqDiff, Nat.reduceAdd, Nat.reduceSub, Nat.reduceMul, Nat.reduceBEq, Nat.reduceLT, Nat.reduceLeDiff, Int.reduceToNat, Int.reduceLE, Int.reduceLT, Int.reduceEq, Int.reduceNeg, ← List.map_drop, ← List.map_take, UInt8.reduceToNat, true_implies, implies_true, List.append_eq, y_preref7_Begins]) (by simp -implicitDefEqProofs only [goW, goR, ↓upd_at, if_true, if_false, reduceCtorEq, ↓reduceIte, Nat.reduceEqDiff, Nat.reduceAdd, Nat.reduceSub, Nat.reduceMul, Nat.reduceBEq, Nat.reduceLT, Nat.reduceLeDiff, Int.reduceToNat, Int.reduceLE, Int.reduceLT, Int.reduceEq, Int.reduceNeg, ← List.map_drop, ← List.map_take, UInt8.reduceToNat, true_implies, implies_true, List.append_eq, y_preref7_Begins]) rfl
        · try simp -implicitDefEqProofs only [goR, ↓upd_at, if_true, if_false, reduceCtorEq, ↓reduceIte, Nat.reduceEqDiff, Nat.reduceAdd, Nat.reduceSub, Nat.reduceMul, Nat.reduceBEq, Nat.reduceLT, Nat.reduceLeDiff, Int.reduceToNat, Int.reduceLE, Int.reduceLT, Int.reduceEq, Int.reduceNeg, ← List.map_drop, ← List.map_take, UInt8.reduceToNat, true_implies, implies_true, List.append_eq, y_preref7_Begins] at hp2
          have hq2 := hp2
          try simp only [goT] at hq2
          refine w_region rfl (fun K hK => ?_)
          simp -implicitDefEqProofs only [goR, ↓upd_at, if_true, if_false, reduceCtorEq, ↓reduceIte, Nat.reduceEqDiff, Nat.reduceAdd, Nat.reduceSub, Nat.reduceMul, Nat.reduceBEq, Nat.reduceLT, Nat.reduceLeDiff, Int.reduceToNat, Int.reduceLE, Int.reduceLT, Int.reduceEq, Int.reduceNeg, ← List.map_drop, ← List.map_take, UInt8.reduceToNat, true_implies, implies_true, List.append_eq, y_preref7_Begins, hp2]
          (repeat' (first | ((with_reducible refine hK _ _ ?_); clear hK K) | (with_reducible apply And.intro) | (exact trivial) | (clear hK K; assumption) | (clear hK K; omega)))
          refine cut_at H ?_
          exact wk_ren ⟨[], []⟩ rfl rfl rfl rfl rfl (by simp -implicitDefEqProofs only [goW, goR, ↓upd_at, if_true, if_false, reduceCtorEq, ↓reduceIte, Nat.reduceEqDiff, Nat.reduceAdd, Nat.reduceSub, Nat.reduceMul, Nat.reduceBEq, Nat.reduceLT, Nat.reduceLeDiff, Int.reduceToNat, Int.reduceLE, Int.reduceLT, Int.reduceEq, Int.reduceNeg, ← List.map_drop, ← List.map_take, UInt8.reduceToNat, true_implies, implies_true, List.append_eq, y_preref7_Begins]) (by simp -implicitDefEqProofs only [goW, goR, ↓upd_at, if_true, if_false, reduceCtorEq, ↓reduceIte, Nat.reduceEqDiff, Nat.reduceAdd, Nat.reduceSub, Nat.reduceMul, Nat.reduceBEq, Nat.reduceLT, Nat.reduceLeDiff, Int.reduceToNat, Int.reduceLE, Int.reduceLT, Int.reduceEq, Int.reduceNeg, ← List.map_drop, ← List.map_take, UInt8.reduceToNat, true_implies, implies_true, List.append_eq, y_preref7_Begins]) (by simp -implicitDefEqProofs only [goW, goR, ↓upd_at, if_true, if_false, reduceCtorEq, ↓reduceIte, Nat.reduceEqDiff, Nat.reduceAdd, Nat.reduceSub, Nat.reduceMul, Nat.reduceBEq, Nat.reduceLT, Nat.reduceLeDiff, Int.reduceToNat, Int.reduceLE, Int.reduceLT, Int.reduceEq, Int.reduceNeg, ← List.map_drop, ← List.map_take, UInt8.reduceToNat, true_implies, implies_true, List.append_eq, y_preref7_Begins]) rfl
      · rintro x2 H
        rw [preref7_Begins_j2] at H
        refine w_ret ?_
        obtain rfl := Option.some.inj H
        simp -implicitDefEqProofs only [goQ, Try.results61, goR, ↓upd_at, if_true, if_false, reduceCtorEq, ↓reduceIte, Nat.reduceEqDiff, Nat.reduceAdd, Nat.reduceSub, Nat.reduceMul, Nat.reduceBEq, Nat.reduceLT, Nat.reduceLeDiff, Int.reduceToNat, Int.reduceLE, Int.reduceLT, Int.reduceEq, Int.reduceNeg, ← List.map_drop, ← List.map_take, UInt8.reduceToNat, true_implies, implies_true, List.append_eq, y_preref7_Begins]
theorem preref7_Begins_c (a0 : List Source) (a1 : Call) (r : Bool) (H : preref7_Begins a0 a1 = some r) : pf_preref7_Begins.pre [(dL 2 d_Source) a0, d_Call a1] = True ∧ pf_preref7_Begins.val [(dL 2 d_Source) a0, d_Call a1] = dB r :=
  ⟨PF.of_pre (enc := c_preref7_Begins) (f := fun a => preref7_Begins a.1 a.2) (e := e_preref7_Begins) (a := (a0, a1)) H, PF.of_val (enc := c_preref7_Begins) (f := fun a => preref7_Begins a.1 a.2) (e := e_preref7_Begins) (a := (a0, a1)) c_preref7_Begins_inj H⟩
theorem preref7_Begins_cl (l : List D) (a0 : List Source) (a1 : Call) (r : Bool) (hl : les1 l (c_preref7_Begins (a0, a1))) (H : preref7_Begins a0 a1 = some r) : pf_preref7_Begins.pre l = True ∧ pf_preref7_Begins.val l = dB r :=
  ⟨PF.of_prel (enc := c_preref7_Begins) (f := fun a => preref7_Begins a.1 a.2) (e := e_preref7_Begins) (a := (a0, a1)) hl H, PF.of_vall (enc := c_preref7_Begins) (f := fun a => preref7_Begins a.1 a.2) (e := e_preref7_Begins) (a := (a0, a1)) c_preref7_Begins_inj hl H⟩
noncomputable def preref7_Right_j2 (x1 : Int) (x2 : Int) : Bool → Option ((Int × Int) ⊕ Bool)
  | x3 => if x3 = true then inrO (some false) else some (.inl (x1, IntKind.i64.wrap (x2 + 1)))
noncomputable def preref7_Right_j3 : Bool → Option Bool
  | x4 => some x4
noncomputable def preref7_Right_b1 (a0 : List Source) (a1 : Token) : (Int × Int) → Option ((Int × Int) ⊕ Bool)
  | (x1, x2) => if (ltI x2 x1) = true then if (0 : Int) ≤ x2 ∧ x2.toNat < a1.Calls.length then if (!eqI ((a1.Calls.getD x2.toNat default).File) (-1)) = true then (preref7_Begins a0 (a1.Calls.getD x2.toNat default)).bind fun r1 => preref7_Right_j2 x1 x2 (!r1) else preref7_Right_j2 x1 x2 false else none else inrO ((preref7_Span a0 a1).bind fun r2 => if (!eqI a1.Made 0) = true then preref7_Right_j3 true else if r2.2 = true then preref7_Right_j3 (eqS r2.1 a1.Text) else preref7_Right_j3 false)
noncomputable def preref7_Right (a0 : List Source) (a1 : Token) : Option Bool :=
  loopO (preref7_Right_b1 a0 a1) ((a1.Calls.length : Int), 0)
def e_preref7_Right : Bool → D := fun r => dB r
def c_preref7_Right : (List Source) × Token → List D := fun a => [(dL 2 d_Source) a.1, d_Token a.2]
theorem c_preref7_Right_inj : Inj c_preref7_Right := by rintro ⟨a0, a1⟩ ⟨b0, b1⟩ h; simp only [c_preref7_Right, List.map_cons, List.map_nil, List.cons.injEq, and_true] at h; obtain ⟨h0, h1⟩ := h; obtain rfl := (dL_inj (sz := 0) d_Source_inj _ _) h0; obtain rfl := (d_Token_sinj _ _) h1; rfl
noncomputable def pf_preref7_Right : PF := PF.of c_preref7_Right (fun a => preref7_Right a.1 a.2) e_preref7_Right
noncomputable def t_preref7_Right : Tab := tabOf Try.prog [(61, pf_preref7_Begins), (23, pf_preref7_Span)] []
theorem t_preref7_Right_ok : TabOk t_preref7_Right := tabOf_ok (by exact ⟨⟨call_61, preref7_Begins_ok⟩, ⟨call_23, preref7_Span_ok⟩, trivial⟩) (by exact trivial)
theorem y_preref7_Right : ((((((type_of% @tAgg_3) ∧ (type_of% @tAgg_35)) ∧ ((type_of% @tAgg_37) ∧ ((type_of% @tAgg_44) ∧ (type_of% @tAgg_9)))) ∧ (((type_of% @tBytes_44) ∧ ((type_of% @tCS_3) ∧ (type_of% @tCS_35))) ∧ ((type_of% @tCS_37) ∧ ((type_of% @tCS_44) ∧ (type_of% @tCS_9))))) ∧ ((((type_of% @tElem_35) ∧ (type_of% @tFld_37_1)) ∧ ((type_of% @tFld_37_10) ∧ ((type_of% @tFld_37_9) ∧ (type_of% @tFld_44_1)))) ∧ (((type_of% @tKnown_3) ∧ ((type_of% @tKnown_35) ∧ (type_of% @tKnown_37))) ∧ ((type_of% @tKnown_44) ∧ ((type_of% @tKnown_9) ∧ (type_of% @tOff_37_1)))))) ∧ (((((type_of% @tOff_37_10) ∧ (type_of% @tOff_37_9)) ∧ ((type_of% @tOff_44_1) ∧ ((type_of% @tSize_3) ∧ (type_of% @tSize_35)))) ∧ (((type_of% @tSize_37) ∧ ((type_of% @tSize_44) ∧ (type_of% @tSize_9))) ∧ ((type_of% @tSlice_35) ∧ ((type_of% @tStruct_37_1) ∧ (type_of% @tStruct_37_10))))) ∧ ((((type_of% @tStruct_37_9) ∧ (type_of% @tStruct_44_1)) ∧ ((type_of% @tZ_44) ∧ ((type_of% @tZok_44) ∧ (type_of% @d_Spliced.eq_1)))) ∧ (((type_of% @d_Call.eq_1) ∧ ((type_of% @d_Token.eq_1) ∧ (type_of% @d_Source.eq_1))) ∧ ((type_of% @t_preref7_Right.eq_1) ∧ ((type_of% @c_preref7_Right.eq_1) ∧ (type_of% @e_preref7_Right.eq_1))))))) := ⟨⟨⟨⟨⟨@tAgg_3, @tAgg_35⟩, ⟨@tAgg_37, ⟨@tAgg_44, @tAgg_9⟩⟩⟩, ⟨⟨@tBytes_44, ⟨@tCS_3, @tCS_35⟩⟩, ⟨@tCS_37, ⟨@tCS_44, @tCS_9⟩⟩⟩⟩, ⟨⟨⟨@tElem_35, @tFld_37_1⟩, ⟨@tFld_37_10, ⟨@tFld_37_9, @tFld_44_1⟩⟩⟩, ⟨⟨@tKnown_3, ⟨@tKnown_35, @tKnown_37⟩⟩, ⟨@tKnown_44, ⟨@tKnown_9, @tOff_37_1⟩⟩⟩⟩⟩, ⟨⟨⟨⟨@tOff_37_10, @tOff_37_9⟩, ⟨@tOff_44_1, ⟨@tSize_3, @tSize_35⟩⟩⟩, ⟨⟨@tSize_37, ⟨@tSize_44, @tSize_9⟩⟩, ⟨@tSlice_35, ⟨@tStruct_37_1, @tStruct_37_10⟩⟩⟩⟩, ⟨⟨⟨@tStruct_37_9, @tStruct_44_1⟩, ⟨@tZ_44, ⟨@tZok_44, @d_Spliced.eq_1⟩⟩⟩, ⟨⟨@d_Call.eq_1, ⟨@d_Token.eq_1, @d_Source.eq_1⟩⟩, ⟨@t_preref7_Right.eq_1, ⟨@c_preref7_Right.eq_1, @e_preref7_Right.eq_1⟩⟩⟩⟩⟩⟩
set_option maxRecDepth 100000 in
set_option maxHeartbeats 4000000 in
theorem preref7_Right_ok : PureOk Try.prog 25 pf_preref7_Right := by
  refine pure_of (t := t_preref7_Right) (pure := fun n => [61, 23].contains n) c_preref7_Right_inj rfl t_preref7_Right_ok mixed (fun n hn => tabOf_pure rfl n hn) Try.func25 rfl (by kernel_rfl) (fun a => by simp [c_preref7_Right, Try.ntmps25]) ?_
  rintro ⟨a0, a1⟩ out H
  simp only [preref7_Right] at H
  show aC _ _ (sig0 (List.map (fun d => AV.c (C.d d)) (c_preref7_Right (a0, a1)))) _ _
  refine w_seq ?_
  refine w_region rfl (fun K hK => ?_)
  simp -implicitDefEqProofs only [goR, ↓upd_at, if_true, if_false, reduceCtorEq, ↓reduceIte, Nat.reduceEqDiff, Nat.reduceAdd, Nat.reduceSub, Nat.reduceMul, Nat.reduceBEq, Nat.reduceLT, Nat.reduceLeDiff, Int.reduceToNat, Int.reduceLE, Int.reduceLT, Int.reduceEq, Int.reduceNeg, ← List.map_drop, ← List.map_take, UInt8.reduceToNat, true_implies, implies_true, List.append_eq, y_preref7_Right]
  (repeat' (first | ((with_reducible refine hK _ _ ?_); clear hK K) | (with_reducible apply And.intro) | (exact trivial) | (clear hK K; assumption) | (clear hK K; omega)))
  refine then_normal ?_
  refine w_seq ?_
  refine w_seq ?_
  refine w_region rfl (fun K hK => ?_)
  simp -implicitDefEqProofs only [goR, ↓upd_at, if_true, if_false, reduceCtorEq, ↓reduceIte, Nat.reduceEqDiff, Nat.reduceAdd, Nat.reduceSub, Nat.reduceMul, Nat.reduceBEq, Nat.reduceLT, Nat.reduceLeDiff, Int.reduceToNat, Int.reduceLE, Int.reduceLT, Int.reduceEq, Int.reduceNeg, ← List.map_drop, ← List.map_take, UInt8.reduceToNat, true_implies, implies_true, List.append_eq, y_preref7_Right]
  (repeat' (first | ((with_reducible refine hK _ _ ?_); clear hK K) | (with_reducible apply And.intro) | (exact trivial) | (clear hK K; assumption) | (clear hK K; omega)))
  refine then_normal ?_
  refine w_block ?_
  refine w_loop (preref7_Right_b1 a0 a1) (fun s => [(0, .c (.d (.sl 2 (List.map d_Source a0)))), (3, .c (.pt 1 0)), (10, .c (.d (.sl 3 (List.map d_Call a1.Calls)))), (11, .c (.d (.v (.int .i64 s.1)))), (12, .c (.d (.v (.int .i64 s.2))))]) (fun s => [[.d (.v (.int .i64 a1.Kind)), .d (.v (str a1.Text)), .d (.v (.bool a1.Space)), .d (.v (.bool a1.First)), .d (.v (.int .i64 a1.File)), .d (.v (.int .i64 a1.At)), .d (.v (.int .i64 a1.End)), .d (.v (.int .i64 a1.Line)), .d (.sl 1 (List.map dS a1.Hide)), .d (.sl 3 (List.map d_Call a1.Calls)), .d (.v (.int .i64 a1.Made))]]) [] H ?_ ?_
  · exact wk_ren ⟨[1], []⟩ rfl rfl rfl rfl rfl (by simp -implicitDefEqProofs only [goW, goR, ↓upd_at, if_true, if_false, reduceCtorEq, ↓reduceIte, Nat.reduceEqDiff, Nat.reduceAdd, Nat.reduceSub, Nat.reduceMul, Nat.reduceBEq, Nat.reduceLT, Nat.reduceLeDiff, Int.reduceToNat, Int.reduceLE, Int.reduceLT, Int.reduceEq, Int.reduceNeg, ← List.map_drop, ← List.map_take, UInt8.reduceToNat, true_implies, implies_true, List.append_eq, y_preref7_Right]) (by simp -implicitDefEqProofs only [goW, goR, ↓upd_at, if_true, if_false, reduceCtorEq, ↓reduceIte, Nat.reduceEqDiff, Nat.reduceAdd, Nat.reduceSub, Nat.reduceMul, Nat.reduceBEq, Nat.reduceLT, Nat.reduceLeDiff, Int.reduceToNat, Int.reduceLE, Int.reduceLT, Int.reduceEq, Int.reduceNeg, ← List.map_drop, ← List.map_take, UInt8.reduceToNat, true_implies, implies_true, List.append_eq, y_preref7_Right]) (by simp -implicitDefEqProofs only [goW, goR, ↓upd_at, if_true, if_false, reduceCtorEq, ↓reduceIte, Nat.reduceEqDiff, Nat.reduceAdd, Nat.reduceSub, Nat.reduceMul, Nat.reduceBEq, Nat.reduceLT, Nat.reduceLeDiff, Int.reduceToNat, Int.reduceLE, Int.reduceLT, Int.reduceEq, Int.reduceNeg, ← List.map_drop, ← List.map_take, UInt8.reduceToNat, true_implies, implies_true, List.append_eq, y_preref7_Right]) rfl
  · rintro n1 ⟨x1, x2⟩ o1 H hF1
    rw [preref7_Right_b1] at H
    refine w_seq ?_
    refine w_region rfl (fun K hK => ?_)
    simp -implicitDefEqProofs only [goR, ↓upd_at, if_true, if_false, reduceCtorEq, ↓reduceIte, Nat.reduceEqDiff, Nat.reduceAdd, Nat.reduceSub, Nat.reduceMul, Nat.reduceBEq, Nat.reduceLT, Nat.reduceLeDiff, Int.reduceToNat, Int.reduceLE, Int.reduceLT, Int.reduceEq, Int.reduceNeg, ← List.map_drop, ← List.map_take, UInt8.reduceToNat, true_implies, implies_true, List.append_eq, y_preref7_Right]
    (repeat' (first | ((with_reducible refine hK _ _ ?_); clear hK K) | (with_reducible apply And.intro) | (exact trivial) | (clear hK K; assumption) | (clear hK K; omega)))
    refine then_normal ?_
    refine w_seq ?_
    rcases bsplit H with ⟨hp1, H⟩ | ⟨hp1, H⟩
    · try simp -implicitDefEqProofs only [goR, ↓upd_at, if_true, if_false, reduceCtorEq, ↓reduceIte, Nat.reduceEqDiff, Nat.reduceAdd, Nat.reduceSub, Nat.reduceMul, Nat.reduceBEq, Nat.reduceLT, Nat.reduceLeDiff, Int.reduceToNat, Int.reduceLE, Int.reduceLT, Int.reduceEq, Int.reduceNeg, ← List.map_drop, ← List.map_take, UInt8.reduceToNat, true_implies, implies_true, List.append_eq, y_preref7_Right] at hp1
      have hq1 := hp1
      try simp only [goT] at hq1
      refine w_condT (by simp -implicitDefEqProofs only [goR, ↓upd_at, if_true, if_false, reduceCtorEq, ↓reduceIte, Nat.reduceEqDiff, Nat.reduceAdd, Nat.reduceSub, Nat.reduceMul, Nat.reduceBEq, Nat.reduceLT, Nat.reduceLeDiff, Int.reduceToNat, Int.reduceLE, Int.reduceLT, Int.reduceEq, Int.reduceNeg, ← List.map_drop, ← List.map_take, UInt8.reduceToNat, true_implies, implies_true, List.append_eq, y_preref7_Right, hp1]) ?_
      refine w_skip ?_
      refine then_normal ?_
      refine w_seq ?_
      refine w_block ?_
      refine w_seq ?_
      obtain ⟨hg1, H⟩ := gsplit H
      have g1 := map_getD d_Call a1.Calls x2.toNat default default (by omega)
      refine w_region rfl (fun K hK => ?_)
      simp -implicitDefEqProofs only [goR, ↓upd_at, if_true, if_false, reduceCtorEq, ↓reduceIte, Nat.reduceEqDiff, Nat.reduceAdd, Nat.reduceSub, Nat.reduceMul, Nat.reduceBEq, Nat.reduceLT, Nat.reduceLeDiff, Int.reduceToNat, Int.reduceLE, Int.reduceLT, Int.reduceEq, Int.reduceNeg, ← List.map_drop, ← List.map_take, UInt8.reduceToNat, true_implies, implies_true, List.append_eq, y_preref7_Right, g1]
      (repeat' (first | ((with_reducible refine hK _ _ ?_); clear hK K) | (with_reducible apply And.intro) | (exact trivial) | (clear hK K; assumption) | (clear hK K; omega)))
      refine then_normal ?_
      refine w_cut (preref7_Right_j2 x1 x2) (fun s => [(0, .c (.d (.sl 2 (List.map d_Source a0)))), (3, .c (.pt 1 0)), (10, .c (.d (.sl 3 (List.map d_Call a1.Calls)))), (11, .c (.d (.v (.int .i64 x1)))), (12, .c (.d (.v (.int .i64 x2)))), (24, .c (.d (.v (.bool s))))]) (fun s => [[.d (.v (.int .i64 a1.Kind)), .d (.v (str a1.Text)), .d (.v (.bool a1.Space)), .d (.v (.bool a1.First)), .d (.v (.int .i64 a1.File)), .d (.v (.int .i64 a1.At)), .d (.v (.int .i64 a1.End)), .d (.v (.int .i64 a1.Line)), .d (.sl 1 (List.map dS a1.Hide)), .d (.sl 3 (List.map d_Call a1.Calls)), .d (.v (.int .i64 a1.Made))]]) [] o1 ?_ ?_
      · rcases bsplit H with ⟨hp3, H⟩ | ⟨hp3, H⟩
        · try simp -implicitDefEqProofs only [goR, ↓upd_at, if_true, if_false, reduceCtorEq, ↓reduceIte, Nat.reduceEqDiff, Nat.reduceAdd, Nat.reduceSub, Nat.reduceMul, Nat.reduceBEq, Nat.reduceLT, Nat.reduceLeDiff, Int.reduceToNat, Int.reduceLE, Int.reduceLT, Int.reduceEq, Int.reduceNeg, ← List.map_drop, ← List.map_take, UInt8.reduceToNat, true_implies, implies_true, List.append_eq, y_preref7_Right] at hp3
          have hq3 := hp3
          try simp only [goT] at hq3
          obtain ⟨r1, hr1, H⟩ := osplit H
          have hc1 := preref7_Begins_c a0 (a1.Calls.getD x2.toNat default) r1 hr1
          simp -implicitDefEqProofs only [goR, ↓upd_at, if_true, if_false, reduceCtorEq, ↓reduceIte, Nat.reduceEqDiff, Nat.reduceAdd, Nat.reduceSub, Nat.reduceMul, Nat.reduceBEq, Nat.reduceLT, Nat.reduceLeDiff, Int.reduceToNat, Int.reduceLE, Int.reduceLT, Int.reduceEq, Int.reduceNeg, ← List.map_drop, ← List.map_take, UInt8.reduceToNat, true_implies, implies_true, List.append_eq, y_preref7_Right] at hc1
          refine w_region rfl (fun K hK => ?_)
          simp -implicitDefEqProofs only [goR, ↓upd_at, if_true, if_false, reduceCtorEq, ↓reduceIte, Nat.reduceEqDiff, Nat.reduceAdd, Nat.reduceSub, Nat.reduceMul, Nat.reduceBEq, Nat.reduceLT, Nat.reduceLeDiff, Int.reduceToNat, Int.reduceLE, Int.reduceLT, Int.reduceEq, Int.reduceNeg, ← List.map_drop, ← List.map_take, UInt8.reduceToNat, true_implies, implies_true, List.append_eq, y_preref7_Right, hp3, hc1.1, hc1.2]
          (repeat' (first | ((with_reducible refine hK _ _ ?_); clear hK K) | (with_reducible apply And.intro) | (exact trivial) | (clear hK K; assumption) | (clear hK K; omega)))
          refine cut_at H ?_
          exact wk_ren ⟨[1], []⟩ rfl rfl rfl rfl rfl (by simp -implicitDefEqProofs only [goW, goR, ↓upd_at, if_true, if_false, reduceCtorEq, ↓reduceIte, Nat.reduceEqDiff, Nat.reduceAdd, Nat.reduceSub, Nat.reduceMul, Nat.reduceBEq, Nat.reduceLT, Nat.reduceLeDiff, Int.reduceToNat, Int.reduceLE, Int.reduceLT, Int.reduceEq, Int.reduceNeg, ← List.map_drop, ← List.map_take, UInt8.reduceToNat, true_implies, implies_true, List.append_eq, y_preref7_Right]) (by simp -implicitDefEqProofs only [goW, goR, ↓upd_at, if_true, if_false, reduceCtorEq, ↓reduceIte, Nat.reduceEqDiff, Nat.reduceAdd, Nat.reduceSub, Nat.reduceMul, Nat.reduceBEq, Nat.reduceLT, Nat.reduceLeDiff, Int.reduceToNat, Int.reduceLE, Int.reduceLT, Int.reduceEq, Int.reduceNeg, ← List.map_drop, ← List.map_take, UInt8.reduceToNat, true_implies, implies_true, List.append_eq, y_preref7_Right]) (by simp -implicitDefEqProofs only [goW, goR, ↓upd_at, if_true, if_false, reduceCtorEq, ↓reduceIte, Nat.reduceEqDiff, Nat.reduceAdd, Nat.reduceSub, Nat.reduceMul, Nat.reduceBEq, Nat.reduceLT, Nat.reduceLeDiff, Int.reduceToNat, Int.reduceLE, Int.reduceLT, Int.reduceEq, Int.reduceNeg, ← List.map_drop, ← List.map_take, UInt8.reduceToNat, true_implies, implies_true, List.append_eq, y_preref7_Right]) rfl
        · try simp -implicitDefEqProofs only [goR, ↓upd_at, if_true, if_false, reduceCtorEq, ↓reduceIte, Nat.reduceEqDiff, Nat.reduceAdd, Nat.reduceSub, Nat.reduceMul, Nat.reduceBEq, Nat.reduceLT, Nat.reduceLeDiff, Int.reduceToNat, Int.reduceLE, Int.reduceLT, Int.reduceEq, Int.reduceNeg, ← List.map_drop, ← List.map_take, UInt8.reduceToNat, true_implies, implies_true, List.append_eq, y_preref7_Right] at hp3
          have hq3 := hp3
          try simp only [goT] at hq3
          refine w_region rfl (fun K hK => ?_)
          simp -implicitDefEqProofs only [goR, ↓upd_at, if_true, if_false, reduceCtorEq, ↓reduceIte, Nat.reduceEqDiff, Nat.reduceAdd, Nat.reduceSub, Nat.reduceMul, Nat.reduceBEq, Nat.reduceLT, Nat.reduceLeDiff, Int.reduceToNat, Int.reduceLE, Int.reduceLT, Int.reduceEq, Int.reduceNeg, ← List.map_drop, ← List.map_take, UInt8.reduceToNat, true_implies, implies_true, List.append_eq, y_preref7_Right, hp3]
          (repeat' (first | ((with_reducible refine hK _ _ ?_); clear hK K) | (with_reducible apply And.intro) | (exact trivial) | (clear hK K; assumption) | (clear hK K; omega)))
          refine cut_at H ?_
          exact wk_ren ⟨[1], []⟩ rfl rfl rfl rfl rfl (by simp -implicitDefEqProofs only [goW, goR, ↓upd_at, if_true, if_false, reduceCtorEq, ↓reduceIte, Nat.reduceEqDiff, Nat.reduceAdd, Nat.reduceSub, Nat.reduceMul, Nat.reduceBEq, Nat.reduceLT, Nat.reduceLeDiff, Int.reduceToNat, Int.reduceLE, Int.reduceLT, Int.reduceEq, Int.reduceNeg, ← List.map_drop, ← List.map_take, UInt8.reduceToNat, true_implies, implies_true, List.append_eq, y_preref7_Right]) (by simp -implicitDefEqProofs only [goW, goR, ↓upd_at, if_true, if_false, reduceCtorEq, ↓reduceIte, Nat.reduceEqDiff, Nat.reduceAdd, Nat.reduceSub, Nat.reduceMul, Nat.reduceBEq, Nat.reduceLT, Nat.reduceLeDiff, Int.reduceToNat, Int.reduceLE, Int.reduceLT, Int.reduceEq, Int.reduceNeg, ← List.map_drop, ← List.map_take, UInt8.reduceToNat, true_implies, implies_true, List.append_eq, y_preref7_Right]) (by simp -implicitDefEqProofs only [goW, goR, ↓upd_at, if_true, if_false, reduceCtorEq, ↓reduceIte, Nat.reduceEqDiff, Nat.reduceAdd, Nat.reduceSub, Nat.reduceMul, Nat.reduceBEq, Nat.reduceLT, Nat.reduceLeDiff, Int.reduceToNat, Int.reduceLE, Int.reduceLT, Int.reduceEq, Int.reduceNeg, ← List.map_drop, ← List.map_take, UInt8.reduceToNat, true_implies, implies_true, List.append_eq, y_preref7_Right]) rfl
      · rintro x3 H
        rw [preref7_Right_j2] at H
        rcases bsplit H with ⟨hp2, H⟩ | ⟨hp2, H⟩
        · try simp -implicitDefEqProofs only [goR, ↓upd_at, if_true, if_false, reduceCtorEq, ↓reduceIte, Nat.reduceEqDiff, Nat.reduceAdd, Nat.reduceSub, Nat.reduceMul, Nat.reduceBEq, Nat.reduceLT, Nat.reduceLeDiff, Int.reduceToNat, Int.reduceLE, Int.reduceLT, Int.reduceEq, Int.reduceNeg, ← List.map_drop, ← List.map_take, UInt8.reduceToNat, true_implies, implies_true, List.append_eq, y_preref7_Right] at hp2
          have hq2 := hp2
          try simp only [goT] at hq2
          refine w_condT (by simp -implicitDefEqProofs only [goR, ↓upd_at, if_true, if_false, reduceCtorEq, ↓reduceIte, Nat.reduceEqDiff, Nat.reduceAdd, Nat.reduceSub, Nat.reduceMul, Nat.reduceBEq, Nat.reduceLT, Nat.reduceLeDiff, Int.reduceToNat, Int.reduceLE, Int.reduceLT, Int.reduceEq, Int.reduceNeg, ← List.map_drop, ← List.map_take, UInt8.reduceToNat, true_implies, implies_true, List.append_eq, y_preref7_Right, hp2]) ?_
          refine w_seq ?_
          refine w_region rfl (fun K hK => ?_)
          simp -implicitDefEqProofs only [goR, ↓upd_at, if_true, if_false, reduceCtorEq, ↓reduceIte, Nat.reduceEqDiff, Nat.reduceAdd, Nat.reduceSub, Nat.reduceMul, Nat.reduceBEq, Nat.reduceLT, Nat.reduceLeDiff, Int.reduceToNat, Int.reduceLE, Int.reduceLT, Int.reduceEq, Int.reduceNeg, ← List.map_drop, ← List.map_take, UInt8.reduceToNat, true_implies, implies_true, List.append_eq, y_preref7_Right]
          (repeat' (first | ((with_reducible refine hK _ _ ?_); clear hK K) | (with_reducible apply And.intro) | (exact trivial) | (clear hK K; assumption) | (clear hK K; omega)))
          refine then_normal ?_
          refine w_ret ?_
          refine block_ret ?_
          refine then_ret ?_
          replace H := inrO_fin H hF1
          refine round_ret ?_
          refine block_ret ?_
          refine then_ret ?_
          obtain rfl := Option.some.inj H
          simp -implicitDefEqProofs only [goQ, Try.results25, goR, ↓upd_at, if_true, if_false, reduceCtorEq, ↓reduceIte, Nat.reduceEqDiff, Nat.reduceAdd, Nat.reduceSub, Nat.reduceMul, Nat.reduceBEq, Nat.reduceLT, Nat.reduceLeDiff, Int.reduceToNat, Int.reduceLE, Int.reduceLT, Int.reduceEq, Int.reduceNeg, ← List.map_drop, ← List.map_take, UInt8.reduceToNat, true_implies, implies_true, List.append_eq, y_preref7_Right]
        · try simp -implicitDefEqProofs only [goR, ↓upd_at, if_true, if_false, reduceCtorEq, ↓reduceIte, Nat.reduceEqDiff, Nat.reduceAdd, Nat.reduceSub, Nat.reduceMul, Nat.reduceBEq, Nat.reduceLT, Nat.reduceLeDiff, Int.reduceToNat, Int.reduceLE, Int.reduceLT, Int.reduceEq, Int.reduceNeg, ← List.map_drop, ← List.map_take, UInt8.reduceToNat, true_implies, implies_true, List.append_eq, y_preref7_Right] at hp2
          have hq2 := hp2
          try simp only [goT] at hq2
          refine w_condF (by simp -implicitDefEqProofs only [goR, ↓upd_at, if_true, if_false, reduceCtorEq, ↓reduceIte, Nat.reduceEqDiff, Nat.reduceAdd, Nat.reduceSub, Nat.reduceMul, Nat.reduceBEq, Nat.reduceLT, Nat.reduceLeDiff, Int.reduceToNat, Int.reduceLE, Int.reduceLT, Int.reduceEq, Int.reduceNeg, ← List.map_drop, ← List.map_take, UInt8.reduceToNat, true_implies, implies_true, List.append_eq, y_preref7_Right, hp2]) ?_
          refine w_skip ?_
          refine block_normal ?_
          refine then_normal ?_
          refine w_region rfl (fun K hK => ?_)
          simp -implicitDefEqProofs only [goR, ↓upd_at, if_true, if_false, reduceCtorEq, ↓reduceIte, Nat.reduceEqDiff, Nat.reduceAdd, Nat.reduceSub, Nat.reduceMul, Nat.reduceBEq, Nat.reduceLT, Nat.reduceLeDiff, Int.reduceToNat, Int.reduceLE, Int.reduceLT, Int.reduceEq, Int.reduceNeg, ← List.map_drop, ← List.map_take, UInt8.reduceToNat, true_implies, implies_true, List.append_eq, y_preref7_Right]
          (repeat' (first | ((with_reducible refine hK _ _ ?_); clear hK K) | (with_reducible apply And.intro) | (exact trivial) | (clear hK K; assumption) | (clear hK K; omega)))
          refine round_at (inl_fin H hF1) ?_
          exact wk_ren ⟨[1], []⟩ rfl rfl rfl rfl rfl (by simp -implicitDefEqProofs only [goW, goR, ↓upd_at, if_true, if_false, reduceCtorEq, ↓reduceIte, Nat.reduceEqDiff, Nat.reduceAdd, Nat.reduceSub, Nat.reduceMul, Nat.reduceBEq, Nat.reduceLT, Nat.reduceLeDiff, Int.reduceToNat, Int.reduceLE, Int.reduceLT, Int.reduceEq, Int.reduceNeg, ← List.map_drop, ← List.map_take, UInt8.reduceToNat, true_implies, implies_true, List.append_eq, y_preref7_Right]) (by simp -implicitDefEqProofs only [goW, goR, ↓upd_at, if_true, if_false, reduceCtorEq, ↓reduceIte, Nat.reduceEqDiff, Nat.reduceAdd, Nat.reduceSub, Nat.reduceMul, Nat.reduceBEq, Nat.reduceLT, Nat.reduceLeDiff, Int.reduceToNat, Int.reduceLE, Int.reduceLT, Int.reduceEq, Int.reduceNeg, ← List.map_drop, ← List.map_take, UInt8.reduceToNat, true_implies, implies_true, List.append_eq, y_preref7_Right]) (by simp -implicitDefEqProofs only [goW, goR, ↓upd_at, if_true, if_false, reduceCtorEq, ↓reduceIte, Nat.reduceEqDiff, Nat.reduceAdd, Nat.reduceSub, Nat.reduceMul, Nat.reduceBEq, Nat.reduceLT, Nat.reduceLeDiff, Int.reduceToNat, Int.reduceLE, Int.reduceLT, Int.reduceEq, Int.reduceNeg, ← List.map_drop, ← List.map_take, UInt8.reduceToNat, true_implies, implies_true, List.append_eq, y_preref7_Right]) rfl
    · try simp -implicitDefEqProofs only [goR, ↓upd_at, if_true, if_false, reduceCtorEq, ↓reduceIte, Nat.reduceEqDiff, Nat.reduceAdd, Nat.reduceSub, Nat.reduceMul, Nat.reduceBEq, Nat.reduceLT, Nat.reduceLeDiff, Int.reduceToNat, Int.reduceLE, Int.reduceLT, Int.reduceEq, Int.reduceNeg, ← List.map_drop, ← List.map_take, UInt8.reduceToNat, true_implies, implies_true, List.append_eq, y_preref7_Right] at hp1
      have hq1 := hp1
      try simp only [goT] at hq1
      refine w_condF (by simp -implicitDefEqProofs only [goR, ↓upd_at, if_true, if_false, reduceCtorEq, ↓reduceIte, Nat.reduceEqDiff, Nat.reduceAdd, Nat.reduceSub, Nat.reduceMul, Nat.reduceBEq, Nat.reduceLT, Nat.reduceLeDiff, Int.reduceToNat, Int.reduceLE, Int.reduceLT, Int.reduceEq, Int.reduceNeg, ← List.map_drop, ← List.map_take, UInt8.reduceToNat, true_implies, implies_true, List.append_eq, y_preref7_Right, hp1]) ?_
      refine w_exit ?_
      refine then_exit ?_
      replace H := inrO_fin H hF1
      refine round_exit ?_
      refine block_exit ?_
      refine then_normal ?_
      refine w_seq ?_
      obtain ⟨r2, hr2, H⟩ := osplit H
      have hc2 := preref7_Span_c a0 a1 r2 hr2
      simp -implicitDefEqProofs only [goR, ↓upd_at, if_true, if_false, reduceCtorEq, ↓reduceIte, Nat.reduceEqDiff, Nat.reduceAdd, Nat.reduceSub, Nat.reduceMul, Nat.reduceBEq, Nat.reduceLT, Nat.reduceLeDiff, Int.reduceToNat, Int.reduceLE, Int.reduceLT, Int.reduceEq, Int.reduceNeg, ← List.map_drop, ← List.map_take, UInt8.reduceToNat, true_implies, implies_true, List.append_eq, y_preref7_Right] at hc2
      refine w_region rfl (fun K hK => ?_)
      simp -implicitDefEqProofs only [goR, ↓upd_at, if_true, if_false, reduceCtorEq, ↓reduceIte, Nat.reduceEqDiff, Nat.reduceAdd, Nat.reduceSub, Nat.reduceMul, Nat.reduceBEq, Nat.reduceLT, Nat.reduceLeDiff, Int.reduceToNat, Int.reduceLE, Int.reduceLT, Int.reduceEq, Int.reduceNeg, ← List.map_drop, ← List.map_take, UInt8.reduceToNat, true_implies, implies_true, List.append_eq, y_preref7_Right, hc2.1, hc2.2]
      (repeat' (first | ((with_reducible refine hK _ _ ?_); clear hK K) | (with_reducible apply And.intro) | (exact trivial) | (clear hK K; assumption) | (clear hK K; omega)))
      refine then_normal ?_
      refine w_cut preref7_Right_j3 (fun s => [(4, .c (.d (.v (.bool s))))]) (fun s => []) [] out ?_ ?_
      · rcases bsplit H with ⟨hp4, H⟩ | ⟨hp4, H⟩
        · try simp -implicitDefEqProofs only [goR, ↓upd_at, if_true, if_false, reduceCtorEq, ↓reduceIte, Nat.reduceEqDiff, Nat.reduceAdd, Nat.reduceSub, Nat.reduceMul, Nat.reduceBEq, Nat.reduceLT, Nat.reduceLeDiff, Int.reduceToNat, Int.reduceLE, Int.reduceLT, Int.reduceEq, Int.reduceNeg, ← List.map_drop, ← List.map_take, UInt8.reduceToNat, true_implies, implies_true, List.append_eq, y_preref7_Right] at hp4
          have hq4 := hp4
          try simp only [goT] at hq4
          refine w_region rfl (fun K hK => ?_)
          simp -implicitDefEqProofs only [goR, ↓upd_at, if_true, if_false, reduceCtorEq, ↓reduceIte, Nat.reduceEqDiff, Nat.reduceAdd, Nat.reduceSub, Nat.reduceMul, Nat.reduceBEq, Nat.reduceLT, Nat.reduceLeDiff, Int.reduceToNat, Int.reduceLE, Int.reduceLT, Int.reduceEq, Int.reduceNeg, ← List.map_drop, ← List.map_take, UInt8.reduceToNat, true_implies, implies_true, List.append_eq, y_preref7_Right, hp4]
          (repeat' (first | ((with_reducible refine hK _ _ ?_); clear hK K) | (with_reducible apply And.intro) | (exact trivial) | (clear hK K; assumption) | (clear hK K; omega)))
          refine cut_at H ?_
          exact wk_ren ⟨[], []⟩ rfl rfl rfl rfl rfl (by simp -implicitDefEqProofs only [goW, goR, ↓upd_at, if_true, if_false, reduceCtorEq, ↓reduceIte, Nat.reduceEqDiff, Nat.reduceAdd, Nat.reduceSub, Nat.reduceMul, Nat.reduceBEq, Nat.reduceLT, Nat.reduceLeDiff, Int.reduceToNat, Int.reduceLE, Int.reduceLT, Int.reduceEq, Int.reduceNeg, ← List.map_drop, ← List.map_take, UInt8.reduceToNat, true_implies, implies_true, List.append_eq, y_preref7_Right]) (by simp -implicitDefEqProofs only [goW, goR, ↓upd_at, if_true, if_false, reduceCtorEq, ↓reduceIte, Nat.reduceEqDiff, Nat.reduceAdd, Nat.reduceSub, Nat.reduceMul, Nat.reduceBEq, Nat.reduceLT, Nat.reduceLeDiff, Int.reduceToNat, Int.reduceLE, Int.reduceLT, Int.reduceEq, Int.reduceNeg, ← List.map_drop, ← List.map_take, UInt8.reduceToNat, true_implies, implies_true, List.append_eq, y_preref7_Right]) (by simp -implicitDefEqProofs only [goW, goR, ↓upd_at, if_true, if_false, reduceCtorEq, ↓reduceIte, Nat.reduceEqDiff, Nat.reduceAdd, Nat.reduceSub, Nat.reduceMul, Nat.reduceBEq, Nat.reduceLT, Nat.reduceLeDiff, Int.reduceToNat, Int.reduceLE, Int.reduceLT, Int.reduceEq, Int.reduceNeg, ← List.map_drop, ← List.map_take, UInt8.reduceToNat, true_implies, implies_true, List.append_eq, y_preref7_Right]) rfl
        · try simp -implicitDefEqProofs only [goR, ↓upd_at, if_true, if_false, reduceCtorEq, ↓reduceIte, Nat.reduceEqDiff, Nat.reduceAdd, Nat.reduceSub, Nat.reduceMul, Nat.reduceBEq, Nat.reduceLT, Nat.reduceLeDiff, Int.reduceToNat, Int.reduceLE, Int.reduceLT, Int.reduceEq, Int.reduceNeg, ← List.map_drop, ← List.map_take, UInt8.reduceToNat, true_implies, implies_true, List.append_eq, y_preref7_Right] at hp4
          have hq4 := hp4
          try simp only [goT] at hq4
          rcases bsplit H with ⟨hp5, H⟩ | ⟨hp5, H⟩
          · try simp -implicitDefEqProofs only [goR, ↓upd_at, if_true, if_false, reduceCtorEq, ↓reduceIte, Nat.reduceEqDiff, Nat.reduceAdd, Nat.reduceSub, Nat.reduceMul, Nat.reduceBEq, Nat.reduceLT, Nat.reduceLeDiff, Int.reduceToNat, Int.reduceLE, Int.reduceLT, Int.reduceEq, Int.reduceNeg, ← List.map_drop, ← List.map_take, UInt8.reduceToNat, true_implies, implies_true, List.append_eq, y_preref7_Right] at hp5
            have hq5 := hp5
            try simp only [goT] at hq5
            refine w_region rfl (fun K hK => ?_)
            simp -implicitDefEqProofs only [goR, ↓upd_at, if_true, if_false, reduceCtorEq, ↓reduceIte, Nat.reduceEqDiff, Nat.reduceAdd, Nat.reduceSub, Nat.reduceMul, Nat.reduceBEq, Nat.reduceLT, Nat.reduceLeDiff, Int.reduceToNat, Int.reduceLE, Int.reduceLT, Int.reduceEq, Int.reduceNeg, ← List.map_drop, ← List.map_take, UInt8.reduceToNat, true_implies, implies_true, List.append_eq, y_preref7_Right, hp4, hp5]
            (repeat' (first | ((with_reducible refine hK _ _ ?_); clear hK K) | (with_reducible apply And.intro) | (exact trivial) | (clear hK K; assumption) | (clear hK K; omega)))
            refine cut_at H ?_
            exact wk_ren ⟨[], []⟩ rfl rfl rfl rfl rfl (by simp -implicitDefEqProofs only [goW, goR, ↓upd_at, if_true, if_false, reduceCtorEq, ↓reduceIte, Nat.reduceEqDiff, Nat.reduceAdd, Nat.reduceSub, Nat.reduceMul, Nat.reduceBEq, Nat.reduceLT, Nat.reduceLeDiff, Int.reduceToNat, Int.reduceLE, Int.reduceLT, Int.reduceEq, Int.reduceNeg, ← List.map_drop, ← List.map_take, UInt8.reduceToNat, true_implies, implies_true, List.append_eq, y_preref7_Right]) (by simp -implicitDefEqProofs only [goW, goR, ↓upd_at, if_true, if_false, reduceCtorEq, ↓reduceIte, Nat.reduceEqDiff, Nat.reduceAdd, Nat.reduceSub, Nat.reduceMul, Nat.reduceBEq, Nat.reduceLT, Nat.reduceLeDiff, Int.reduceToNat, Int.reduceLE, Int.reduceLT, Int.reduceEq, Int.reduceNeg, ← List.map_drop, ← List.map_take, UInt8.reduceToNat, true_implies, implies_true, List.append_eq, y_preref7_Right]) (by simp -implicitDefEqProofs only [goW, goR, ↓upd_at, if_true, if_false, reduceCtorEq, ↓reduceIte, Nat.reduceEqDiff, Nat.reduceAdd, Nat.reduceSub, Nat.reduceMul, Nat.reduceBEq, Nat.reduceLT, Nat.reduceLeDiff, Int.reduceToNat, Int.reduceLE, Int.reduceLT, Int.reduceEq, Int.reduceNeg, ← List.map_drop, ← List.map_take, UInt8.reduceToNat, true_implies, implies_true, List.append_eq, y_preref7_Right]) rfl
          · try simp -implicitDefEqProofs only [goR, ↓upd_at, if_true, if_false, reduceCtorEq, ↓reduceIte, Nat.reduceEqDiff, Nat.reduceAdd, Nat.reduceSub, Nat.reduceMul, Nat.reduceBEq, Nat.reduceLT, Nat.reduceLeDiff, Int.reduceToNat, Int.reduceLE, Int.reduceLT, Int.reduceEq, Int.reduceNeg, ← List.map_drop, ← List.map_take, UInt8.reduceToNat, true_implies, implies_true, List.append_eq, y_preref7_Right] at hp5
            have hq5 := hp5
            try simp only [goT] at hq5
            refine w_region rfl (fun K hK => ?_)
            simp -implicitDefEqProofs only [goR, ↓upd_at, if_true, if_false, reduceCtorEq, ↓reduceIte, Nat.reduceEqDiff, Nat.reduceAdd, Nat.reduceSub, Nat.reduceMul, Nat.reduceBEq, Nat.reduceLT, Nat.reduceLeDiff, Int.reduceToNat, Int.reduceLE, Int.reduceLT, Int.reduceEq, Int.reduceNeg, ← List.map_drop, ← List.map_take, UInt8.reduceToNat, true_implies, implies_true, List.append_eq, y_preref7_Right, hp4, hp5]
            (repeat' (first | ((with_reducible refine hK _ _ ?_); clear hK K) | (with_reducible apply And.intro) | (exact trivial) | (clear hK K; assumption) | (clear hK K; omega)))
            refine cut_at H ?_
            exact wk_ren ⟨[], []⟩ rfl rfl rfl rfl rfl (by simp -implicitDefEqProofs only [goW, goR, ↓upd_at, if_true, if_false, reduceCtorEq, ↓reduceIte, Nat.reduceEqDiff, Nat.reduceAdd, Nat.reduceSub, Nat.reduceMul, Nat.reduceBEq, Nat.reduceLT, Nat.reduceLeDiff, Int.reduceToNat, Int.reduceLE, Int.reduceLT, Int.reduceEq, Int.reduceNeg, ← List.map_drop, ← List.map_take, UInt8.reduceToNat, true_implies, implies_true, List.append_eq, y_preref7_Right]) (by simp -implicitDefEqProofs only [goW, goR, ↓upd_at, if_true, if_false, reduceCtorEq, ↓reduceIte, Nat.reduceEqDiff, Nat.reduceAdd, Nat.reduceSub, Nat.reduceMul, Nat.reduceBEq, Nat.reduceLT, Nat.reduceLeDiff, Int.reduceToNat, Int.reduceLE, Int.reduceLT, Int.reduceEq, Int.reduceNeg, ← List.map_drop, ← List.map_take, UInt8.reduceToNat, true_implies, implies_true, List.append_eq, y_preref7_Right]) (by simp -implicitDefEqProofs only [goW, goR, ↓upd_at, if_true, if_false, reduceCtorEq, ↓reduceIte, Nat.reduceEqDiff, Nat.reduceAdd, Nat.reduceSub, Nat.reduceMul, Nat.reduceBEq, Nat.reduceLT, Nat.reduceLeDiff, Int.reduceToNat, Int.reduceLE, Int.reduceLT, Int.reduceEq, Int.reduceNeg, ← List.map_drop, ← List.map_take, UInt8.reduceToNat, true_implies, implies_true, List.append_eq, y_preref7_Right]) rfl
      · rintro x4 H
        rw [preref7_Right_j3] at H
        refine w_ret ?_
        obtain rfl := Option.some.inj H
        simp -implicitDefEqProofs only [goQ, Try.results25, goR, ↓upd_at, if_true, if_false, reduceCtorEq, ↓reduceIte, Nat.reduceEqDiff, Nat.reduceAdd, Nat.reduceSub, Nat.reduceMul, Nat.reduceBEq, Nat.reduceLT, Nat.reduceLeDiff, Int.reduceToNat, Int.reduceLE, Int.reduceLT, Int.reduceEq, Int.reduceNeg, ← List.map_drop, ← List.map_take, UInt8.reduceToNat, true_implies, implies_true, List.append_eq, y_preref7_Right]
theorem preref7_Right_c (a0 : List Source) (a1 : Token) (r : Bool) (H : preref7_Right a0 a1 = some r) : pf_preref7_Right.pre [(dL 2 d_Source) a0, d_Token a1] = True ∧ pf_preref7_Right.val [(dL 2 d_Source) a0, d_Token a1] = dB r :=
  ⟨PF.of_pre (enc := c_preref7_Right) (f := fun a => preref7_Right a.1 a.2) (e := e_preref7_Right) (a := (a0, a1)) H, PF.of_val (enc := c_preref7_Right) (f := fun a => preref7_Right a.1 a.2) (e := e_preref7_Right) (a := (a0, a1)) c_preref7_Right_inj H⟩
theorem preref7_Right_cl (l : List D) (a0 : List Source) (a1 : Token) (r : Bool) (hl : les1 l (c_preref7_Right (a0, a1))) (H : preref7_Right a0 a1 = some r) : pf_preref7_Right.pre l = True ∧ pf_preref7_Right.val l = dB r :=
  ⟨PF.of_prel (enc := c_preref7_Right) (f := fun a => preref7_Right a.1 a.2) (e := e_preref7_Right) (a := (a0, a1)) hl H, PF.of_vall (enc := c_preref7_Right) (f := fun a => preref7_Right a.1 a.2) (e := e_preref7_Right) (a := (a0, a1)) c_preref7_Right_inj hl H⟩
noncomputable def origin_Outer (a0 : Token) : Option (Int × Int) :=
  if (ltI 0 (a0.Calls.length : Int)) = true then if 0 < a0.Calls.length then if 0 < a0.Calls.length then some ((a0.Calls.getD 0 default).File, (a0.Calls.getD 0 default).At) else none else none else some (a0.File, a0.At)
def e_origin_Outer : Int × Int → D := fun r => .tu [dI r.1, dI r.2]
def c_origin_Outer : Token → List D := fun a => [d_Token a]
theorem c_origin_Outer_inj : Inj c_origin_Outer := by intro a b h; simp only [c_origin_Outer, List.map_cons, List.map_nil, List.cons.injEq, and_true] at h; exact (d_Token_sinj _ _) h
noncomputable def pf_origin_Outer : PF := PF.of c_origin_Outer (fun a => origin_Outer a) e_origin_Outer
noncomputable def t_origin_Outer : Tab := tabOf Try.prog [] []
theorem t_origin_Outer_ok : TabOk t_origin_Outer := tabOf_ok (by exact trivial) (by exact trivial)
theorem y_origin_Outer : ((((((type_of% @tAgg_3) ∧ (type_of% @tAgg_35)) ∧ ((type_of% @tAgg_44) ∧ (type_of% @tBytes_44))) ∧ (((type_of% @tCS_3) ∧ (type_of% @tCS_35)) ∧ ((type_of% @tCS_44) ∧ ((type_of% @tElem_35) ∧ (type_of% @tFld_37_4))))) ∧ ((((type_of% @tFld_37_5) ∧ (type_of% @tFld_37_9)) ∧ ((type_of% @tFld_44_1) ∧ ((type_of% @tFld_44_2) ∧ (type_of% @tKnown_3)))) ∧ (((type_of% @tKnown_35) ∧ (type_of% @tKnown_44)) ∧ ((type_of% @tOff_37_4) ∧ ((type_of% @tOff_37_5) ∧ (type_of% @tOff_37_9)))))) ∧ (((((type_of% @tOff_44_1) ∧ (type_of% @tOff_44_2)) ∧ ((type_of% @tSize_3) ∧ ((type_of% @tSize_35) ∧ (type_of% @tSize_44)))) ∧ (((type_of% @tSlice_35) ∧ (type_of% @tStruct_37_4)) ∧ ((type_of% @tStruct_37_5) ∧ ((type_of% @tStruct_37_9) ∧ (type_of% @tStruct_44_1))))) ∧ ((((type_of% @tStruct_44_2) ∧ (type_of% @tZ_44)) ∧ ((type_of% @tZok_44) ∧ ((type_of% @d_Spliced.eq_1) ∧ (type_of% @d_Call.eq_1)))) ∧ (((type_of% @d_Token.eq_1) ∧ (type_of% @d_Source.eq_1)) ∧ ((type_of% @t_origin_Outer.eq_1) ∧ ((type_of% @c_origin_Outer.eq_1) ∧ (type_of% @e_origin_Outer.eq_1))))))) := ⟨⟨⟨⟨⟨@tAgg_3, @tAgg_35⟩, ⟨@tAgg_44, @tBytes_44⟩⟩, ⟨⟨@tCS_3, @tCS_35⟩, ⟨@tCS_44, ⟨@tElem_35, @tFld_37_4⟩⟩⟩⟩, ⟨⟨⟨@tFld_37_5, @tFld_37_9⟩, ⟨@tFld_44_1, ⟨@tFld_44_2, @tKnown_3⟩⟩⟩, ⟨⟨@tKnown_35, @tKnown_44⟩, ⟨@tOff_37_4, ⟨@tOff_37_5, @tOff_37_9⟩⟩⟩⟩⟩, ⟨⟨⟨⟨@tOff_44_1, @tOff_44_2⟩, ⟨@tSize_3, ⟨@tSize_35, @tSize_44⟩⟩⟩, ⟨⟨@tSlice_35, @tStruct_37_4⟩, ⟨@tStruct_37_5, ⟨@tStruct_37_9, @tStruct_44_1⟩⟩⟩⟩, ⟨⟨⟨@tStruct_44_2, @tZ_44⟩, ⟨@tZok_44, ⟨@d_Spliced.eq_1, @d_Call.eq_1⟩⟩⟩, ⟨⟨@d_Token.eq_1, @d_Source.eq_1⟩, ⟨@t_origin_Outer.eq_1, ⟨@c_origin_Outer.eq_1, @e_origin_Outer.eq_1⟩⟩⟩⟩⟩⟩
set_option maxRecDepth 100000 in
set_option maxHeartbeats 4000000 in
theorem origin_Outer_ok : PureOk Try.prog 26 pf_origin_Outer := by
  refine pure_of (t := t_origin_Outer) (pure := fun n => [].contains n) c_origin_Outer_inj rfl t_origin_Outer_ok mixed (fun n hn => tabOf_pure rfl n hn) Try.func26 rfl (by kernel_rfl) (fun a => by simp [c_origin_Outer, Try.ntmps26]) ?_
  rintro a0 out H
  simp only [origin_Outer] at H
  show aC _ _ (sig0 (List.map (fun d => AV.c (C.d d)) (c_origin_Outer a0))) _ _
  refine w_seq ?_
  refine w_region rfl (fun K hK => ?_)
  simp -implicitDefEqProofs only [goR, ↓upd_at, if_true, if_false, reduceCtorEq, ↓reduceIte, Nat.reduceEqDiff, Nat.reduceAdd, Nat.reduceSub, Nat.reduceMul, Nat.reduceBEq, Nat.reduceLT, Nat.reduceLeDiff, Int.reduceToNat, Int.reduceLE, Int.reduceLT, Int.reduceEq, Int.reduceNeg, ← List.map_drop, ← List.map_take, UInt8.reduceToNat, true_implies, implies_true, List.append_eq, y_origin_Outer]
  (repeat' (first | ((with_reducible refine hK _ _ ?_); clear hK K) | (with_reducible apply And.intro) | (exact trivial) | (clear hK K; assumption) | (clear hK K; omega)))
  refine then_normal ?_
  refine w_seq ?_
  refine w_seq ?_
  refine w_region rfl (fun K hK => ?_)
  simp -implicitDefEqProofs only [goR, ↓upd_at, if_true, if_false, reduceCtorEq, ↓reduceIte, Nat.reduceEqDiff, Nat.reduceAdd, Nat.reduceSub, Nat.reduceMul, Nat.reduceBEq, Nat.reduceLT, Nat.reduceLeDiff, Int.reduceToNat, Int.reduceLE, Int.reduceLT, Int.reduceEq, Int.reduceNeg, ← List.map_drop, ← List.map_take, UInt8.reduceToNat, true_implies, implies_true, List.append_eq, y_origin_Outer]
  (repeat' (first | ((with_reducible refine hK _ _ ?_); clear hK K) | (with_reducible apply And.intro) | (exact trivial) | (clear hK K; assumption) | (clear hK K; omega)))
  refine then_normal ?_
  rcases bsplit H with ⟨hp1, H⟩ | ⟨hp1, H⟩
  · try simp -implicitDefEqProofs only [goR, ↓upd_at, if_true, if_false, reduceCtorEq, ↓reduceIte, Nat.reduceEqDiff, Nat.reduceAdd, Nat.reduceSub, Nat.reduceMul, Nat.reduceBEq, Nat.reduceLT, Nat.reduceLeDiff, Int.reduceToNat, Int.reduceLE, Int.reduceLT, Int.reduceEq, Int.reduceNeg, ← List.map_drop, ← List.map_take, UInt8.reduceToNat, true_implies, implies_true, List.append_eq, y_origin_Outer] at hp1
    have hq1 := hp1
    try simp only [goT] at hq1
    refine w_condT (by simp -implicitDefEqProofs only [goR, ↓upd_at, if_true, if_false, reduceCtorEq, ↓reduceIte, Nat.reduceEqDiff, Nat.reduceAdd, Nat.reduceSub, Nat.reduceMul, Nat.reduceBEq, Nat.reduceLT, Nat.reduceLeDiff, Int.reduceToNat, Int.reduceLE, Int.reduceLT, Int.reduceEq, Int.reduceNeg, ← List.map_drop, ← List.map_take, UInt8.reduceToNat, true_implies, implies_true, List.append_eq, y_origin_Outer, hp1]) ?_
    refine w_seq ?_
    obtain ⟨hg1, H⟩ := gsplit H
    have g1 := map_getD d_Call a0.Calls 0 default default (by omega)
    obtain ⟨hg2, H⟩ := gsplit H
    have g2 := map_getD d_Call a0.Calls 0 default default (by omega)
    refine w_region rfl (fun K hK => ?_)
    simp -implicitDefEqProofs only [goR, ↓upd_at, if_true, if_false, reduceCtorEq, ↓reduceIte, Nat.reduceEqDiff, Nat.reduceAdd, Nat.reduceSub, Nat.reduceMul, Nat.reduceBEq, Nat.reduceLT, Nat.reduceLeDiff, Int.reduceToNat, Int.reduceLE, Int.reduceLT, Int.reduceEq, Int.reduceNeg, ← List.map_drop, ← List.map_take, UInt8.reduceToNat, true_implies, implies_true, List.append_eq, y_origin_Outer, g1, g2]
    (repeat' (first | ((with_reducible refine hK _ _ ?_); clear hK K) | (with_reducible apply And.intro) | (exact trivial) | (clear hK K; assumption) | (clear hK K; omega)))
    refine then_normal ?_
    refine w_ret ?_
    refine then_ret ?_
    obtain rfl := Option.some.inj H
    simp -implicitDefEqProofs only [goQ, Try.results26, goR, ↓upd_at, if_true, if_false, reduceCtorEq, ↓reduceIte, Nat.reduceEqDiff, Nat.reduceAdd, Nat.reduceSub, Nat.reduceMul, Nat.reduceBEq, Nat.reduceLT, Nat.reduceLeDiff, Int.reduceToNat, Int.reduceLE, Int.reduceLT, Int.reduceEq, Int.reduceNeg, ← List.map_drop, ← List.map_take, UInt8.reduceToNat, true_implies, implies_true, List.append_eq, y_origin_Outer]
  · try simp -implicitDefEqProofs only [goR, ↓upd_at, if_true, if_false, reduceCtorEq, ↓reduceIte, Nat.reduceEqDiff, Nat.reduceAdd, Nat.reduceSub, Nat.reduceMul, Nat.reduceBEq, Nat.reduceLT, Nat.reduceLeDiff, Int.reduceToNat, Int.reduceLE, Int.reduceLT, Int.reduceEq, Int.reduceNeg, ← List.map_drop, ← List.map_take, UInt8.reduceToNat, true_implies, implies_true, List.append_eq, y_origin_Outer] at hp1
    have hq1 := hp1
    try simp only [goT] at hq1
    refine w_condF (by simp -implicitDefEqProofs only [goR, ↓upd_at, if_true, if_false, reduceCtorEq, ↓reduceIte, Nat.reduceEqDiff, Nat.reduceAdd, Nat.reduceSub, Nat.reduceMul, Nat.reduceBEq, Nat.reduceLT, Nat.reduceLeDiff, Int.reduceToNat, Int.reduceLE, Int.reduceLT, Int.reduceEq, Int.reduceNeg, ← List.map_drop, ← List.map_take, UInt8.reduceToNat, true_implies, implies_true, List.append_eq, y_origin_Outer, hp1]) ?_
    refine w_skip ?_
    refine then_normal ?_
    refine w_seq ?_
    refine w_region rfl (fun K hK => ?_)
    simp -implicitDefEqProofs only [goR, ↓upd_at, if_true, if_false, reduceCtorEq, ↓reduceIte, Nat.reduceEqDiff, Nat.reduceAdd, Nat.reduceSub, Nat.reduceMul, Nat.reduceBEq, Nat.reduceLT, Nat.reduceLeDiff, Int.reduceToNat, Int.reduceLE, Int.reduceLT, Int.reduceEq, Int.reduceNeg, ← List.map_drop, ← List.map_take, UInt8.reduceToNat, true_implies, implies_true, List.append_eq, y_origin_Outer]
    (repeat' (first | ((with_reducible refine hK _ _ ?_); clear hK K) | (with_reducible apply And.intro) | (exact trivial) | (clear hK K; assumption) | (clear hK K; omega)))
    refine then_normal ?_
    refine w_ret ?_
    obtain rfl := Option.some.inj H
    simp -implicitDefEqProofs only [goQ, Try.results26, goR, ↓upd_at, if_true, if_false, reduceCtorEq, ↓reduceIte, Nat.reduceEqDiff, Nat.reduceAdd, Nat.reduceSub, Nat.reduceMul, Nat.reduceBEq, Nat.reduceLT, Nat.reduceLeDiff, Int.reduceToNat, Int.reduceLE, Int.reduceLT, Int.reduceEq, Int.reduceNeg, ← List.map_drop, ← List.map_take, UInt8.reduceToNat, true_implies, implies_true, List.append_eq, y_origin_Outer]
theorem origin_Outer_c (a0 : Token) (r : Int × Int) (H : origin_Outer a0 = some r) : pf_origin_Outer.pre [d_Token a0] = True ∧ pf_origin_Outer.val [d_Token a0] = .tu [dI r.1, dI r.2] :=
  ⟨PF.of_pre (enc := c_origin_Outer) (f := fun a => origin_Outer a) (e := e_origin_Outer) (a := a0) H, PF.of_val (enc := c_origin_Outer) (f := fun a => origin_Outer a) (e := e_origin_Outer) (a := a0) c_origin_Outer_inj H⟩
noncomputable def origin_At_j2 (x2 : Int) (x3 : Int) : (List Int) → Option (((List Int) × Int × Int) ⊕ (List Int))
  | x4 => some (.inl (x4, x2, IntKind.i64.wrap (x3 + 1)))
noncomputable def origin_At_j3 (x1 : List Int) (x2 : Int) (x3 : Int) : Bool → Option (((List Int) × Int × Int) ⊕ (List Int))
  | x5 => if x5 = true then if (x1.length + [x3].length) * 8 ≤ 140737488355328 then origin_At_j2 x2 x3 (x1 ++ [x3]) else none else origin_At_j2 x2 x3 x1
noncomputable def origin_At_b1 (a0 : List Token) (a1 : Int) (a2 : Int) : ((List Int) × Int × Int) → Option (((List Int) × Int × Int) ⊕ (List Int))
  | (x1, x2, x3) => if (ltI x3 x2) = true then if (0 : Int) ≤ x3 ∧ x3.toNat < a0.length then if (eqI ((a0.getD x3.toNat default).Made) 0) = true then if (eqI ((a0.getD x3.toNat default).File) a1) = true then if (leI ((a0.getD x3.toNat default).At) a2) = true then origin_At_j3 x1 x2 x3 (ltI a2 ((a0.getD x3.toNat default).End)) else origin_At_j3 x1 x2 x3 false else origin_At_j3 x1 x2 x3 false else origin_At_j3 x1 x2 x3 false else none else inrO (some x1)
noncomputable def origin_At (a0 : List Token) (a1 : Int) (a2 : Int) : Option (List Int) :=
  loopO (origin_At_b1 a0 a1 a2) (([] : List Int), (a0.length : Int), 0)
def e_origin_At : (List Int) → D := fun r => (dL 1 dI) r
def c_origin_At : (List Token) × Int × Int → List D := fun a => [(dL 11 d_Token) a.1, dI a.2.1, dI a.2.2]
theorem c_origin_At_inj : Inj c_origin_At := by rintro ⟨a0, a1, a2⟩ ⟨b0, b1, b2⟩ h; simp only [c_origin_At, List.map_cons, List.map_nil, List.cons.injEq, and_true] at h; obtain ⟨h0, h1, h2⟩ := h; obtain rfl := (dL_inj (sz := 0) d_Token_inj _ _) h0; obtain rfl := (dI_inj _ _) h1; obtain rfl := (dI_inj _ _) h2; rfl
noncomputable def pf_origin_At : PF := PF.of c_origin_At (fun a => origin_At a.1 a.2.1 a.2.2) e_origin_At
noncomputable def t_origin_At : Tab := tabOf Try.prog [] []
theorem t_origin_At_ok : TabOk t_origin_At := tabOf_ok (by exact trivial) (by exact trivial)
theorem y_origin_At : ((((((type_of% @tAgg_3) ∧ (type_of% @tAgg_37)) ∧ ((type_of% @tBytes_3) ∧ (type_of% @tBytes_37))) ∧ (((type_of% @tCS_3) ∧ (type_of% @tCS_37)) ∧ ((type_of% @tElem_22) ∧ ((type_of% @tElem_33) ∧ (type_of% @tFld_37_10))))) ∧ ((((type_of% @tFld_37_4) ∧ (type_of% @tFld_37_5)) ∧ ((type_of% @tFld_37_6) ∧ (type_of% @tKnown_3))) ∧ (((type_of% @tKnown_37) ∧ (type_of% @tOff_37_10)) ∧ ((type_of% @tOff_37_4) ∧ ((type_of% @tOff_37_5) ∧ (type_of% @tOff_37_6)))))) ∧ (((((type_of% @tSize_3) ∧ (type_of% @tSize_37)) ∧ ((type_of% @tSlice_22) ∧ (type_of% @tSlice_33))) ∧ (((type_of% @tStruct_37_10) ∧ (type_of% @tStruct_37_4)) ∧ ((type_of% @tStruct_37_5) ∧ ((type_of% @tStruct_37_6) ∧ (type_of% @tZ_3))))) ∧ ((((type_of% @tZ_37) ∧ (type_of% @tZok_3)) ∧ ((type_of% @tZok_37) ∧ ((type_of% @d_Spliced.eq_1) ∧ (type_of% @d_Call.eq_1)))) ∧ (((type_of% @d_Token.eq_1) ∧ (type_of% @d_Source.eq_1)) ∧ ((type_of% @t_origin_At.eq_1) ∧ ((type_of% @c_origin_At.eq_1) ∧ (type_of% @e_origin_At.eq_1))))))) := ⟨⟨⟨⟨⟨@tAgg_3, @tAgg_37⟩, ⟨@tBytes_3, @tBytes_37⟩⟩, ⟨⟨@tCS_3, @tCS_37⟩, ⟨@tElem_22, ⟨@tElem_33, @tFld_37_10⟩⟩⟩⟩, ⟨⟨⟨@tFld_37_4, @tFld_37_5⟩, ⟨@tFld_37_6, @tKnown_3⟩⟩, ⟨⟨@tKnown_37, @tOff_37_10⟩, ⟨@tOff_37_4, ⟨@tOff_37_5, @tOff_37_6⟩⟩⟩⟩⟩, ⟨⟨⟨⟨@tSize_3, @tSize_37⟩, ⟨@tSlice_22, @tSlice_33⟩⟩, ⟨⟨@tStruct_37_10, @tStruct_37_4⟩, ⟨@tStruct_37_5, ⟨@tStruct_37_6, @tZ_3⟩⟩⟩⟩, ⟨⟨⟨@tZ_37, @tZok_3⟩, ⟨@tZok_37, ⟨@d_Spliced.eq_1, @d_Call.eq_1⟩⟩⟩, ⟨⟨@d_Token.eq_1, @d_Source.eq_1⟩, ⟨@t_origin_At.eq_1, ⟨@c_origin_At.eq_1, @e_origin_At.eq_1⟩⟩⟩⟩⟩⟩
set_option maxRecDepth 100000 in
set_option maxHeartbeats 4000000 in
theorem origin_At_ok : PureOk Try.prog 28 pf_origin_At := by
  refine pure_of (t := t_origin_At) (pure := fun n => [].contains n) c_origin_At_inj rfl t_origin_At_ok mixed (fun n hn => tabOf_pure rfl n hn) Try.func28 rfl (by kernel_rfl) (fun a => by simp [c_origin_At, Try.ntmps28]) ?_
  rintro ⟨a0, a1, a2⟩ out H
  simp only [origin_At] at H
  show aC _ _ (sig0 (List.map (fun d => AV.c (C.d d)) (c_origin_At (a0, a1, a2)))) _ _
  refine w_seq ?_
  refine w_region rfl (fun K hK => ?_)
  simp -implicitDefEqProofs only [goR, ↓upd_at, if_true, if_false, reduceCtorEq, ↓reduceIte, Nat.reduceEqDiff, Nat.reduceAdd, Nat.reduceSub, Nat.reduceMul, Nat.reduceBEq, Nat.reduceLT, Nat.reduceLeDiff, Int.reduceToNat, Int.reduceLE, Int.reduceLT, Int.reduceEq, Int.reduceNeg, ← List.map_drop, ← List.map_take, UInt8.reduceToNat, true_implies, implies_true, List.append_eq, y_origin_At]
  (repeat' (first | ((with_reducible refine hK _ _ ?_); clear hK K) | (with_reducible apply And.intro) | (exact trivial) | (clear hK K; assumption) | (clear hK K; omega)))
  refine then_normal ?_
  refine w_seq ?_
  refine w_region rfl (fun K hK => ?_)
  simp -implicitDefEqProofs only [goR, ↓upd_at, if_true, if_false, reduceCtorEq, ↓reduceIte, Nat.reduceEqDiff, Nat.reduceAdd, Nat.reduceSub, Nat.reduceMul, Nat.reduceBEq, Nat.reduceLT, Nat.reduceLeDiff, Int.reduceToNat, Int.reduceLE, Int.reduceLT, Int.reduceEq, Int.reduceNeg, ← List.map_drop, ← List.map_take, UInt8.reduceToNat, true_implies, implies_true, List.append_eq, y_origin_At]
  (repeat' (first | ((with_reducible refine hK _ _ ?_); clear hK K) | (with_reducible apply And.intro) | (exact trivial) | (clear hK K; assumption) | (clear hK K; omega)))
  refine then_normal ?_
  refine w_seq ?_
  refine w_seq ?_
  refine w_region rfl (fun K hK => ?_)
  simp -implicitDefEqProofs only [goR, ↓upd_at, if_true, if_false, reduceCtorEq, ↓reduceIte, Nat.reduceEqDiff, Nat.reduceAdd, Nat.reduceSub, Nat.reduceMul, Nat.reduceBEq, Nat.reduceLT, Nat.reduceLeDiff, Int.reduceToNat, Int.reduceLE, Int.reduceLT, Int.reduceEq, Int.reduceNeg, ← List.map_drop, ← List.map_take, UInt8.reduceToNat, true_implies, implies_true, List.append_eq, y_origin_At]
  (repeat' (first | ((with_reducible refine hK _ _ ?_); clear hK K) | (with_reducible apply And.intro) | (exact trivial) | (clear hK K; assumption) | (clear hK K; omega)))
  refine then_normal ?_
  refine w_block ?_
  refine w_loop (origin_At_b1 a0 a1 a2) (fun s => [(1, .c (.d (.v (.int .i64 a1)))), (2, .c (.d (.v (.int .i64 a2)))), (7, .c (.sl 1 (List.map dI s.1) 1)), (10, .c (.d (.sl 11 (List.map d_Token a0)))), (11, .c (.d (.v (.int .i64 s.2.1)))), (12, .c (.d (.v (.int .i64 s.2.2))))]) (fun s => []) [3] H ?_ ?_
  · exact wk_ren ⟨[], [0]⟩ rfl rfl rfl rfl rfl (by simp -implicitDefEqProofs only [goW, goR, ↓upd_at, if_true, if_false, reduceCtorEq, ↓reduceIte, Nat.reduceEqDiff, Nat.reduceAdd, Nat.reduceSub, Nat.reduceMul, Nat.reduceBEq, Nat.reduceLT, Nat.reduceLeDiff, Int.reduceToNat, Int.reduceLE, Int.reduceLT, Int.reduceEq, Int.reduceNeg, ← List.map_drop, ← List.map_take, UInt8.reduceToNat, true_implies, implies_true, List.append_eq, y_origin_At]) (by simp -implicitDefEqProofs only [goW, goR, ↓upd_at, if_true, if_false, reduceCtorEq, ↓reduceIte, Nat.reduceEqDiff, Nat.reduceAdd, Nat.reduceSub, Nat.reduceMul, Nat.reduceBEq, Nat.reduceLT, Nat.reduceLeDiff, Int.reduceToNat, Int.reduceLE, Int.reduceLT, Int.reduceEq, Int.reduceNeg, ← List.map_drop, ← List.map_take, UInt8.reduceToNat, true_implies, implies_true, List.append_eq, y_origin_At]) (by simp -implicitDefEqProofs only [goW, goR, ↓upd_at, if_true, if_false, reduceCtorEq, ↓reduceIte, Nat.reduceEqDiff, Nat.reduceAdd, Nat.reduceSub, Nat.reduceMul, Nat.reduceBEq, Nat.reduceLT, Nat.reduceLeDiff, Int.reduceToNat, Int.reduceLE, Int.reduceLT, Int.reduceEq, Int.reduceNeg, ← List.map_drop, ← List.map_take, UInt8.reduceToNat, true_implies, implies_true, List.append_eq, y_origin_At]) rfl
  · rintro n1 ⟨x1, x2, x3⟩ o1 H hF1
    rw [origin_At_b1] at H
    refine w_seq ?_
    refine w_region rfl (fun K hK => ?_)
    simp -implicitDefEqProofs only [goR, ↓upd_at, if_true, if_false, reduceCtorEq, ↓reduceIte, Nat.reduceEqDiff, Nat.reduceAdd, Nat.reduceSub, Nat.reduceMul, Nat.reduceBEq, Nat.reduceLT, Nat.reduceLeDiff, Int.reduceToNat, Int.reduceLE, Int.reduceLT, Int.reduceEq, Int.reduceNeg, ← List.map_drop, ← List.map_take, UInt8.reduceToNat, true_implies, implies_true, List.append_eq, y_origin_At]
    (repeat' (first | ((with_reducible refine hK _ _ ?_); clear hK K) | (with_reducible apply And.intro) | (exact trivial) | (clear hK K; assumption) | (clear hK K; omega)))
    refine then_normal ?_
    refine w_seq ?_
    rcases bsplit H with ⟨hp1, H⟩ | ⟨hp1, H⟩
    · try simp -implicitDefEqProofs only [goR, ↓upd_at, if_true, if_false, reduceCtorEq, ↓reduceIte, Nat.reduceEqDiff, Nat.reduceAdd, Nat.reduceSub, Nat.reduceMul, Nat.reduceBEq, Nat.reduceLT, Nat.reduceLeDiff, Int.reduceToNat, Int.reduceLE, Int.reduceLT, Int.reduceEq, Int.reduceNeg, ← List.map_drop, ← List.map_take, UInt8.reduceToNat, true_implies, implies_true, List.append_eq, y_origin_At] at hp1
      have hq1 := hp1
      try simp only [goT] at hq1
      refine w_condT (by simp -implicitDefEqProofs only [goR, ↓upd_at, if_true, if_false, reduceCtorEq, ↓reduceIte, Nat.reduceEqDiff, Nat.reduceAdd, Nat.reduceSub, Nat.reduceMul, Nat.reduceBEq, Nat.reduceLT, Nat.reduceLeDiff, Int.reduceToNat, Int.reduceLE, Int.reduceLT, Int.reduceEq, Int.reduceNeg, ← List.map_drop, ← List.map_take, UInt8.reduceToNat, true_implies, implies_true, List.append_eq, y_origin_At, hp1]) ?_
      refine w_skip ?_
      refine then_normal ?_
      refine w_cut (origin_At_j2 x2 x3) (fun s => [(1, .c (.d (.v (.int .i64 a1)))), (2, .c (.d (.v (.int .i64 a2)))), (7, .c (.sl 1 (List.map dI s) 1)), (10, .c (.d (.sl 11 (List.map d_Token a0)))), (11, .c (.d (.v (.int .i64 x2)))), (12, .c (.d (.v (.int .i64 x3))))]) (fun s => []) [3] o1 ?_ ?_
      · refine w_block ?_
        refine w_seq ?_
        obtain ⟨hg1, H⟩ := gsplit H
        have g1 := map_getD d_Token a0 x3.toNat default default (by omega)
        refine w_region rfl (fun K hK => ?_)
        simp -implicitDefEqProofs only [goR, ↓upd_at, if_true, if_false, reduceCtorEq, ↓reduceIte, Nat.reduceEqDiff, Nat.reduceAdd, Nat.reduceSub, Nat.reduceMul, Nat.reduceBEq, Nat.reduceLT, Nat.reduceLeDiff, Int.reduceToNat, Int.reduceLE, Int.reduceLT, Int.reduceEq, Int.reduceNeg, ← List.map_drop, ← List.map_take, UInt8.reduceToNat, true_implies, implies_true, List.append_eq, y_origin_At, g1]
        (repeat' (first | ((with_reducible refine hK _ _ ?_); clear hK K) | (with_reducible apply And.intro) | (exact trivial) | (clear hK K; assumption) | (clear hK K; omega)))
        refine then_normal ?_
        refine w_cut (origin_At_j3 x1 x2 x3) (fun s => [(1, .c (.d (.v (.int .i64 a1)))), (2, .c (.d (.v (.int .i64 a2)))), (7, .c (.sl 1 (List.map dI x1) 1)), (8, .c (.d (.v (.int .i64 x3)))), (10, .c (.d (.sl 11 (List.map d_Token a0)))), (11, .c (.d (.v (.int .i64 x2)))), (12, .c (.d (.v (.int .i64 x3)))), (37, .c (.d (.v (.bool s))))]) (fun s => []) [3] o1 ?_ ?_
        · rcases bsplit H with ⟨hp3, H⟩ | ⟨hp3, H⟩
          · try simp -implicitDefEqProofs only [goR, ↓upd_at, if_true, if_false, reduceCtorEq, ↓reduceIte, Nat.reduceEqDiff, Nat.reduceAdd, Nat.reduceSub, Nat.reduceMul, Nat.reduceBEq, Nat.reduceLT, Nat.reduceLeDiff, Int.reduceToNat, Int.reduceLE, Int.reduceLT, Int.reduceEq, Int.reduceNeg, ← List.map_drop, ← List.map_take, UInt8.reduceToNat, true_implies, implies_true, List.append_eq, y_origin_At] at hp3
            have hq3 := hp3
            try simp only [goT] at hq3
            rcases bsplit H with ⟨hp4, H⟩ | ⟨hp4, H⟩
            · try simp -implicitDefEqProofs only [goR, ↓upd_at, if_true, if_false, reduceCtorEq, ↓reduceIte, Nat.reduceEqDiff, Nat.reduceAdd, Nat.reduceSub, Nat.reduceMul, Nat.reduceBEq, Nat.reduceLT, Nat.reduceLeDiff, Int.reduceToNat, Int.reduceLE, Int.reduceLT, Int.reduceEq, Int.reduceNeg, ← List.map_drop, ← List.map_take, UInt8.reduceToNat, true_implies, implies_true, List.append_eq, y_origin_At] at hp4
              have hq4 := hp4
              try simp only [goT] at hq4
              rcases bsplit H with ⟨hp5, H⟩ | ⟨hp5, H⟩
              · try simp -implicitDefEqProofs only [goR, ↓upd_at, if_true, if_false, reduceCtorEq, ↓reduceIte, Nat.reduceEqDiff, Nat.reduceAdd, Nat.reduceSub, Nat.reduceMul, Nat.reduceBEq, Nat.reduceLT, Nat.reduceLeDiff, Int.reduceToNat, Int.reduceLE, Int.reduceLT, Int.reduceEq, Int.reduceNeg, ← List.map_drop, ← List.map_take, UInt8.reduceToNat, true_implies, implies_true, List.append_eq, y_origin_At] at hp5
                have hq5 := hp5
                try simp only [goT] at hq5
                refine w_region rfl (fun K hK => ?_)
                simp -implicitDefEqProofs only [goR, ↓upd_at, if_true, if_false, reduceCtorEq, ↓reduceIte, Nat.reduceEqDiff, Nat.reduceAdd, Nat.reduceSub, Nat.reduceMul, Nat.reduceBEq, Nat.reduceLT, Nat.reduceLeDiff, Int.reduceToNat, Int.reduceLE, Int.reduceLT, Int.reduceEq, Int.reduceNeg, ← List.map_drop, ← List.map_take, UInt8.reduceToNat, true_implies, implies_true, List.append_eq, y_origin_At, hp3, hp4, hp5]
                (repeat' (first | ((with_reducible refine hK _ _ ?_); clear hK K) | (with_reducible apply And.intro) | (exact trivial) | (clear hK K; assumption) | (clear hK K; omega)))
                refine cut_at H ?_
                exact wk_ren ⟨[], [1]⟩ rfl rfl rfl rfl rfl (by simp -implicitDefEqProofs only [goW, goR, ↓upd_at, if_true, if_false, reduceCtorEq, ↓reduceIte, Nat.reduceEqDiff, Nat.reduceAdd, Nat.reduceSub, Nat.reduceMul, Nat.reduceBEq, Nat.reduceLT, Nat.reduceLeDiff, Int.reduceToNat, Int.reduceLE, Int.reduceLT, Int.reduceEq, Int.reduceNeg, ← List.map_drop, ← List.map_take, UInt8.reduceToNat, true_implies, implies_true, List.append_eq, y_origin_At]) (by simp -implicitDefEqProofs only [goW, goR, ↓upd_at, if_true, if_false, reduceCtorEq, ↓reduceIte, Nat.reduceEqDiff, Nat.reduceAdd, Nat.reduceSub, Nat.reduceMul, Nat.reduceBEq, Nat.reduceLT, Nat.reduceLeDiff, Int.reduceToNat, Int.reduceLE, Int.reduceLT, Int.reduceEq, Int.reduceNeg, ← List.map_drop, ← List.map_take, UInt8.reduceToNat, true_implies, implies_true, List.append_eq, y_origin_At]) (by simp -implicitDefEqProofs only [goW, goR, ↓upd_at, if_true, if_false, reduceCtorEq, ↓reduceIte, Nat.reduceEqDiff, Nat.reduceAdd, Nat.reduceSub, Nat.reduceMul, Nat.reduceBEq, Nat.reduceLT, Nat.reduceLeDiff, Int.reduceToNat, Int.reduceLE, Int.reduceLT, Int.reduceEq, Int.reduceNeg, ← List.map_drop, ← List.map_take, UInt8.reduceToNat, true_implies, implies_true, List.append_eq, y_origin_At]) rfl
              · try simp -implicitDefEqProofs only [goR, ↓upd_at, if_true, if_false, reduceCtorEq, ↓reduceIte, Nat.reduceEqDiff, Nat.reduceAdd, Nat.reduceSub, Nat.reduceMul, Nat.reduceBEq, Nat.reduceLT, Nat.reduceLeDiff, Int.reduceToNat, Int.reduceLE, Int.reduceLT, Int.reduceEq, Int.reduceNeg, ← List.map_drop, ← List.map_take, UInt8.reduceToNat, true_implies, implies_true, List.append_eq, y_origin_At] at hp5
                have hq5 := hp5
                try simp only [goT] at hq5
                refine w_region rfl (fun K hK => ?_)
                simp -implicitDefEqProofs only [goR, ↓upd_at, if_true, if_false, reduceCtorEq, ↓reduceIte, Nat.reduceEqDiff, Nat.reduceAdd, Nat.reduceSub, Nat.reduceMul, Nat.reduceBEq, Nat.reduceLT, Nat.reduceLeDiff, Int.reduceToNat, Int.reduceLE, Int.reduceLT, Int.reduceEq, Int.reduceNeg, ← List.map_drop, ← List.map_take, UInt8.reduceToNat, true_implies, implies_true, List.append_eq, y_origin_At, hp3, hp4, hp5]
                (repeat' (first | ((with_reducible refine hK _ _ ?_); clear hK K) | (with_reducible apply And.intro) | (exact trivial) | (clear hK K; assumption) | (clear hK K; omega)))
                refine cut_at H ?_
                exact wk_ren ⟨[], [1]⟩ rfl rfl rfl rfl rfl (by simp -implicitDefEqProofs only [goW, goR, ↓upd_at, if_true, if_false, reduceCtorEq, ↓reduceIte, Nat.reduceEqDiff, Nat.reduceAdd, Nat.reduceSub, Nat.reduceMul, Nat.reduceBEq, Nat.reduceLT, Nat.reduceLeDiff, Int.reduceToNat, Int.reduceLE, Int.reduceLT, Int.reduceEq, Int.reduceNeg, ← List.map_drop, ← List.map_take, UInt8.reduceToNat, true_implies, implies_true, List.append_eq, y_origin_At]) (by simp -implicitDefEqProofs only [goW, goR, ↓upd_at, if_true, if_false, reduceCtorEq, ↓reduceIte, Nat.reduceEqDiff, Nat.reduceAdd, Nat.reduceSub, Nat.reduceMul, Nat.reduceBEq, Nat.reduceLT, Nat.reduceLeDiff, Int.reduceToNat, Int.reduceLE, Int.reduceLT, Int.reduceEq, Int.reduceNeg, ← List.map_drop, ← List.map_take, UInt8.reduceToNat, true_implies, implies_true, List.append_eq, y_origin_At]) (by simp -implicitDefEqProofs only [goW, goR, ↓upd_at, if_true, if_false, reduceCtorEq, ↓reduceIte, Nat.reduceEqDiff, Nat.reduceAdd, Nat.reduceSub, Nat.reduceMul, Nat.reduceBEq, Nat.reduceLT, Nat.reduceLeDiff, Int.reduceToNat, Int.reduceLE, Int.reduceLT, Int.reduceEq, Int.reduceNeg, ← List.map_drop, ← List.map_take, UInt8.reduceToNat, true_implies, implies_true, List.append_eq, y_origin_At]) rfl
            · try simp -implicitDefEqProofs only [goR, ↓upd_at, if_true, if_false, reduceCtorEq, ↓reduceIte, Nat.reduceEqDiff, Nat.reduceAdd, Nat.reduceSub, Nat.reduceMul, Nat.reduceBEq, Nat.reduceLT, Nat.reduceLeDiff, Int.reduceToNat, Int.reduceLE, Int.reduceLT, Int.reduceEq, Int.reduceNeg, ← List.map_drop, ← List.map_take, UInt8.reduceToNat, true_implies, implies_true, List.append_eq, y_origin_At] at hp4
              have hq4 := hp4
              try simp only [goT] at hq4
              refine w_region rfl (fun K hK => ?_)
              simp -implicitDefEqProofs only [goR, ↓upd_at, if_true, if_false, reduceCtorEq, ↓reduceIte, Nat.reduceEqDiff, Nat.reduceAdd, Nat.reduceSub, Nat.reduceMul, Nat.reduceBEq, Nat.reduceLT, Nat.reduceLeDiff, Int.reduceToNat, Int.reduceLE, Int.reduceLT, Int.reduceEq, Int.reduceNeg, ← List.map_drop, ← List.map_take, UInt8.reduceToNat, true_implies, implies_true, List.append_eq, y_origin_At, hp3, hp4]
              (repeat' (first | ((with_reducible refine hK _ _ ?_); clear hK K) | (with_reducible apply And.intro) | (exact trivial) | (clear hK K; assumption) | (clear hK K; omega)))
              refine cut_at H ?_
              exact wk_ren ⟨[], [1]⟩ rfl rfl rfl rfl rfl (by simp -implicitDefEqProofs only [goW, goR, ↓upd_at, if_true, if_false, reduceCtorEq, ↓reduceIte, Nat.reduceEqDiff, Nat.reduceAdd, Nat.reduceSub, Nat.reduceMul, Nat.reduceBEq, Nat.reduceLT, Nat.reduceLeDiff, Int.reduceToNat, Int.reduceLE, Int.reduceLT, Int.reduceEq, Int.reduceNeg, ← List.map_drop, ← List.map_take, UInt8.reduceToNat, true_implies, implies_true, List.append_eq, y_origin_At]) (by simp -implicitDefEqProofs only [goW, goR, ↓upd_at, if_true, if_false, reduceCtorEq, ↓reduceIte, Nat.reduceEqDiff, Nat.reduceAdd, Nat.reduceSub, Nat.reduceMul, Nat.reduceBEq, Nat.reduceLT, Nat.reduceLeDiff, Int.reduceToNat, Int.reduceLE, Int.reduceLT, Int.reduceEq, Int.reduceNeg, ← List.map_drop, ← List.map_take, UInt8.reduceToNat, true_implies, implies_true, List.append_eq, y_origin_At]) (by simp -implicitDefEqProofs only [goW, goR, ↓upd_at, if_true, if_false, reduceCtorEq, ↓reduceIte, Nat.reduceEqDiff, Nat.reduceAdd, Nat.reduceSub, Nat.reduceMul, Nat.reduceBEq, Nat.reduceLT, Nat.reduceLeDiff, Int.reduceToNat, Int.reduceLE, Int.reduceLT, Int.reduceEq, Int.reduceNeg, ← List.map_drop, ← List.map_take, UInt8.reduceToNat, true_implies, implies_true, List.append_eq, y_origin_At]) rfl
          · try simp -implicitDefEqProofs only [goR, ↓upd_at, if_true, if_false, reduceCtorEq, ↓reduceIte, Nat.reduceEqDiff, Nat.reduceAdd, Nat.reduceSub, Nat.reduceMul, Nat.reduceBEq, Nat.reduceLT, Nat.reduceLeDiff, Int.reduceToNat, Int.reduceLE, Int.reduceLT, Int.reduceEq, Int.reduceNeg, ← List.map_drop, ← List.map_take, UInt8.reduceToNat, true_implies, implies_true, List.append_eq, y_origin_At] at hp3
            have hq3 := hp3
            try simp only [goT] at hq3
            refine w_region rfl (fun K hK => ?_)
            simp -implicitDefEqProofs only [goR, ↓upd_at, if_true, if_false, reduceCtorEq, ↓reduceIte, Nat.reduceEqDiff, Nat.reduceAdd, Nat.reduceSub, Nat.reduceMul, Nat.reduceBEq, Nat.reduceLT, Nat.reduceLeDiff, Int.reduceToNat, Int.reduceLE, Int.reduceLT, Int.reduceEq, Int.reduceNeg, ← List.map_drop, ← List.map_take, UInt8.reduceToNat, true_implies, implies_true, List.append_eq, y_origin_At, hp3]
            (repeat' (first | ((with_reducible refine hK _ _ ?_); clear hK K) | (with_reducible apply And.intro) | (exact trivial) | (clear hK K; assumption) | (clear hK K; omega)))
            refine cut_at H ?_
            exact wk_ren ⟨[], [1]⟩ rfl rfl rfl rfl rfl (by simp -implicitDefEqProofs only [goW, goR, ↓upd_at, if_true, if_false, reduceCtorEq, ↓reduceIte, Nat.reduceEqDiff, Nat.reduceAdd, Nat.reduceSub, Nat.reduceMul, Nat.reduceBEq, Nat.reduceLT, Nat.reduceLeDiff, Int.reduceToNat, Int.reduceLE, Int.reduceLT, Int.reduceEq, Int.reduceNeg, ← List.map_drop, ← List.map_take, UInt8.reduceToNat, true_implies, implies_true, List.append_eq, y_origin_At]) (by simp -implicitDefEqProofs only [goW, goR, ↓upd_at, if_true, if_false, reduceCtorEq, ↓reduceIte, Nat.reduceEqDiff, Nat.reduceAdd, Nat.reduceSub, Nat.reduceMul, Nat.reduceBEq, Nat.reduceLT, Nat.reduceLeDiff, Int.reduceToNat, Int.reduceLE, Int.reduceLT, Int.reduceEq, Int.reduceNeg, ← List.map_drop, ← List.map_take, UInt8.reduceToNat, true_implies, implies_true, List.append_eq, y_origin_At]) (by simp -implicitDefEqProofs only [goW, goR, ↓upd_at, if_true, if_false, reduceCtorEq, ↓reduceIte, Nat.reduceEqDiff, Nat.reduceAdd, Nat.reduceSub, Nat.reduceMul, Nat.reduceBEq, Nat.reduceLT, Nat.reduceLeDiff, Int.reduceToNat, Int.reduceLE, Int.reduceLT, Int.reduceEq, Int.reduceNeg, ← List.map_drop, ← List.map_take, UInt8.reduceToNat, true_implies, implies_true, List.append_eq, y_origin_At]) rfl
        · rintro x5 H
          rw [origin_At_j3] at H
          rcases bsplit H with ⟨hp2, H⟩ | ⟨hp2, H⟩
          · try simp -implicitDefEqProofs only [goR, ↓upd_at, if_true, if_false, reduceCtorEq, ↓reduceIte, Nat.reduceEqDiff, Nat.reduceAdd, Nat.reduceSub, Nat.reduceMul, Nat.reduceBEq, Nat.reduceLT, Nat.reduceLeDiff, Int.reduceToNat, Int.reduceLE, Int.reduceLT, Int.reduceEq, Int.reduceNeg, ← List.map_drop, ← List.map_take, UInt8.reduceToNat, true_implies, implies_true, List.append_eq, y_origin_At] at hp2
            have hq2 := hp2
            try simp only [goT] at hq2
            refine w_condT (by simp -implicitDefEqProofs only [goR, ↓upd_at, if_true, if_false, reduceCtorEq, ↓reduceIte, Nat.reduceEqDiff, Nat.reduceAdd, Nat.reduceSub, Nat.reduceMul, Nat.reduceBEq, Nat.reduceLT, Nat.reduceLeDiff, Int.reduceToNat, Int.reduceLE, Int.reduceLT, Int.reduceEq, Int.reduceNeg, ← List.map_drop, ← List.map_take, UInt8.reduceToNat, true_implies, implies_true, List.append_eq, y_origin_At, hp2]) ?_
            obtain ⟨hg2, H⟩ := gsplit H
            have g2 := all_map one_dI [x3]
            refine w_region rfl (fun K hK => ?_)
            simp -implicitDefEqProofs only [goR, ↓upd_at, if_true, if_false, reduceCtorEq, ↓reduceIte, Nat.reduceEqDiff, Nat.reduceAdd, Nat.reduceSub, Nat.reduceMul, Nat.reduceBEq, Nat.reduceLT, Nat.reduceLeDiff, Int.reduceToNat, Int.reduceLE, Int.reduceLT, Int.reduceEq, Int.reduceNeg, ← List.map_drop, ← List.map_take, UInt8.reduceToNat, true_implies, implies_true, List.append_eq, y_origin_At, g2]
            (repeat' (first | ((with_reducible refine hK _ _ ?_); clear hK K) | (with_reducible apply And.intro) | (exact trivial) | (clear hK K; assumption) | (clear hK K; omega)))
            refine block_normal ?_
            refine cut_at H ?_
            exact wk_ren ⟨[], [2]⟩ rfl rfl rfl rfl rfl (by simp -implicitDefEqProofs only [goW, goR, ↓upd_at, if_true, if_false, reduceCtorEq, ↓reduceIte, Nat.reduceEqDiff, Nat.reduceAdd, Nat.reduceSub, Nat.reduceMul, Nat.reduceBEq, Nat.reduceLT, Nat.reduceLeDiff, Int.reduceToNat, Int.reduceLE, Int.reduceLT, Int.reduceEq, Int.reduceNeg, ← List.map_drop, ← List.map_take, UInt8.reduceToNat, true_implies, implies_true, List.append_eq, y_origin_At]) (by simp -implicitDefEqProofs only [goW, goR, ↓upd_at, if_true, if_false, reduceCtorEq, ↓reduceIte, Nat.reduceEqDiff, Nat.reduceAdd, Nat.reduceSub, Nat.reduceMul, Nat.reduceBEq, Nat.reduceLT, Nat.reduceLeDiff, Int.reduceToNat, Int.reduceLE, Int.reduceLT, Int.reduceEq, Int.reduceNeg, ← List.map_drop, ← List.map_take, UInt8.reduceToNat, true_implies, implies_true, List.append_eq, y_origin_At]) (by simp -implicitDefEqProofs only [goW, goR, ↓upd_at, if_true, if_false, reduceCtorEq, ↓reduceIte, Nat.reduceEqDiff, Nat.reduceAdd, Nat.reduceSub, Nat.reduceMul, Nat.reduceBEq, Nat.reduceLT, Nat.reduceLeDiff, Int.reduceToNat, Int.reduceLE, Int.reduceLT, Int.reduceEq, Int.reduceNeg, ← List.map_drop, ← List.map_take, UInt8.reduceToNat, true_implies, implies_true, List.append_eq, y_origin_At]) rfl
          · try simp -implicitDefEqProofs only [goR, ↓upd_at, if_true, if_false, reduceCtorEq, ↓reduceIte, Nat.reduceEqDiff, Nat.reduceAdd, Nat.reduceSub, Nat.reduceMul, Nat.reduceBEq, Nat.reduceLT, Nat.reduceLeDiff, Int.reduceToNat, Int.reduceLE, Int.reduceLT, Int.reduceEq, Int.reduceNeg, ← List.map_drop, ← List.map_take, UInt8.reduceToNat, true_implies, implies_true, List.append_eq, y_origin_At] at hp2
            have hq2 := hp2
            try simp only [goT] at hq2
            refine w_condF (by simp -implicitDefEqProofs only [goR, ↓upd_at, if_true, if_false, reduceCtorEq, ↓reduceIte, Nat.reduceEqDiff, Nat.reduceAdd, Nat.reduceSub, Nat.reduceMul, Nat.reduceBEq, Nat.reduceLT, Nat.reduceLeDiff, Int.reduceToNat, Int.reduceLE, Int.reduceLT, Int.reduceEq, Int.reduceNeg, ← List.map_drop, ← List.map_take, UInt8.reduceToNat, true_implies, implies_true, List.append_eq, y_origin_At, hp2]) ?_
            refine w_skip ?_
            refine block_normal ?_
            refine cut_at H ?_
            exact wk_ren ⟨[], [1]⟩ rfl rfl rfl rfl rfl (by simp -implicitDefEqProofs only [goW, goR, ↓upd_at, if_true, if_false, reduceCtorEq, ↓reduceIte, Nat.reduceEqDiff, Nat.reduceAdd, Nat.reduceSub, Nat.reduceMul, Nat.reduceBEq, Nat.reduceLT, Nat.reduceLeDiff, Int.reduceToNat, Int.reduceLE, Int.reduceLT, Int.reduceEq, Int.reduceNeg, ← List.map_drop, ← List.map_take, UInt8.reduceToNat, true_implies, implies_true, List.append_eq, y_origin_At]) (by simp -implicitDefEqProofs only [goW, goR, ↓upd_at, if_true, if_false, reduceCtorEq, ↓reduceIte, Nat.reduceEqDiff, Nat.reduceAdd, Nat.reduceSub, Nat.reduceMul, Nat.reduceBEq, Nat.reduceLT, Nat.reduceLeDiff, Int.reduceToNat, Int.reduceLE, Int.reduceLT, Int.reduceEq, Int.reduceNeg, ← List.map_drop, ← List.map_take, UInt8.reduceToNat, true_implies, implies_true, List.append_eq, y_origin_At]) (by simp -implicitDefEqProofs only [goW, goR, ↓upd_at, if_true, if_false, reduceCtorEq, ↓reduceIte, Nat.reduceEqDiff, Nat.reduceAdd, Nat.reduceSub, Nat.reduceMul, Nat.reduceBEq, Nat.reduceLT, Nat.reduceLeDiff, Int.reduceToNat, Int.reduceLE, Int.reduceLT, Int.reduceEq, Int.reduceNeg, ← List.map_drop, ← List.map_take, UInt8.reduceToNat, true_implies, implies_true, List.append_eq, y_origin_At]) rfl
      · rintro x4 H
        rw [origin_At_j2] at H
        refine w_region rfl (fun K hK => ?_)
        simp -implicitDefEqProofs only [goR, ↓upd_at, if_true, if_false, reduceCtorEq, ↓reduceIte, Nat.reduceEqDiff, Nat.reduceAdd, Nat.reduceSub, Nat.reduceMul, Nat.reduceBEq, Nat.reduceLT, Nat.reduceLeDiff, Int.reduceToNat, Int.reduceLE, Int.reduceLT, Int.reduceEq, Int.reduceNeg, ← List.map_drop, ← List.map_take, UInt8.reduceToNat, true_implies, implies_true, List.append_eq, y_origin_At]
        (repeat' (first | ((with_reducible refine hK _ _ ?_); clear hK K) | (with_reducible apply And.intro) | (exact trivial) | (clear hK K; assumption) | (clear hK K; omega)))
        refine round_at (inl_fin H hF1) ?_
        exact wk_ren ⟨[], [1]⟩ rfl rfl rfl rfl rfl (by simp -implicitDefEqProofs only [goW, goR, ↓upd_at, if_true, if_false, reduceCtorEq, ↓reduceIte, Nat.reduceEqDiff, Nat.reduceAdd, Nat.reduceSub, Nat.reduceMul, Nat.reduceBEq, Nat.reduceLT, Nat.reduceLeDiff, Int.reduceToNat, Int.reduceLE, Int.reduceLT, Int.reduceEq, Int.reduceNeg, ← List.map_drop, ← List.map_take, UInt8.reduceToNat, true_implies, implies_true, List.append_eq, y_origin_At]) (by simp -implicitDefEqProofs only [goW, goR, ↓upd_at, if_true, if_false, reduceCtorEq, ↓reduceIte, Nat.reduceEqDiff, Nat.reduceAdd, Nat.reduceSub, Nat.reduceMul, Nat.reduceBEq, Nat.reduceLT, Nat.reduceLeDiff, Int.reduceToNat, Int.reduceLE, Int.reduceLT, Int.reduceEq, Int.reduceNeg, ← List.map_drop, ← List.map_take, UInt8.reduceToNat, true_implies, implies_true, List.append_eq, y_origin_At]) (by simp -implicitDefEqProofs only [goW, goR, ↓upd_at, if_true, if_false, reduceCtorEq, ↓reduceIte, Nat.reduceEqDiff, Nat.reduceAdd, Nat.reduceSub, Nat.reduceMul, Nat.reduceBEq, Nat.reduceLT, Nat.reduceLeDiff, Int.reduceToNat, Int.reduceLE, Int.reduceLT, Int.reduceEq, Int.reduceNeg, ← List.map_drop, ← List.map_take, UInt8.reduceToNat, true_implies, implies_true, List.append_eq, y_origin_At]) rfl
    · try simp -implicitDefEqProofs only [goR, ↓upd_at, if_true, if_false, reduceCtorEq, ↓reduceIte, Nat.reduceEqDiff, Nat.reduceAdd, Nat.reduceSub, Nat.reduceMul, Nat.reduceBEq, Nat.reduceLT, Nat.reduceLeDiff, Int.reduceToNat, Int.reduceLE, Int.reduceLT, Int.reduceEq, Int.reduceNeg, ← List.map_drop, ← List.map_take, UInt8.reduceToNat, true_implies, implies_true, List.append_eq, y_origin_At] at hp1
      have hq1 := hp1
      try simp only [goT] at hq1
      refine w_condF (by simp -implicitDefEqProofs only [goR, ↓upd_at, if_true, if_false, reduceCtorEq, ↓reduceIte, Nat.reduceEqDiff, Nat.reduceAdd, Nat.reduceSub, Nat.reduceMul, Nat.reduceBEq, Nat.reduceLT, Nat.reduceLeDiff, Int.reduceToNat, Int.reduceLE, Int.reduceLT, Int.reduceEq, Int.reduceNeg, ← List.map_drop, ← List.map_take, UInt8.reduceToNat, true_implies, implies_true, List.append_eq, y_origin_At, hp1]) ?_
      refine w_exit ?_
      refine then_exit ?_
      replace H := inrO_fin H hF1
      refine round_exit ?_
      refine block_exit ?_
      refine then_normal ?_
      refine w_seq ?_
      refine w_region rfl (fun K hK => ?_)
      simp -implicitDefEqProofs only [goR, ↓upd_at, if_true, if_false, reduceCtorEq, ↓reduceIte, Nat.reduceEqDiff, Nat.reduceAdd, Nat.reduceSub, Nat.reduceMul, Nat.reduceBEq, Nat.reduceLT, Nat.reduceLeDiff, Int.reduceToNat, Int.reduceLE, Int.reduceLT, Int.reduceEq, Int.reduceNeg, ← List.map_drop, ← List.map_take, UInt8.reduceToNat, true_implies, implies_true, List.append_eq, y_origin_At]
      (repeat' (first | ((with_reducible refine hK _ _ ?_); clear hK K) | (with_reducible apply And.intro) | (exact trivial) | (clear hK K; assumption) | (clear hK K; omega)))
      refine then_normal ?_
      refine w_ret ?_
      obtain rfl := Option.some.inj H
      simp -implicitDefEqProofs only [goQ, Try.results28, goR, ↓upd_at, if_true, if_false, reduceCtorEq, ↓reduceIte, Nat.reduceEqDiff, Nat.reduceAdd, Nat.reduceSub, Nat.reduceMul, Nat.reduceBEq, Nat.reduceLT, Nat.reduceLeDiff, Int.reduceToNat, Int.reduceLE, Int.reduceLT, Int.reduceEq, Int.reduceNeg, ← List.map_drop, ← List.map_take, UInt8.reduceToNat, true_implies, implies_true, List.append_eq, y_origin_At]
theorem origin_At_c (a0 : List Token) (a1 : Int) (a2 : Int) (r : (List Int)) (H : origin_At a0 a1 a2 = some r) : pf_origin_At.pre [(dL 11 d_Token) a0, dI a1, dI a2] = True ∧ pf_origin_At.val [(dL 11 d_Token) a0, dI a1, dI a2] = (dL 1 dI) r :=
  ⟨PF.of_pre (enc := c_origin_At) (f := fun a => origin_At a.1 a.2.1 a.2.2) (e := e_origin_At) (a := (a0, a1, a2)) H, PF.of_val (enc := c_origin_At) (f := fun a => origin_At a.1 a.2.1 a.2.2) (e := e_origin_At) (a := (a0, a1, a2)) c_origin_At_inj H⟩
theorem origin_At_cl (l : List D) (a0 : List Token) (a1 : Int) (a2 : Int) (r : (List Int)) (hl : les1 l (c_origin_At (a0, a1, a2))) (H : origin_At a0 a1 a2 = some r) : pf_origin_At.pre l = True ∧ pf_origin_At.val l = (dL 1 dI) r :=
  ⟨PF.of_prel (enc := c_origin_At) (f := fun a => origin_At a.1 a.2.1 a.2.2) (e := e_origin_At) (a := (a0, a1, a2)) hl H, PF.of_vall (enc := c_origin_At) (f := fun a => origin_At a.1 a.2.1 a.2.2) (e := e_origin_At) (a := (a0, a1, a2)) c_origin_At_inj hl H⟩
noncomputable def origin_Here_j2 (x2 : Int) (x3 : Int) : (List Int) → Option (((List Int) × Int × Int) ⊕ (List Int))
  | x4 => some (.inl (x4, x2, IntKind.i64.wrap (x3 + 1)))
noncomputable def origin_Here_b1 (a0 : List Token) : ((List Int) × Int × Int) → Option (((List Int) × Int × Int) ⊕ (List Int))
  | (x1, x2, x3) => if (ltI x3 x2) = true then if (0 : Int) ≤ x3 ∧ x3.toNat < a0.length then if (eqI (((a0.getD x3.toNat default).Calls).length : Int) 0) = true then if (x1.length + [x3].length) * 8 ≤ 140737488355328 then origin_Here_j2 x2 x3 (x1 ++ [x3]) else none else origin_Here_j2 x2 x3 x1 else none else inrO (some x1)
noncomputable def origin_Here (a0 : List Token) : Option (List Int) :=
  loopO (origin_Here_b1 a0) (([] : List Int), (a0.length : Int), 0)
def e_origin_Here : (List Int) → D := fun r => (dL 1 dI) r
def c_origin_Here : (List Token) → List D := fun a => [(dL 11 d_Token) a]
theorem c_origin_Here_inj : Inj c_origin_Here := by intro a b h; simp only [c_origin_Here, List.map_cons, List.map_nil, List.cons.injEq, and_true] at h; exact (dL_inj (sz := 0) d_Token_inj _ _) h
noncomputable def pf_origin_Here : PF := PF.of c_origin_Here (fun a => origin_Here a) e_origin_Here
noncomputable def t_origin_Here : Tab := tabOf Try.prog [] []
theorem t_origin_Here_ok : TabOk t_origin_Here := tabOf_ok (by exact trivial) (by exact trivial)
theorem y_origin_Here : ((((((type_of% @tAgg_3) ∧ (type_of% @tAgg_35)) ∧ ((type_of% @tAgg_37) ∧ ((type_of% @tAgg_44) ∧ (type_of% @tBytes_3)))) ∧ (((type_of% @tBytes_37) ∧ (type_of% @tBytes_44)) ∧ ((type_of% @tCS_3) ∧ ((type_of% @tCS_35) ∧ (type_of% @tCS_37))))) ∧ ((((type_of% @tCS_44) ∧ (type_of% @tElem_22)) ∧ ((type_of% @tElem_33) ∧ ((type_of% @tElem_35) ∧ (type_of% @tFld_37_9)))) ∧ (((type_of% @tKnown_3) ∧ (type_of% @tKnown_35)) ∧ ((type_of% @tKnown_37) ∧ ((type_of% @tKnown_44) ∧ (type_of% @tOff_37_9)))))) ∧ (((((type_of% @tSize_3) ∧ (type_of% @tSize_35)) ∧ ((type_of% @tSize_37) ∧ ((type_of% @tSize_44) ∧ (type_of% @tSlice_22)))) ∧ (((type_of% @tSlice_33) ∧ (type_of% @tSlice_35)) ∧ ((type_of% @tStruct_37_9) ∧ ((type_of% @tZ_3) ∧ (type_of% @tZ_37))))) ∧ ((((type_of% @tZ_44) ∧ (type_of% @tZok_3)) ∧ ((type_of% @tZok_37) ∧ ((type_of% @tZok_44) ∧ (type_of% @d_Spliced.eq_1)))) ∧ (((type_of% @d_Call.eq_1) ∧ ((type_of% @d_Token.eq_1) ∧ (type_of% @d_Source.eq_1))) ∧ ((type_of% @t_origin_Here.eq_1) ∧ ((type_of% @c_origin_Here.eq_1) ∧ (type_of% @e_origin_Here.eq_1))))))) := ⟨⟨⟨⟨⟨@tAgg_3, @tAgg_35⟩, ⟨@tAgg_37, ⟨@tAgg_44, @tBytes_3⟩⟩⟩, ⟨⟨@tBytes_37, @tBytes_44⟩, ⟨@tCS_3, ⟨@tCS_35, @tCS_37⟩⟩⟩⟩, ⟨⟨⟨@tCS_44, @tElem_22⟩, ⟨@tElem_33, ⟨@tElem_35, @tFld_37_9⟩⟩⟩, ⟨⟨@tKnown_3, @tKnown_35⟩, ⟨@tKnown_37, ⟨@tKnown_44, @tOff_37_9⟩⟩⟩⟩⟩, ⟨⟨⟨⟨@tSize_3, @tSize_35⟩, ⟨@tSize_37, ⟨@tSize_44, @tSlice_22⟩⟩⟩, ⟨⟨@tSlice_33, @tSlice_35⟩, ⟨@tStruct_37_9, ⟨@tZ_3, @tZ_37⟩⟩⟩⟩, ⟨⟨⟨@tZ_44, @tZok_3⟩, ⟨@tZok_37, ⟨@tZok_44, @d_Spliced.eq_1⟩⟩⟩, ⟨⟨@d_Call.eq_1, ⟨@d_Token.eq_1, @d_Source.eq_1⟩⟩, ⟨@t_origin_Here.eq_1, ⟨@c_origin_Here.eq_1, @e_origin_Here.eq_1⟩⟩⟩⟩⟩⟩
set_option maxRecDepth 100000 in
set_option maxHeartbeats 4000000 in
theorem origin_Here_ok : PureOk Try.prog 29 pf_origin_Here := by
  refine pure_of (t := t_origin_Here) (pure := fun n => [].contains n) c_origin_Here_inj rfl t_origin_Here_ok mixed (fun n hn => tabOf_pure rfl n hn) Try.func29 rfl (by kernel_rfl) (fun a => by simp [c_origin_Here, Try.ntmps29]) ?_
  rintro a0 out H
  simp only [origin_Here] at H
  show aC _ _ (sig0 (List.map (fun d => AV.c (C.d d)) (c_origin_Here a0))) _ _
  refine w_seq ?_
  refine w_region rfl (fun K hK => ?_)
  simp -implicitDefEqProofs only [goR, ↓upd_at, if_true, if_false, reduceCtorEq, ↓reduceIte, Nat.reduceEqDiff, Nat.reduceAdd, Nat.reduceSub, Nat.reduceMul, Nat.reduceBEq, Nat.reduceLT, Nat.reduceLeDiff, Int.reduceToNat, Int.reduceLE, Int.reduceLT, Int.reduceEq, Int.reduceNeg, ← List.map_drop, ← List.map_take, UInt8.reduceToNat, true_implies, implies_true, List.append_eq, y_origin_Here]
  (repeat' (first | ((with_reducible refine hK _ _ ?_); clear hK K) | (with_reducible apply And.intro) | (exact trivial) | (clear hK K; assumption) | (clear hK K; omega)))
  refine then_normal ?_
  refine w_seq ?_
  refine w_region rfl (fun K hK => ?_)
  simp -implicitDefEqProofs only [goR, ↓upd_at, if_true, if_false, reduceCtorEq, ↓reduceIte, Nat.reduceEqDiff, Nat.reduceAdd, Nat.reduceSub, Nat.reduceMul, Nat.reduceBEq, Nat.reduceLT, Nat.reduceLeDiff, Int.reduceToNat, Int.reduceLE, Int.reduceLT, Int.reduceEq, Int.reduceNeg, ← List.map_drop, ← List.map_take, UInt8.reduceToNat, true_implies, implies_true, List.append_eq, y_origin_Here]
  (repeat' (first | ((with_reducible refine hK _ _ ?_); clear hK K) | (with_reducible apply And.intro) | (exact trivial) | (clear hK K; assumption) | (clear hK K; omega)))
  refine then_normal ?_
  refine w_seq ?_
  refine w_seq ?_
  refine w_region rfl (fun K hK => ?_)
  simp -implicitDefEqProofs only [goR, ↓upd_at, if_true, if_false, reduceCtorEq, ↓reduceIte, Nat.reduceEqDiff, Nat.reduceAdd, Nat.reduceSub, Nat.reduceMul, Nat.reduceBEq, Nat.reduceLT, Nat.reduceLeDiff, Int.reduceToNat, Int.reduceLE, Int.reduceLT, Int.reduceEq, Int.reduceNeg, ← List.map_drop, ← List.map_take, UInt8.reduceToNat, true_implies, implies_true, List.append_eq, y_origin_Here]
  (repeat' (first | ((with_reducible refine hK _ _ ?_); clear hK K) | (with_reducible apply And.intro) | (exact trivial) | (clear hK K; assumption) | (clear hK K; omega)))
  refine then_normal ?_
  refine w_block ?_
  refine w_loop (origin_Here_b1 a0) (fun s => [(3, .c (.sl 1 (List.map dI s.1) 1)), (6, .c (.d (.sl 11 (List.map d_Token a0)))), (7, .c (.d (.v (.int .i64 s.2.1)))), (8, .c (.d (.v (.int .i64 s.2.2))))]) (fun s => []) [3] H ?_ ?_
  · exact wk_ren ⟨[], [0]⟩ rfl rfl rfl rfl rfl (by simp -implicitDefEqProofs only [goW, goR, ↓upd_at, if_true, if_false, reduceCtorEq, ↓reduceIte, Nat.reduceEqDiff, Nat.reduceAdd, Nat.reduceSub, Nat.reduceMul, Nat.reduceBEq, Nat.reduceLT, Nat.reduceLeDiff, Int.reduceToNat, Int.reduceLE, Int.reduceLT, Int.reduceEq, Int.reduceNeg, ← List.map_drop, ← List.map_take, UInt8.reduceToNat, true_implies, implies_true, List.append_eq, y_origin_Here]) (by simp -implicitDefEqProofs only [goW, goR, ↓upd_at, if_true, if_false, reduceCtorEq, ↓reduceIte, Nat.reduceEqDiff, Nat.reduceAdd, Nat.reduceSub, Nat.reduceMul, Nat.reduceBEq, Nat.reduceLT, Nat.reduceLeDiff, Int.reduceToNat, Int.reduceLE, Int.reduceLT, Int.reduceEq, Int.reduceNeg, ← List.map_drop, ← List.map_take, UInt8.reduceToNat, true_implies, implies_true, List.append_eq, y_origin_Here]) (by simp -implicitDefEqProofs only [goW, goR, ↓upd_at, if_true, if_false, reduceCtorEq, ↓reduceIte, Nat.reduceEqDiff, Nat.reduceAdd, Nat.reduceSub, Nat.reduceMul, Nat.reduceBEq, Nat.reduceLT, Nat.reduceLeDiff, Int.reduceToNat, Int.reduceLE, Int.reduceLT, Int.reduceEq, Int.reduceNeg, ← List.map_drop, ← List.map_take, UInt8.reduceToNat, true_implies, implies_true, List.append_eq, y_origin_Here]) rfl
  · rintro n1 ⟨x1, x2, x3⟩ o1 H hF1
    rw [origin_Here_b1] at H
    refine w_seq ?_
    refine w_region rfl (fun K hK => ?_)
    simp -implicitDefEqProofs only [goR, ↓upd_at, if_true, if_false, reduceCtorEq, ↓reduceIte, Nat.reduceEqDiff, Nat.reduceAdd, Nat.reduceSub, Nat.reduceMul, Nat.reduceBEq, Nat.reduceLT, Nat.reduceLeDiff, Int.reduceToNat, Int.reduceLE, Int.reduceLT, Int.reduceEq, Int.reduceNeg, ← List.map_drop, ← List.map_take, UInt8.reduceToNat, true_implies, implies_true, List.append_eq, y_origin_Here]
    (repeat' (first | ((with_reducible refine hK _ _ ?_); clear hK K) | (with_reducible apply And.intro) | (exact trivial) | (clear hK K; assumption) | (clear hK K; omega)))
    refine then_normal ?_
    refine w_seq ?_
    rcases bsplit H with ⟨hp1, H⟩ | ⟨hp1, H⟩
    · try simp -implicitDefEqProofs only [goR, ↓upd_at, if_true, if_false, reduceCtorEq, ↓reduceIte, Nat.reduceEqDiff, Nat.reduceAdd, Nat.reduceSub, Nat.reduceMul, Nat.reduceBEq, Nat.reduceLT, Nat.reduceLeDiff, Int.reduceToNat, Int.reduceLE, Int.reduceLT, Int.reduceEq, Int.reduceNeg, ← List.map_drop, ← List.map_take, UInt8.reduceToNat, true_implies, implies_true, List.append_eq, y_origin_Here] at hp1
      have hq1 := hp1
      try simp only [goT] at hq1
      refine w_condT (by simp -implicitDefEqProofs only [goR, ↓upd_at, if_true, if_false, reduceCtorEq, ↓reduceIte, Nat.reduceEqDiff, Nat.reduceAdd, Nat.reduceSub, Nat.reduceMul, Nat.reduceBEq, Nat.reduceLT, Nat.reduceLeDiff, Int.reduceToNat, Int.reduceLE, Int.reduceLT, Int.reduceEq, Int.reduceNeg, ← List.map_drop, ← List.map_take, UInt8.reduceToNat, true_implies, implies_true, List.append_eq, y_origin_Here, hp1]) ?_
      refine w_skip ?_
      refine then_normal ?_
      refine w_cut (origin_Here_j2 x2 x3) (fun s => [(3, .c (.sl 1 (List.map dI s) 1)), (6, .c (.d (.sl 11 (List.map d_Token a0)))), (7, .c (.d (.v (.int .i64 x2)))), (8, .c (.d (.v (.int .i64 x3))))]) (fun s => []) [3] o1 ?_ ?_
      · refine w_block ?_
        refine w_seq ?_
        obtain ⟨hg1, H⟩ := gsplit H
        have g1 := map_getD d_Token a0 x3.toNat default default (by omega)
        refine w_region rfl (fun K hK => ?_)
        simp -implicitDefEqProofs only [goR, ↓upd_at, if_true, if_false, reduceCtorEq, ↓reduceIte, Nat.reduceEqDiff, Nat.reduceAdd, Nat.reduceSub, Nat.reduceMul, Nat.reduceBEq, Nat.reduceLT, Nat.reduceLeDiff, Int.reduceToNat, Int.reduceLE, Int.reduceLT, Int.reduceEq, Int.reduceNeg, ← List.map_drop, ← List.map_take, UInt8.reduceToNat, true_implies, implies_true, List.append_eq, y_origin_Here, g1]
        (repeat' (first | ((with_reducible refine hK _ _ ?_); clear hK K) | (with_reducible apply And.intro) | (exact trivial) | (clear hK K; assumption) | (clear hK K; omega)))
        refine then_normal ?_
        refine w_seq ?_
        refine w_region rfl (fun K hK => ?_)
        simp -implicitDefEqProofs only [goR, ↓upd_at, if_true, if_false, reduceCtorEq, ↓reduceIte, Nat.reduceEqDiff, Nat.reduceAdd, Nat.reduceSub, Nat.reduceMul, Nat.reduceBEq, Nat.reduceLT, Nat.reduceLeDiff, Int.reduceToNat, Int.reduceLE, Int.reduceLT, Int.reduceEq, Int.reduceNeg, ← List.map_drop, ← List.map_take, UInt8.reduceToNat, true_implies, implies_true, List.append_eq, y_origin_Here]
        (repeat' (first | ((with_reducible refine hK _ _ ?_); clear hK K) | (with_reducible apply And.intro) | (exact trivial) | (clear hK K; assumption) | (clear hK K; omega)))
        refine then_normal ?_
        rcases bsplit H with ⟨hp2, H⟩ | ⟨hp2, H⟩
        · try simp -implicitDefEqProofs only [goR, ↓upd_at, if_true, if_false, reduceCtorEq, ↓reduceIte, Nat.reduceEqDiff, Nat.reduceAdd, Nat.reduceSub, Nat.reduceMul, Nat.reduceBEq, Nat.reduceLT, Nat.reduceLeDiff, Int.reduceToNat, Int.reduceLE, Int.reduceLT, Int.reduceEq, Int.reduceNeg, ← List.map_drop, ← List.map_take, UInt8.reduceToNat, true_implies, implies_true, List.append_eq, y_origin_Here] at hp2
          have hq2 := hp2
          try simp only [goT] at hq2
          refine w_condT (by simp -implicitDefEqProofs only [goR, ↓upd_at, if_true, if_false, reduceCtorEq, ↓reduceIte, Nat.reduceEqDiff, Nat.reduceAdd, Nat.reduceSub, Nat.reduceMul, Nat.reduceBEq, Nat.reduceLT, Nat.reduceLeDiff, Int.reduceToNat, Int.reduceLE, Int.reduceLT, Int.reduceEq, Int.reduceNeg, ← List.map_drop, ← List.map_take, UInt8.reduceToNat, true_implies, implies_true, List.append_eq, y_origin_Here, hp2]) ?_
          obtain ⟨hg2, H⟩ := gsplit H
          have g2 := all_map one_dI [x3]
          refine w_region rfl (fun K hK => ?_)
          simp -implicitDefEqProofs only [goR, ↓upd_at, if_true, if_false, reduceCtorEq, ↓reduceIte, Nat.reduceEqDiff, Nat.reduceAdd, Nat.reduceSub, Nat.reduceMul, Nat.reduceBEq, Nat.reduceLT, Nat.reduceLeDiff, Int.reduceToNat, Int.reduceLE, Int.reduceLT, Int.reduceEq, Int.reduceNeg, ← List.map_drop, ← List.map_take, UInt8.reduceToNat, true_implies, implies_true, List.append_eq, y_origin_Here, g2]
          (repeat' (first | ((with_reducible refine hK _ _ ?_); clear hK K) | (with_reducible apply And.intro) | (exact trivial) | (clear hK K; assumption) | (clear hK K; omega)))
          refine block_normal ?_
          refine cut_at H ?_
          exact wk_ren ⟨[], [3]⟩ rfl rfl rfl rfl rfl (by simp -implicitDefEqProofs only [goW, goR, ↓upd_at, if_true, if_false, reduceCtorEq, ↓reduceIte, Nat.reduceEqDiff, Nat.reduceAdd, Nat.reduceSub, Nat.reduceMul, Nat.reduceBEq, Nat.reduceLT, Nat.reduceLeDiff, Int.reduceToNat, Int.reduceLE, Int.reduceLT, Int.reduceEq, Int.reduceNeg, ← List.map_drop, ← List.map_take, UInt8.reduceToNat, true_implies, implies_true, List.append_eq, y_origin_Here]) (by simp -implicitDefEqProofs only [goW, goR, ↓upd_at, if_true, if_false, reduceCtorEq, ↓reduceIte, Nat.reduceEqDiff, Nat.reduceAdd, Nat.reduceSub, Nat.reduceMul, Nat.reduceBEq, Nat.reduceLT, Nat.reduceLeDiff, Int.reduceToNat, Int.reduceLE, Int.reduceLT, Int.reduceEq, Int.reduceNeg, ← List.map_drop, ← List.map_take, UInt8.reduceToNat, true_implies, implies_true, List.append_eq, y_origin_Here]) (by simp -implicitDefEqProofs only [goW, goR, ↓upd_at, if_true, if_false, reduceCtorEq, ↓reduceIte, Nat.reduceEqDiff, Nat.reduceAdd, Nat.reduceSub, Nat.reduceMul, Nat.reduceBEq, Nat.reduceLT, Nat.reduceLeDiff, Int.reduceToNat, Int.reduceLE, Int.reduceLT, Int.reduceEq, Int.reduceNeg, ← List.map_drop, ← List.map_take, UInt8.reduceToNat, true_implies, implies_true, List.append_eq, y_origin_Here]) rfl
        · try simp -implicitDefEqProofs only [goR, ↓upd_at, if_true, if_false, reduceCtorEq, ↓reduceIte, Nat.reduceEqDiff, Nat.reduceAdd, Nat.reduceSub, Nat.reduceMul, Nat.reduceBEq, Nat.reduceLT, Nat.reduceLeDiff, Int.reduceToNat, Int.reduceLE, Int.reduceLT, Int.reduceEq, Int.reduceNeg, ← List.map_drop, ← List.map_take, UInt8.reduceToNat, true_implies, implies_true, List.append_eq, y_origin_Here] at hp2
          have hq2 := hp2
          try simp only [goT] at hq2
          refine w_condF (by simp -implicitDefEqProofs only [goR, ↓upd_at, if_true, if_false, reduceCtorEq, ↓reduceIte, Nat.reduceEqDiff, Nat.reduceAdd, Nat.reduceSub, Nat.reduceMul, Nat.reduceBEq, Nat.reduceLT, Nat.reduceLeDiff, Int.reduceToNat, Int.reduceLE, Int.reduceLT, Int.reduceEq, Int.reduceNeg, ← List.map_drop, ← List.map_take, UInt8.reduceToNat, true_implies, implies_true, List.append_eq, y_origin_Here, hp2]) ?_
          refine w_skip ?_
          refine block_normal ?_
          refine cut_at H ?_
          exact wk_ren ⟨[], [1]⟩ rfl rfl rfl rfl rfl (by simp -implicitDefEqProofs only [goW, goR, ↓upd_at, if_true, if_false, reduceCtorEq, ↓reduceIte, Nat.reduceEqDiff, Nat.reduceAdd, Nat.reduceSub, Nat.reduceMul, Nat.reduceBEq, Nat.reduceLT, Nat.reduceLeDiff, Int.reduceToNat, Int.reduceLE, Int.reduceLT, Int.reduceEq, Int.reduceNeg, ← List.map_drop, ← List.map_take, UInt8.reduceToNat, true_implies, implies_true, List.append_eq, y_origin_Here]) (by simp -implicitDefEqProofs only [goW, goR, ↓upd_at, if_true, if_false, reduceCtorEq, ↓reduceIte, Nat.reduceEqDiff, Nat.reduceAdd, Nat.reduceSub, Nat.reduceMul, Nat.reduceBEq, Nat.reduceLT, Nat.reduceLeDiff, Int.reduceToNat, Int.reduceLE, Int.reduceLT, Int.reduceEq, Int.reduceNeg, ← List.map_drop, ← List.map_take, UInt8.reduceToNat, true_implies, implies_true, List.append_eq, y_origin_Here]) (by simp -implicitDefEqProofs only [goW, goR, ↓upd_at, if_true, if_false, reduceCtorEq, ↓reduceIte, Nat.reduceEqDiff, Nat.reduceAdd, Nat.reduceSub, Nat.reduceMul, Nat.reduceBEq, Nat.reduceLT, Nat.reduceLeDiff, Int.reduceToNat, Int.reduceLE, Int.reduceLT, Int.reduceEq, Int.reduceNeg, ← List.map_drop, ← List.map_take, UInt8.reduceToNat, true_implies, implies_true, List.append_eq, y_origin_Here]) rfl
      · rintro x4 H
        rw [origin_Here_j2] at H
        refine w_region rfl (fun K hK => ?_)
        simp -implicitDefEqProofs only [goR, ↓upd_at, if_true, if_false, reduceCtorEq, ↓reduceIte, Nat.reduceEqDiff, Nat.reduceAdd, Nat.reduceSub, Nat.reduceMul, Nat.reduceBEq, Nat.reduceLT, Nat.reduceLeDiff, Int.reduceToNat, Int.reduceLE, Int.reduceLT, Int.reduceEq, Int.reduceNeg, ← List.map_drop, ← List.map_take, UInt8.reduceToNat, true_implies, implies_true, List.append_eq, y_origin_Here]
        (repeat' (first | ((with_reducible refine hK _ _ ?_); clear hK K) | (with_reducible apply And.intro) | (exact trivial) | (clear hK K; assumption) | (clear hK K; omega)))
        refine round_at (inl_fin H hF1) ?_
        exact wk_ren ⟨[], [1]⟩ rfl rfl rfl rfl rfl (by simp -implicitDefEqProofs only [goW, goR, ↓upd_at, if_true, if_false, reduceCtorEq, ↓reduceIte, Nat.reduceEqDiff, Nat.reduceAdd, Nat.reduceSub, Nat.reduceMul, Nat.reduceBEq, Nat.reduceLT, Nat.reduceLeDiff, Int.reduceToNat, Int.reduceLE, Int.reduceLT, Int.reduceEq, Int.reduceNeg, ← List.map_drop, ← List.map_take, UInt8.reduceToNat, true_implies, implies_true, List.append_eq, y_origin_Here]) (by simp -implicitDefEqProofs only [goW, goR, ↓upd_at, if_true, if_false, reduceCtorEq, ↓reduceIte, Nat.reduceEqDiff, Nat.reduceAdd, Nat.reduceSub, Nat.reduceMul, Nat.reduceBEq, Nat.reduceLT, Nat.reduceLeDiff, Int.reduceToNat, Int.reduceLE, Int.reduceLT, Int.reduceEq, Int.reduceNeg, ← List.map_drop, ← List.map_take, UInt8.reduceToNat, true_implies, implies_true, List.append_eq, y_origin_Here]) (by simp -implicitDefEqProofs only [goW, goR, ↓upd_at, if_true, if_false, reduceCtorEq, ↓reduceIte, Nat.reduceEqDiff, Nat.reduceAdd, Nat.reduceSub, Nat.reduceMul, Nat.reduceBEq, Nat.reduceLT, Nat.reduceLeDiff, Int.reduceToNat, Int.reduceLE, Int.reduceLT, Int.reduceEq, Int.reduceNeg, ← List.map_drop, ← List.map_take, UInt8.reduceToNat, true_implies, implies_true, List.append_eq, y_origin_Here]) rfl
    · try simp -implicitDefEqProofs only [goR, ↓upd_at, if_true, if_false, reduceCtorEq, ↓reduceIte, Nat.reduceEqDiff, Nat.reduceAdd, Nat.reduceSub, Nat.reduceMul, Nat.reduceBEq, Nat.reduceLT, Nat.reduceLeDiff, Int.reduceToNat, Int.reduceLE, Int.reduceLT, Int.reduceEq, Int.reduceNeg, ← List.map_drop, ← List.map_take, UInt8.reduceToNat, true_implies, implies_true, List.append_eq, y_origin_Here] at hp1
      have hq1 := hp1
      try simp only [goT] at hq1
      refine w_condF (by simp -implicitDefEqProofs only [goR, ↓upd_at, if_true, if_false, reduceCtorEq, ↓reduceIte, Nat.reduceEqDiff, Nat.reduceAdd, Nat.reduceSub, Nat.reduceMul, Nat.reduceBEq, Nat.reduceLT, Nat.reduceLeDiff, Int.reduceToNat, Int.reduceLE, Int.reduceLT, Int.reduceEq, Int.reduceNeg, ← List.map_drop, ← List.map_take, UInt8.reduceToNat, true_implies, implies_true, List.append_eq, y_origin_Here, hp1]) ?_
      refine w_exit ?_
      refine then_exit ?_
      replace H := inrO_fin H hF1
      refine round_exit ?_
      refine block_exit ?_
      refine then_normal ?_
      refine w_seq ?_
      refine w_region rfl (fun K hK => ?_)
      simp -implicitDefEqProofs only [goR, ↓upd_at, if_true, if_false, reduceCtorEq, ↓reduceIte, Nat.reduceEqDiff, Nat.reduceAdd, Nat.reduceSub, Nat.reduceMul, Nat.reduceBEq, Nat.reduceLT, Nat.reduceLeDiff, Int.reduceToNat, Int.reduceLE, Int.reduceLT, Int.reduceEq, Int.reduceNeg, ← List.map_drop, ← List.map_take, UInt8.reduceToNat, true_implies, implies_true, List.append_eq, y_origin_Here]
      (repeat' (first | ((with_reducible refine hK _ _ ?_); clear hK K) | (with_reducible apply And.intro) | (exact trivial) | (clear hK K; assumption) | (clear hK K; omega)))
      refine then_normal ?_
      refine w_ret ?_
      obtain rfl := Option.some.inj H
      simp -implicitDefEqProofs only [goQ, Try.results29, goR, ↓upd_at, if_true, if_false, reduceCtorEq, ↓reduceIte, Nat.reduceEqDiff, Nat.reduceAdd, Nat.reduceSub, Nat.reduceMul, Nat.reduceBEq, Nat.reduceLT, Nat.reduceLeDiff, Int.reduceToNat, Int.reduceLE, Int.reduceLT, Int.reduceEq, Int.reduceNeg, ← List.map_drop, ← List.map_take, UInt8.reduceToNat, true_implies, implies_true, List.append_eq, y_origin_Here]
theorem origin_Here_c (a0 : List Token) (r : (List Int)) (H : origin_Here a0 = some r) : pf_origin_Here.pre [(dL 11 d_Token) a0] = True ∧ pf_origin_Here.val [(dL 11 d_Token) a0] = (dL 1 dI) r :=
  ⟨PF.of_pre (enc := c_origin_Here) (f := fun a => origin_Here a) (e := e_origin_Here) (a := a0) H, PF.of_val (enc := c_origin_Here) (f := fun a => origin_Here a) (e := e_origin_Here) (a := a0) c_origin_Here_inj H⟩
theorem origin_Here_cl (l : List D) (a0 : List Token) (r : (List Int)) (hl : les1 l (c_origin_Here a0)) (H : origin_Here a0 = some r) : pf_origin_Here.pre l = True ∧ pf_origin_Here.val l = (dL 1 dI) r :=
  ⟨PF.of_prel (enc := c_origin_Here) (f := fun a => origin_Here a) (e := e_origin_Here) (a := a0) hl H, PF.of_vall (enc := c_origin_Here) (f := fun a => origin_Here a) (e := e_origin_Here) (a := a0) c_origin_Here_inj hl H⟩
end Go.Proofs.Ytgkacglpjmndbaa
