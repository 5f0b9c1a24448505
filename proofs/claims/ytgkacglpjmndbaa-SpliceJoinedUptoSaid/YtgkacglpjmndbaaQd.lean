/- Functions of data for functions of the program: splice_Back, prelaw2_alive, prelaw2_SpliceTells, prelaw2_SpliceWhere. Written by dec.py. -/
import Derived.Test.YtgkacglpjmndbaaQb
import Derived.Test.YtgkacglpjmndbaaQc
namespace Go.Proofs.Ytgkacglpjmndbaa
open Go.RowKit
set_option linter.unusedVariables false
set_option linter.unusedSimpArgs false

noncomputable def splice_Back_j1 (r1 : Int × Bool) : Bool → Option Int
  | x1 => if x1 = true then some (-1) else some r1.1
noncomputable def splice_Back (a0 : Spliced) (a1 : Int) : Option Int :=
  (slices_BinarySearch_s_int_int a0.At a1).bind fun r1 => if (ltI a1 0) = true then splice_Back_j1 r1 true else splice_Back_j1 r1 (eqI r1.1 (a0.At.length : Int))
def e_splice_Back : Int → D := dI
def c_splice_Back : Spliced × Int → List D := fun a => [d_Spliced a.1, dI a.2]
theorem c_splice_Back_inj : Inj c_splice_Back := by rintro ⟨a0, a1⟩ ⟨b0, b1⟩ h; simp only [c_splice_Back, List.map_cons, List.map_nil, List.cons.injEq, and_true] at h; obtain ⟨h0, h1⟩ := h; obtain rfl := (d_Spliced_sinj _ _) h0; obtain rfl := (dI_inj _ _) h1; rfl
noncomputable def pf_splice_Back : PF := PF.of c_splice_Back (fun a => splice_Back a.1 a.2) e_splice_Back
noncomputable def t_splice_Back : Tab := tabOf Try.prog [(59, pf_slices_BinarySearch_s_int_int)] []
theorem t_splice_Back_ok : TabOk t_splice_Back := tabOf_ok (by exact ⟨⟨call_59, slices_BinarySearch_s_int_int_ok⟩, trivial⟩) trivial
theorem y_splice_Back : (((((type_of% @tAgg_22) ∧ (type_of% @tAgg_3)) ∧ ((type_of% @tBytes_3) ∧ ((type_of% @tCS_22) ∧ (type_of% @tCS_3)))) ∧ (((type_of% @tElem_22) ∧ (type_of% @tFld_24_1)) ∧ ((type_of% @tKnown_22) ∧ ((type_of% @tKnown_3) ∧ (type_of% @tOff_24_1))))) ∧ ((((type_of% @tSize_22) ∧ (type_of% @tSize_3)) ∧ ((type_of% @tSlice_22) ∧ ((type_of% @tStruct_24_1) ∧ (type_of% @tZ_3)))) ∧ (((type_of% @tZok_3) ∧ (type_of% @d_Spliced.eq_1)) ∧ ((type_of% @t_splice_Back.eq_1) ∧ ((type_of% @c_splice_Back.eq_1) ∧ (type_of% @e_splice_Back.eq_1)))))) := ⟨⟨⟨⟨@tAgg_22, @tAgg_3⟩, ⟨@tBytes_3, ⟨@tCS_22, @tCS_3⟩⟩⟩, ⟨⟨@tElem_22, @tFld_24_1⟩, ⟨@tKnown_22, ⟨@tKnown_3, @tOff_24_1⟩⟩⟩⟩, ⟨⟨⟨@tSize_22, @tSize_3⟩, ⟨@tSlice_22, ⟨@tStruct_24_1, @tZ_3⟩⟩⟩, ⟨⟨@tZok_3, @d_Spliced.eq_1⟩, ⟨@t_splice_Back.eq_1, ⟨@c_splice_Back.eq_1, @e_splice_Back.eq_1⟩⟩⟩⟩⟩
set_option maxRecDepth 100000 in
set_option maxHeartbeats 4000000 in
theorem splice_Back_ok : PureOk Try.prog 20 pf_splice_Back := by
  refine pure_of (t := t_splice_Back) (pure := fun n => [59].contains n) c_splice_Back_inj t_splice_Back_ok mixed (fun n hn => tabOf_pure rfl n hn) Try.func20 rfl (by kernel_rfl) (fun a => by simp [c_splice_Back, Try.ntmps20]) ?_
  rintro ⟨a0, a1⟩ out H
  simp only [splice_Back] at H
  show aC _ _ (sig0 (List.map (fun d => AV.c (C.d d)) (c_splice_Back (a0, a1)))) _ _
  refine w_seq ?_
  refine w_region rfl (fun K hK => ?_)
  simp -implicitDefEqProofs only [goR, ↓upd_at, if_true, if_false, reduceCtorEq, ↓reduceIte, Nat.reduceEqDiff, Nat.reduceAdd, Nat.reduceSub, Nat.reduceMul, Nat.reduceBEq, Nat.reduceLT, Nat.reduceLeDiff, Int.reduceToNat, Int.reduceLE, Int.reduceLT, Int.reduceEq, Int.reduceNeg, ← List.map_drop, ← List.map_take, UInt8.reduceToNat, true_implies, implies_true, List.append_eq, y_splice_Back]
  (repeat' (first | ((with_reducible refine hK _ _ ?_); clear hK K) | (with_reducible apply And.intro) | (exact trivial) | (clear hK K; assumption) | (clear hK K; omega)))
  refine then_normal ?_
  refine w_seq ?_
  obtain ⟨r1, hr1, H⟩ := osplit H
  have hc1 := slices_BinarySearch_s_int_int_c a0.At a1 r1 hr1
  simp -implicitDefEqProofs only [goR, ↓upd_at, if_true, if_false, reduceCtorEq, ↓reduceIte, Nat.reduceEqDiff, Nat.reduceAdd, Nat.reduceSub, Nat.reduceMul, Nat.reduceBEq, Nat.reduceLT, Nat.reduceLeDiff, Int.reduceToNat, Int.reduceLE, Int.reduceLT, Int.reduceEq, Int.reduceNeg, ← List.map_drop, ← List.map_take, UInt8.reduceToNat, true_implies, implies_true, List.append_eq, y_splice_Back] at hc1
  refine w_region rfl (fun K hK => ?_)
  simp -implicitDefEqProofs only [goR, ↓upd_at, if_true, if_false, reduceCtorEq, ↓reduceIte, Nat.reduceEqDiff, Nat.reduceAdd, Nat.reduceSub, Nat.reduceMul, Nat.reduceBEq, Nat.reduceLT, Nat.reduceLeDiff, Int.reduceToNat, Int.reduceLE, Int.reduceLT, Int.reduceEq, Int.reduceNeg, ← List.map_drop, ← List.map_take, UInt8.reduceToNat, true_implies, implies_true, List.append_eq, y_splice_Back, hc1.1, hc1.2]
  (repeat' (first | ((with_reducible refine hK _ _ ?_); clear hK K) | (with_reducible apply And.intro) | (exact trivial) | (clear hK K; assumption) | (clear hK K; omega)))
  refine then_normal ?_
  refine w_seq ?_
  refine w_cut (splice_Back_j1 r1) (fun s => [(5, .c (.d (.v (.int .i64 r1.1)))), (22, .c (.d (.v (.bool s))))]) (fun s => []) [] out ?_ ?_
  · rcases bsplit H with ⟨hp2, H⟩ | ⟨hp2, H⟩
    · try simp -implicitDefEqProofs only [goR, ↓upd_at, if_true, if_false, reduceCtorEq, ↓reduceIte, Nat.reduceEqDiff, Nat.reduceAdd, Nat.reduceSub, Nat.reduceMul, Nat.reduceBEq, Nat.reduceLT, Nat.reduceLeDiff, Int.reduceToNat, Int.reduceLE, Int.reduceLT, Int.reduceEq, Int.reduceNeg, ← List.map_drop, ← List.map_take, UInt8.reduceToNat, true_implies, implies_true, List.append_eq, y_splice_Back] at hp2
      have hq2 := hp2
      try simp only [goT] at hq2
      refine w_region rfl (fun K hK => ?_)
      simp -implicitDefEqProofs only [goR, ↓upd_at, if_true, if_false, reduceCtorEq, ↓reduceIte, Nat.reduceEqDiff, Nat.reduceAdd, Nat.reduceSub, Nat.reduceMul, Nat.reduceBEq, Nat.reduceLT, Nat.reduceLeDiff, Int.reduceToNat, Int.reduceLE, Int.reduceLT, Int.reduceEq, Int.reduceNeg, ← List.map_drop, ← List.map_take, UInt8.reduceToNat, true_implies, implies_true, List.append_eq, y_splice_Back, hp2]
      (repeat' (first | ((with_reducible refine hK _ _ ?_); clear hK K) | (with_reducible apply And.intro) | (exact trivial) | (clear hK K; assumption) | (clear hK K; omega)))
      refine cut_at H ?_
      exact wk_ren ⟨[], []⟩ rfl rfl rfl rfl rfl (by simp -implicitDefEqProofs only [goW, goR, ↓upd_at, if_true, if_false, reduceCtorEq, ↓reduceIte, Nat.reduceEqDiff, Nat.reduceAdd, Nat.reduceSub, Nat.reduceMul, Nat.reduceBEq, Nat.reduceLT, Nat.reduceLeDiff, Int.reduceToNat, Int.reduceLE, Int.reduceLT, Int.reduceEq, Int.reduceNeg, ← List.map_drop, ← List.map_take, UInt8.reduceToNat, true_implies, implies_true, List.append_eq, y_splice_Back]) (by simp -implicitDefEqProofs only [goW, goR, ↓upd_at, if_true, if_false, reduceCtorEq, ↓reduceIte, Nat.reduceEqDiff, Nat.reduceAdd, Nat.reduceSub, Nat.reduceMul, Nat.reduceBEq, Nat.reduceLT, Nat.reduceLeDiff, Int.reduceToNat, Int.reduceLE, Int.reduceLT, Int.reduceEq, Int.reduceNeg, ← List.map_drop, ← List.map_take, UInt8.reduceToNat, true_implies, implies_true, List.append_eq, y_splice_Back]) (by simp -implicitDefEqProofs only [goW, goR, ↓upd_at, if_true, if_false, reduceCtorEq, ↓reduceIte, Nat.reduceEqDiff, Nat.reduceAdd, Nat.reduceSub, Nat.reduceMul, Nat.reduceBEq, Nat.reduceLT, Nat.reduceLeDiff, Int.reduceToNat, Int.reduceLE, Int.reduceLT, Int.reduceEq, Int.reduceNeg, ← List.map_drop, ← List.map_take, UInt8.reduceToNat, true_implies, implies_true, List.append_eq, y_splice_Back])
    · try simp -implicitDefEqProofs only [goR, ↓upd_at, if_true, if_false, reduceCtorEq, ↓reduceIte, Nat.reduceEqDiff, Nat.reduceAdd, Nat.reduceSub, Nat.reduceMul, Nat.reduceBEq, Nat.reduceLT, Nat.reduceLeDiff, Int.reduceToNat, Int.reduceLE, Int.reduceLT, Int.reduceEq, Int.reduceNeg, ← List.map_drop, ← List.map_take, UInt8.reduceToNat, true_implies, implies_true, List.append_eq, y_splice_Back] at hp2
      have hq2 := hp2
      try simp only [goT] at hq2
      refine w_region rfl (fun K hK => ?_)
      simp -implicitDefEqProofs only [goR, ↓upd_at, if_true, if_false, reduceCtorEq, ↓reduceIte, Nat.reduceEqDiff, Nat.reduceAdd, Nat.reduceSub, Nat.reduceMul, Nat.reduceBEq, Nat.reduceLT, Nat.reduceLeDiff, Int.reduceToNat, Int.reduceLE, Int.reduceLT, Int.reduceEq, Int.reduceNeg, ← List.map_drop, ← List.map_take, UInt8.reduceToNat, true_implies, implies_true, List.append_eq, y_splice_Back, hp2]
      (repeat' (first | ((with_reducible refine hK _ _ ?_); clear hK K) | (with_reducible apply And.intro) | (exact trivial) | (clear hK K; assumption) | (clear hK K; omega)))
      refine cut_at H ?_
      exact wk_ren ⟨[], []⟩ rfl rfl rfl rfl rfl (by simp -implicitDefEqProofs only [goW, goR, ↓upd_at, if_true, if_false, reduceCtorEq, ↓reduceIte, Nat.reduceEqDiff, Nat.reduceAdd, Nat.reduceSub, Nat.reduceMul, Nat.reduceBEq, Nat.reduceLT, Nat.reduceLeDiff, Int.reduceToNat, Int.reduceLE, Int.reduceLT, Int.reduceEq, Int.reduceNeg, ← List.map_drop, ← List.map_take, UInt8.reduceToNat, true_implies, implies_true, List.append_eq, y_splice_Back]) (by simp -implicitDefEqProofs only [goW, goR, ↓upd_at, if_true, if_false, reduceCtorEq, ↓reduceIte, Nat.reduceEqDiff, Nat.reduceAdd, Nat.reduceSub, Nat.reduceMul, Nat.reduceBEq, Nat.reduceLT, Nat.reduceLeDiff, Int.reduceToNat, Int.reduceLE, Int.reduceLT, Int.reduceEq, Int.reduceNeg, ← List.map_drop, ← List.map_take, UInt8.reduceToNat, true_implies, implies_true, List.append_eq, y_splice_Back]) (by simp -implicitDefEqProofs only [goW, goR, ↓upd_at, if_true, if_false, reduceCtorEq, ↓reduceIte, Nat.reduceEqDiff, Nat.reduceAdd, Nat.reduceSub, Nat.reduceMul, Nat.reduceBEq, Nat.reduceLT, Nat.reduceLeDiff, Int.reduceToNat, Int.reduceLE, Int.reduceLT, Int.reduceEq, Int.reduceNeg, ← List.map_drop, ← List.map_take, UInt8.reduceToNat, true_implies, implies_true, List.append_eq, y_splice_Back])
  · rintro x1 H
    rw [splice_Back_j1] at H
    rcases bsplit H with ⟨hp1, H⟩ | ⟨hp1, H⟩
    · try simp -implicitDefEqProofs only [goR, ↓upd_at, if_true, if_false, reduceCtorEq, ↓reduceIte, Nat.reduceEqDiff, Nat.reduceAdd, Nat.reduceSub, Nat.reduceMul, Nat.reduceBEq, Nat.reduceLT, Nat.reduceLeDiff, Int.reduceToNat, Int.reduceLE, Int.reduceLT, Int.reduceEq, Int.reduceNeg, ← List.map_drop, ← List.map_take, UInt8.reduceToNat, true_implies, implies_true, List.append_eq, y_splice_Back] at hp1
      have hq1 := hp1
      try simp only [goT] at hq1
      refine w_condT (by simp -implicitDefEqProofs only [goR, ↓upd_at, if_true, if_false, reduceCtorEq, ↓reduceIte, Nat.reduceEqDiff, Nat.reduceAdd, Nat.reduceSub, Nat.reduceMul, Nat.reduceBEq, Nat.reduceLT, Nat.reduceLeDiff, Int.reduceToNat, Int.reduceLE, Int.reduceLT, Int.reduceEq, Int.reduceNeg, ← List.map_drop, ← List.map_take, UInt8.reduceToNat, true_implies, implies_true, List.append_eq, y_splice_Back, hp1]) ?_
      refine w_seq ?_
      refine w_region rfl (fun K hK => ?_)
      simp -implicitDefEqProofs only [goR, ↓upd_at, if_true, if_false, reduceCtorEq, ↓reduceIte, Nat.reduceEqDiff, Nat.reduceAdd, Nat.reduceSub, Nat.reduceMul, Nat.reduceBEq, Nat.reduceLT, Nat.reduceLeDiff, Int.reduceToNat, Int.reduceLE, Int.reduceLT, Int.reduceEq, Int.reduceNeg, ← List.map_drop, ← List.map_take, UInt8.reduceToNat, true_implies, implies_true, List.append_eq, y_splice_Back]
      (repeat' (first | ((with_reducible refine hK _ _ ?_); clear hK K) | (with_reducible apply And.intro) | (exact trivial) | (clear hK K; assumption) | (clear hK K; omega)))
      refine then_normal ?_
      refine w_ret ?_
      refine then_ret ?_
      obtain rfl := Option.some.inj H
      simp -implicitDefEqProofs only [goQ, Try.results20, goR, ↓upd_at, if_true, if_false, reduceCtorEq, ↓reduceIte, Nat.reduceEqDiff, Nat.reduceAdd, Nat.reduceSub, Nat.reduceMul, Nat.reduceBEq, Nat.reduceLT, Nat.reduceLeDiff, Int.reduceToNat, Int.reduceLE, Int.reduceLT, Int.reduceEq, Int.reduceNeg, ← List.map_drop, ← List.map_take, UInt8.reduceToNat, true_implies, implies_true, List.append_eq, y_splice_Back]
    · try simp -implicitDefEqProofs only [goR, ↓upd_at, if_true, if_false, reduceCtorEq, ↓reduceIte, Nat.reduceEqDiff, Nat.reduceAdd, Nat.reduceSub, Nat.reduceMul, Nat.reduceBEq, Nat.reduceLT, Nat.reduceLeDiff, Int.reduceToNat, Int.reduceLE, Int.reduceLT, Int.reduceEq, Int.reduceNeg, ← List.map_drop, ← List.map_take, UInt8.reduceToNat, true_implies, implies_true, List.append_eq, y_splice_Back] at hp1
      have hq1 := hp1
      try simp only [goT] at hq1
      refine w_condF (by simp -implicitDefEqProofs only [goR, ↓upd_at, if_true, if_false, reduceCtorEq, ↓reduceIte, Nat.reduceEqDiff, Nat.reduceAdd, Nat.reduceSub, Nat.reduceMul, Nat.reduceBEq, Nat.reduceLT, Nat.reduceLeDiff, Int.reduceToNat, Int.reduceLE, Int.reduceLT, Int.reduceEq, Int.reduceNeg, ← List.map_drop, ← List.map_take, UInt8.reduceToNat, true_implies, implies_true, List.append_eq, y_splice_Back, hp1]) ?_
      refine w_skip ?_
      refine then_normal ?_
      refine w_seq ?_
      refine w_region rfl (fun K hK => ?_)
      simp -implicitDefEqProofs only [goR, ↓upd_at, if_true, if_false, reduceCtorEq, ↓reduceIte, Nat.reduceEqDiff, Nat.reduceAdd, Nat.reduceSub, Nat.reduceMul, Nat.reduceBEq, Nat.reduceLT, Nat.reduceLeDiff, Int.reduceToNat, Int.reduceLE, Int.reduceLT, Int.reduceEq, Int.reduceNeg, ← List.map_drop, ← List.map_take, UInt8.reduceToNat, true_implies, implies_true, List.append_eq, y_splice_Back]
      (repeat' (first | ((with_reducible refine hK _ _ ?_); clear hK K) | (with_reducible apply And.intro) | (exact trivial) | (clear hK K; assumption) | (clear hK K; omega)))
      refine then_normal ?_
      refine w_ret ?_
      obtain rfl := Option.some.inj H
      simp -implicitDefEqProofs only [goQ, Try.results20, goR, ↓upd_at, if_true, if_false, reduceCtorEq, ↓reduceIte, Nat.reduceEqDiff, Nat.reduceAdd, Nat.reduceSub, Nat.reduceMul, Nat.reduceBEq, Nat.reduceLT, Nat.reduceLeDiff, Int.reduceToNat, Int.reduceLE, Int.reduceLT, Int.reduceEq, Int.reduceNeg, ← List.map_drop, ← List.map_take, UInt8.reduceToNat, true_implies, implies_true, List.append_eq, y_splice_Back]
theorem splice_Back_c (a0 : Spliced) (a1 : Int) (r : Int) (H : splice_Back a0 a1 = some r) : pf_splice_Back.pre [d_Spliced a0, dI a1] = True ∧ pf_splice_Back.val [d_Spliced a0, dI a1] = dI r :=
  ⟨PF.of_pre (enc := c_splice_Back) (f := fun a => splice_Back a.1 a.2) (e := e_splice_Back) (a := (a0, a1)) H, PF.of_val (enc := c_splice_Back) (f := fun a => splice_Back a.1 a.2) (e := e_splice_Back) (a := (a0, a1)) c_splice_Back_inj H⟩
noncomputable def prelaw2_alive_j1 : Bool → Option Bool
  | x1 => some x1
noncomputable def prelaw2_alive  : Option Bool :=
  (splice_Text [97, 92, 10, 98, 13, 10, 99]).bind fun r1 => if (eqS r1.Text [97, 98, 10, 99]) = true then (splice_Where r1 1).bind fun r2 => if (eqI r2 3) = true then (splice_Back r1 2).bind fun r3 => if (eqI r3 1) = true then (splice_Lines [97, 10, 98] 2).bind fun r4 => prelaw2_alive_j1 (eqI r4 2) else prelaw2_alive_j1 false else prelaw2_alive_j1 false else prelaw2_alive_j1 false
def e_prelaw2_alive : Bool → D := dB
def c_prelaw2_alive : Unit → List D := fun _ => []
theorem c_prelaw2_alive_inj : Inj c_prelaw2_alive := by intro a b _; rfl
noncomputable def pf_prelaw2_alive : PF := PF.of c_prelaw2_alive (fun _ => prelaw2_alive) e_prelaw2_alive
noncomputable def t_prelaw2_alive : Tab := tabOf Try.prog [(15, pf_splice_Text), (19, pf_splice_Where), (20, pf_splice_Back), (17, pf_splice_Lines)] []
theorem t_prelaw2_alive_ok : TabOk t_prelaw2_alive := tabOf_ok (by exact ⟨⟨call_15, splice_Text_ok⟩, ⟨call_19, splice_Where_ok⟩, ⟨call_20, splice_Back_ok⟩, ⟨call_17, splice_Lines_ok⟩, trivial⟩) trivial
theorem y_prelaw2_alive : (((((type_of% @tAgg_24) ∧ (type_of% @tAgg_9)) ∧ ((type_of% @tCS_24) ∧ (type_of% @tCS_9))) ∧ (((type_of% @tFld_24_0) ∧ (type_of% @tKnown_24)) ∧ ((type_of% @tKnown_9) ∧ (type_of% @tOff_24_0)))) ∧ ((((type_of% @tSize_24) ∧ (type_of% @tSize_9)) ∧ ((type_of% @tStruct_24_0) ∧ (type_of% @tZ_24))) ∧ (((type_of% @tZok_24) ∧ (type_of% @d_Spliced.eq_1)) ∧ ((type_of% @t_prelaw2_alive.eq_1) ∧ ((type_of% @c_prelaw2_alive.eq_1) ∧ (type_of% @e_prelaw2_alive.eq_1)))))) := ⟨⟨⟨⟨@tAgg_24, @tAgg_9⟩, ⟨@tCS_24, @tCS_9⟩⟩, ⟨⟨@tFld_24_0, @tKnown_24⟩, ⟨@tKnown_9, @tOff_24_0⟩⟩⟩, ⟨⟨⟨@tSize_24, @tSize_9⟩, ⟨@tStruct_24_0, @tZ_24⟩⟩, ⟨⟨@tZok_24, @d_Spliced.eq_1⟩, ⟨@t_prelaw2_alive.eq_1, ⟨@c_prelaw2_alive.eq_1, @e_prelaw2_alive.eq_1⟩⟩⟩⟩⟩
set_option maxRecDepth 100000 in
set_option maxHeartbeats 4000000 in
theorem prelaw2_alive_ok : PureOk Try.prog 21 pf_prelaw2_alive := by
  refine pure_of (t := t_prelaw2_alive) (pure := fun n => [15, 19, 20, 17].contains n) c_prelaw2_alive_inj t_prelaw2_alive_ok mixed (fun n hn => tabOf_pure rfl n hn) Try.func21 rfl (by kernel_rfl) (fun a => by simp [c_prelaw2_alive, Try.ntmps21]) ?_
  rintro _ out H
  simp only [prelaw2_alive] at H
  show aC _ _ (sig0 (List.map (fun d => AV.c (C.d d)) (c_prelaw2_alive ()))) _ _
  refine w_seq ?_
  refine w_region rfl (fun K hK => ?_)
  simp -implicitDefEqProofs only [goR, ↓upd_at, if_true, if_false, reduceCtorEq, ↓reduceIte, Nat.reduceEqDiff, Nat.reduceAdd, Nat.reduceSub, Nat.reduceMul, Nat.reduceBEq, Nat.reduceLT, Nat.reduceLeDiff, Int.reduceToNat, Int.reduceLE, Int.reduceLT, Int.reduceEq, Int.reduceNeg, ← List.map_drop, ← List.map_take, UInt8.reduceToNat, true_implies, implies_true, List.append_eq, y_prelaw2_alive]
  (repeat' (first | ((with_reducible refine hK _ _ ?_); clear hK K) | (with_reducible apply And.intro) | (exact trivial) | (clear hK K; assumption) | (clear hK K; omega)))
  refine then_normal ?_
  refine w_seq ?_
  obtain ⟨r1, hr1, H⟩ := osplit H
  have hc1 := splice_Text_c [97, 92, 10, 98, 13, 10, 99] r1 hr1
  simp -implicitDefEqProofs only [goR, ↓upd_at, if_true, if_false, reduceCtorEq, ↓reduceIte, Nat.reduceEqDiff, Nat.reduceAdd, Nat.reduceSub, Nat.reduceMul, Nat.reduceBEq, Nat.reduceLT, Nat.reduceLeDiff, Int.reduceToNat, Int.reduceLE, Int.reduceLT, Int.reduceEq, Int.reduceNeg, ← List.map_drop, ← List.map_take, UInt8.reduceToNat, true_implies, implies_true, List.append_eq, y_prelaw2_alive] at hc1
  refine w_region rfl (fun K hK => ?_)
  simp -implicitDefEqProofs only [goR, ↓upd_at, if_true, if_false, reduceCtorEq, ↓reduceIte, Nat.reduceEqDiff, Nat.reduceAdd, Nat.reduceSub, Nat.reduceMul, Nat.reduceBEq, Nat.reduceLT, Nat.reduceLeDiff, Int.reduceToNat, Int.reduceLE, Int.reduceLT, Int.reduceEq, Int.reduceNeg, ← List.map_drop, ← List.map_take, UInt8.reduceToNat, true_implies, implies_true, List.append_eq, y_prelaw2_alive, hc1.1, hc1.2]
  (repeat' (first | ((with_reducible refine hK _ _ ?_); clear hK K) | (with_reducible apply And.intro) | (exact trivial) | (clear hK K; assumption) | (clear hK K; omega)))
  refine then_normal ?_
  refine w_cut prelaw2_alive_j1 (fun s => [(0, .c (.d (.v (.bool s))))]) (fun s => []) [] out ?_ ?_
  · rcases bsplit H with ⟨hp1, H⟩ | ⟨hp1, H⟩
    · try simp -implicitDefEqProofs only [goR, ↓upd_at, if_true, if_false, reduceCtorEq, ↓reduceIte, Nat.reduceEqDiff, Nat.reduceAdd, Nat.reduceSub, Nat.reduceMul, Nat.reduceBEq, Nat.reduceLT, Nat.reduceLeDiff, Int.reduceToNat, Int.reduceLE, Int.reduceLT, Int.reduceEq, Int.reduceNeg, ← List.map_drop, ← List.map_take, UInt8.reduceToNat, true_implies, implies_true, List.append_eq, y_prelaw2_alive] at hp1
      have hq1 := hp1
      try simp only [goT] at hq1
      obtain ⟨r2, hr2, H⟩ := osplit H
      have hc2 := splice_Where_c r1 1 r2 hr2
      simp -implicitDefEqProofs only [goR, ↓upd_at, if_true, if_false, reduceCtorEq, ↓reduceIte, Nat.reduceEqDiff, Nat.reduceAdd, Nat.reduceSub, Nat.reduceMul, Nat.reduceBEq, Nat.reduceLT, Nat.reduceLeDiff, Int.reduceToNat, Int.reduceLE, Int.reduceLT, Int.reduceEq, Int.reduceNeg, ← List.map_drop, ← List.map_take, UInt8.reduceToNat, true_implies, implies_true, List.append_eq, y_prelaw2_alive] at hc2
      rcases bsplit H with ⟨hp2, H⟩ | ⟨hp2, H⟩
      · try simp -implicitDefEqProofs only [goR, ↓upd_at, if_true, if_false, reduceCtorEq, ↓reduceIte, Nat.reduceEqDiff, Nat.reduceAdd, Nat.reduceSub, Nat.reduceMul, Nat.reduceBEq, Nat.reduceLT, Nat.reduceLeDiff, Int.reduceToNat, Int.reduceLE, Int.reduceLT, Int.reduceEq, Int.reduceNeg, ← List.map_drop, ← List.map_take, UInt8.reduceToNat, true_implies, implies_true, List.append_eq, y_prelaw2_alive] at hp2
        have hq2 := hp2
        try simp only [goT] at hq2
        obtain ⟨r3, hr3, H⟩ := osplit H
        have hc3 := splice_Back_c r1 2 r3 hr3
        simp -implicitDefEqProofs only [goR, ↓upd_at, if_true, if_false, reduceCtorEq, ↓reduceIte, Nat.reduceEqDiff, Nat.reduceAdd, Nat.reduceSub, Nat.reduceMul, Nat.reduceBEq, Nat.reduceLT, Nat.reduceLeDiff, Int.reduceToNat, Int.reduceLE, Int.reduceLT, Int.reduceEq, Int.reduceNeg, ← List.map_drop, ← List.map_take, UInt8.reduceToNat, true_implies, implies_true, List.append_eq, y_prelaw2_alive] at hc3
        rcases bsplit H with ⟨hp3, H⟩ | ⟨hp3, H⟩
        · try simp -implicitDefEqProofs only [goR, ↓upd_at, if_true, if_false, reduceCtorEq, ↓reduceIte, Nat.reduceEqDiff, Nat.reduceAdd, Nat.reduceSub, Nat.reduceMul, Nat.reduceBEq, Nat.reduceLT, Nat.reduceLeDiff, Int.reduceToNat, Int.reduceLE, Int.reduceLT, Int.reduceEq, Int.reduceNeg, ← List.map_drop, ← List.map_take, UInt8.reduceToNat, true_implies, implies_true, List.append_eq, y_prelaw2_alive] at hp3
          have hq3 := hp3
          try simp only [goT] at hq3
          obtain ⟨r4, hr4, H⟩ := osplit H
          have hc4 := splice_Lines_c [97, 10, 98] 2 r4 hr4
          simp -implicitDefEqProofs only [goR, ↓upd_at, if_true, if_false, reduceCtorEq, ↓reduceIte, Nat.reduceEqDiff, Nat.reduceAdd, Nat.reduceSub, Nat.reduceMul, Nat.reduceBEq, Nat.reduceLT, Nat.reduceLeDiff, Int.reduceToNat, Int.reduceLE, Int.reduceLT, Int.reduceEq, Int.reduceNeg, ← List.map_drop, ← List.map_take, UInt8.reduceToNat, true_implies, implies_true, List.append_eq, y_prelaw2_alive] at hc4
          refine w_region rfl (fun K hK => ?_)
          simp -implicitDefEqProofs only [goR, ↓upd_at, if_true, if_false, reduceCtorEq, ↓reduceIte, Nat.reduceEqDiff, Nat.reduceAdd, Nat.reduceSub, Nat.reduceMul, Nat.reduceBEq, Nat.reduceLT, Nat.reduceLeDiff, Int.reduceToNat, Int.reduceLE, Int.reduceLT, Int.reduceEq, Int.reduceNeg, ← List.map_drop, ← List.map_take, UInt8.reduceToNat, true_implies, implies_true, List.append_eq, y_prelaw2_alive, hp1, hc2.1, hc2.2, hp2, hc3.1, hc3.2, hp3, hc4.1, hc4.2]
          (repeat' (first | ((with_reducible refine hK _ _ ?_); clear hK K) | (with_reducible apply And.intro) | (exact trivial) | (clear hK K; assumption) | (clear hK K; omega)))
          refine cut_at H ?_
          exact wk_ren ⟨[], []⟩ rfl rfl rfl rfl rfl (by simp -implicitDefEqProofs only [goW, goR, ↓upd_at, if_true, if_false, reduceCtorEq, ↓reduceIte, Nat.reduceEqDiff, Nat.reduceAdd, Nat.reduceSub, Nat.reduceMul, Nat.reduceBEq, Nat.reduceLT, Nat.reduceLeDiff, Int.reduceToNat, Int.reduceLE, Int.reduceLT, Int.reduceEq, Int.reduceNeg, ← List.map_drop, ← List.map_take, UInt8.reduceToNat, true_implies, implies_true, List.append_eq, y_prelaw2_alive]) (by simp -implicitDefEqProofs only [goW, goR, ↓upd_at, if_true, if_false, reduceCtorEq, ↓reduceIte, Nat.reduceEqDiff, Nat.reduceAdd, Nat.reduceSub, Nat.reduceMul, Nat.reduceBEq, Nat.reduceLT, Nat.reduceLeDiff, Int.reduceToNat, Int.reduceLE, Int.reduceLT, Int.reduceEq, Int.reduceNeg, ← List.map_drop, ← List.map_take, UInt8.reduceToNat, true_implies, implies_true, List.append_eq, y_prelaw2_alive]) (by simp -implicitDefEqProofs only [goW, goR, ↓upd_at, if_true, if_false, reduceCtorEq, ↓reduceIte, Nat.reduceEqDiff, Nat.reduceAdd, Nat.reduceSub, Nat.reduceMul, Nat.reduceBEq, Nat.reduceLT, Nat.reduceLeDiff, Int.reduceToNat, Int.reduceLE, Int.reduceLT, Int.reduceEq, Int.reduceNeg, ← List.map_drop, ← List.map_take, UInt8.reduceToNat, true_implies, implies_true, List.append_eq, y_prelaw2_alive])
        · try simp -implicitDefEqProofs only [goR, ↓upd_at, if_true, if_false, reduceCtorEq, ↓reduceIte, Nat.reduceEqDiff, Nat.reduceAdd, Nat.reduceSub, Nat.reduceMul, Nat.reduceBEq, Nat.reduceLT, Nat.reduceLeDiff, Int.reduceToNat, Int.reduceLE, Int.reduceLT, Int.reduceEq, Int.reduceNeg, ← List.map_drop, ← List.map_take, UInt8.reduceToNat, true_implies, implies_true, List.append_eq, y_prelaw2_alive] at hp3
          have hq3 := hp3
          try simp only [goT] at hq3
          refine w_region rfl (fun K hK => ?_)
          simp -implicitDefEqProofs only [goR, ↓upd_at, if_true, if_false, reduceCtorEq, ↓reduceIte, Nat.reduceEqDiff, Nat.reduceAdd, Nat.reduceSub, Nat.reduceMul, Nat.reduceBEq, Nat.reduceLT, Nat.reduceLeDiff, Int.reduceToNat, Int.reduceLE, Int.reduceLT, Int.reduceEq, Int.reduceNeg, ← List.map_drop, ← List.map_take, UInt8.reduceToNat, true_implies, implies_true, List.append_eq, y_prelaw2_alive, hp1, hc2.1, hc2.2, hp2, hc3.1, hc3.2, hp3]
          (repeat' (first | ((with_reducible refine hK _ _ ?_); clear hK K) | (with_reducible apply And.intro) | (exact trivial) | (clear hK K; assumption) | (clear hK K; omega)))
          refine cut_at H ?_
          exact wk_ren ⟨[], []⟩ rfl rfl rfl rfl rfl (by simp -implicitDefEqProofs only [goW, goR, ↓upd_at, if_true, if_false, reduceCtorEq, ↓reduceIte, Nat.reduceEqDiff, Nat.reduceAdd, Nat.reduceSub, Nat.reduceMul, Nat.reduceBEq, Nat.reduceLT, Nat.reduceLeDiff, Int.reduceToNat, Int.reduceLE, Int.reduceLT, Int.reduceEq, Int.reduceNeg, ← List.map_drop, ← List.map_take, UInt8.reduceToNat, true_implies, implies_true, List.append_eq, y_prelaw2_alive]) (by simp -implicitDefEqProofs only [goW, goR, ↓upd_at, if_true, if_false, reduceCtorEq, ↓reduceIte, Nat.reduceEqDiff, Nat.reduceAdd, Nat.reduceSub, Nat.reduceMul, Nat.reduceBEq, Nat.reduceLT, Nat.reduceLeDiff, Int.reduceToNat, Int.reduceLE, Int.reduceLT, Int.reduceEq, Int.reduceNeg, ← List.map_drop, ← List.map_take, UInt8.reduceToNat, true_implies, implies_true, List.append_eq, y_prelaw2_alive]) (by simp -implicitDefEqProofs only [goW, goR, ↓upd_at, if_true, if_false, reduceCtorEq, ↓reduceIte, Nat.reduceEqDiff, Nat.reduceAdd, Nat.reduceSub, Nat.reduceMul, Nat.reduceBEq, Nat.reduceLT, Nat.reduceLeDiff, Int.reduceToNat, Int.reduceLE, Int.reduceLT, Int.reduceEq, Int.reduceNeg, ← List.map_drop, ← List.map_take, UInt8.reduceToNat, true_implies, implies_true, List.append_eq, y_prelaw2_alive])
      · try simp -implicitDefEqProofs only [goR, ↓upd_at, if_true, if_false, reduceCtorEq, ↓reduceIte, Nat.reduceEqDiff, Nat.reduceAdd, Nat.reduceSub, Nat.reduceMul, Nat.reduceBEq, Nat.reduceLT, Nat.reduceLeDiff, Int.reduceToNat, Int.reduceLE, Int.reduceLT, Int.reduceEq, Int.reduceNeg, ← List.map_drop, ← List.map_take, UInt8.reduceToNat, true_implies, implies_true, List.append_eq, y_prelaw2_alive] at hp2
        have hq2 := hp2
        try simp only [goT] at hq2
        refine w_region rfl (fun K hK => ?_)
        simp -implicitDefEqProofs only [goR, ↓upd_at, if_true, if_false, reduceCtorEq, ↓reduceIte, Nat.reduceEqDiff, Nat.reduceAdd, Nat.reduceSub, Nat.reduceMul, Nat.reduceBEq, Nat.reduceLT, Nat.reduceLeDiff, Int.reduceToNat, Int.reduceLE, Int.reduceLT, Int.reduceEq, Int.reduceNeg, ← List.map_drop, ← List.map_take, UInt8.reduceToNat, true_implies, implies_true, List.append_eq, y_prelaw2_alive, hp1, hc2.1, hc2.2, hp2]
        (repeat' (first | ((with_reducible refine hK _ _ ?_); clear hK K) | (with_reducible apply And.intro) | (exact trivial) | (clear hK K; assumption) | (clear hK K; omega)))
        refine cut_at H ?_
        exact wk_ren ⟨[], []⟩ rfl rfl rfl rfl rfl (by simp -implicitDefEqProofs only [goW, goR, ↓upd_at, if_true, if_false, reduceCtorEq, ↓reduceIte, Nat.reduceEqDiff, Nat.reduceAdd, Nat.reduceSub, Nat.reduceMul, Nat.reduceBEq, Nat.reduceLT, Nat.reduceLeDiff, Int.reduceToNat, Int.reduceLE, Int.reduceLT, Int.reduceEq, Int.reduceNeg, ← List.map_drop, ← List.map_take, UInt8.reduceToNat, true_implies, implies_true, List.append_eq, y_prelaw2_alive]) (by simp -implicitDefEqProofs only [goW, goR, ↓upd_at, if_true, if_false, reduceCtorEq, ↓reduceIte, Nat.reduceEqDiff, Nat.reduceAdd, Nat.reduceSub, Nat.reduceMul, Nat.reduceBEq, Nat.reduceLT, Nat.reduceLeDiff, Int.reduceToNat, Int.reduceLE, Int.reduceLT, Int.reduceEq, Int.reduceNeg, ← List.map_drop, ← List.map_take, UInt8.reduceToNat, true_implies, implies_true, List.append_eq, y_prelaw2_alive]) (by simp -implicitDefEqProofs only [goW, goR, ↓upd_at, if_true, if_false, reduceCtorEq, ↓reduceIte, Nat.reduceEqDiff, Nat.reduceAdd, Nat.reduceSub, Nat.reduceMul, Nat.reduceBEq, Nat.reduceLT, Nat.reduceLeDiff, Int.reduceToNat, Int.reduceLE, Int.reduceLT, Int.reduceEq, Int.reduceNeg, ← List.map_drop, ← List.map_take, UInt8.reduceToNat, true_implies, implies_true, List.append_eq, y_prelaw2_alive])
    · try simp -implicitDefEqProofs only [goR, ↓upd_at, if_true, if_false, reduceCtorEq, ↓reduceIte, Nat.reduceEqDiff, Nat.reduceAdd, Nat.reduceSub, Nat.reduceMul, Nat.reduceBEq, Nat.reduceLT, Nat.reduceLeDiff, Int.reduceToNat, Int.reduceLE, Int.reduceLT, Int.reduceEq, Int.reduceNeg, ← List.map_drop, ← List.map_take, UInt8.reduceToNat, true_implies, implies_true, List.append_eq, y_prelaw2_alive] at hp1
      have hq1 := hp1
      try simp only [goT] at hq1
      refine w_region rfl (fun K hK => ?_)
      simp -implicitDefEqProofs only [goR, ↓upd_at, if_true, if_false, reduceCtorEq, ↓reduceIte, Nat.reduceEqDiff, Nat.reduceAdd, Nat.reduceSub, Nat.reduceMul, Nat.reduceBEq, Nat.reduceLT, Nat.reduceLeDiff, Int.reduceToNat, Int.reduceLE, Int.reduceLT, Int.reduceEq, Int.reduceNeg, ← List.map_drop, ← List.map_take, UInt8.reduceToNat, true_implies, implies_true, List.append_eq, y_prelaw2_alive, hp1]
      (repeat' (first | ((with_reducible refine hK _ _ ?_); clear hK K) | (with_reducible apply And.intro) | (exact trivial) | (clear hK K; assumption) | (clear hK K; omega)))
      refine cut_at H ?_
      exact wk_ren ⟨[], []⟩ rfl rfl rfl rfl rfl (by simp -implicitDefEqProofs only [goW, goR, ↓upd_at, if_true, if_false, reduceCtorEq, ↓reduceIte, Nat.reduceEqDiff, Nat.reduceAdd, Nat.reduceSub, Nat.reduceMul, Nat.reduceBEq, Nat.reduceLT, Nat.reduceLeDiff, Int.reduceToNat, Int.reduceLE, Int.reduceLT, Int.reduceEq, Int.reduceNeg, ← List.map_drop, ← List.map_take, UInt8.reduceToNat, true_implies, implies_true, List.append_eq, y_prelaw2_alive]) (by simp -implicitDefEqProofs only [goW, goR, ↓upd_at, if_true, if_false, reduceCtorEq, ↓reduceIte, Nat.reduceEqDiff, Nat.reduceAdd, Nat.reduceSub, Nat.reduceMul, Nat.reduceBEq, Nat.reduceLT, Nat.reduceLeDiff, Int.reduceToNat, Int.reduceLE, Int.reduceLT, Int.reduceEq, Int.reduceNeg, ← List.map_drop, ← List.map_take, UInt8.reduceToNat, true_implies, implies_true, List.append_eq, y_prelaw2_alive]) (by simp -implicitDefEqProofs only [goW, goR, ↓upd_at, if_true, if_false, reduceCtorEq, ↓reduceIte, Nat.reduceEqDiff, Nat.reduceAdd, Nat.reduceSub, Nat.reduceMul, Nat.reduceBEq, Nat.reduceLT, Nat.reduceLeDiff, Int.reduceToNat, Int.reduceLE, Int.reduceLT, Int.reduceEq, Int.reduceNeg, ← List.map_drop, ← List.map_take, UInt8.reduceToNat, true_implies, implies_true, List.append_eq, y_prelaw2_alive])
  · rintro x1 H
    rw [prelaw2_alive_j1] at H
    refine w_ret ?_
    obtain rfl := Option.some.inj H
    simp -implicitDefEqProofs only [goQ, Try.results21, goR, ↓upd_at, if_true, if_false, reduceCtorEq, ↓reduceIte, Nat.reduceEqDiff, Nat.reduceAdd, Nat.reduceSub, Nat.reduceMul, Nat.reduceBEq, Nat.reduceLT, Nat.reduceLeDiff, Int.reduceToNat, Int.reduceLE, Int.reduceLT, Int.reduceEq, Int.reduceNeg, ← List.map_drop, ← List.map_take, UInt8.reduceToNat, true_implies, implies_true, List.append_eq, y_prelaw2_alive]
theorem prelaw2_alive_c  (r : Bool) (H : prelaw2_alive  = some r) : pf_prelaw2_alive.pre [] = True ∧ pf_prelaw2_alive.val [] = dB r :=
  ⟨PF.of_pre (enc := c_prelaw2_alive) (f := fun _ => prelaw2_alive) (e := e_prelaw2_alive) (a := ()) H, PF.of_val (enc := c_prelaw2_alive) (f := fun _ => prelaw2_alive) (e := e_prelaw2_alive) (a := ()) c_prelaw2_alive_inj H⟩
noncomputable def prelaw2_SpliceTells_j5 (x4 : Int) : Int → Option ((Int × Int) ⊕ Bool)
  | x6 => some (.inl (x6, IntKind.i64.wrap (x4 - 1)))
noncomputable def prelaw2_SpliceTells_j7 : Bool → Option Bool
  | x9 => some x9
noncomputable def prelaw2_SpliceTells_b6 (a1 : Int) (r1 : Spliced) (r2 : Spliced) (x2 : Int) (x3 : Int) : (Int × Int) → Option ((Int × Int) ⊕ Bool)
  | (x7, x8) => if (ltI x8 x7) = true then if (0 : Int) ≤ x8 ∧ x8.toNat < r1.At.length then if (0 : Int) ≤ x8 ∧ x8.toNat < r2.At.length then if (!eqI (r1.At.getD x8.toNat default) (r2.At.getD x8.toNat default)) = true then inrO (some false) else some (.inl (x7, IntKind.i64.wrap (x8 + 1))) else none else none else inrO ((splice_Where r1 a1).bind fun r3 => if (eqI r3 x2) = true then (splice_Back r1 a1).bind fun r4 => prelaw2_SpliceTells_j7 (eqI r4 x3) else prelaw2_SpliceTells_j7 false)
noncomputable def prelaw2_SpliceTells_j4 (a1 : Int) (r1 : Spliced) (r2 : Spliced) (x2 : Int) (x3 : Int) (x4 : Int) : Bool → Option ((Int × Int) ⊕ Bool)
  | x5 => if x5 = true then if (0 : Int) ≤ x4 ∧ x4.toNat < r2.At.length then if (leI a1 (r2.At.getD x4.toNat default)) = true then prelaw2_SpliceTells_j5 x4 x4 else prelaw2_SpliceTells_j5 x4 x3 else none else inrO (loopO (prelaw2_SpliceTells_b6 a1 r1 r2 x2 x3) ((r2.At.length : Int), 0))
noncomputable def prelaw2_SpliceTells_b3 (a1 : Int) (r1 : Spliced) (r2 : Spliced) (x2 : Int) : (Int × Int) → Option ((Int × Int) ⊕ Bool)
  | (x3, x4) => if (leI 0 x4) = true then prelaw2_SpliceTells_j4 a1 r1 r2 x2 x3 x4 (leI 0 a1) else prelaw2_SpliceTells_j4 a1 r1 r2 x2 x3 x4 false
noncomputable def prelaw2_SpliceTells_j2 (a1 : Int) (r1 : Spliced) (r2 : Spliced) : Int → Option Bool
  | x2 => loopO (prelaw2_SpliceTells_b3 a1 r1 r2 x2) ((-1), IntKind.i64.wrap ((r2.At.length : Int) - 1))
noncomputable def prelaw2_SpliceTells_j8 (a1 : Int) (r1 : Spliced) (r2 : Spliced) : Bool → Option Bool
  | x10 => if x10 = true then if (0 : Int) ≤ a1 ∧ a1.toNat < r2.At.length then prelaw2_SpliceTells_j2 a1 r1 r2 (r2.At.getD a1.toNat default) else none else prelaw2_SpliceTells_j2 a1 r1 r2 (-1)
noncomputable def prelaw2_SpliceTells_j1 (a1 : Int) (r1 : Spliced) (r2 : Spliced) : Bool → Option Bool
  | x1 => if x1 = true then some false else if (leI 0 a1) = true then prelaw2_SpliceTells_j8 a1 r1 r2 (ltI a1 (r2.At.length : Int)) else prelaw2_SpliceTells_j8 a1 r1 r2 false
noncomputable def prelaw2_SpliceTells (a0 : List UInt8) (a1 : Int) : Option Bool :=
  (splice_Text a0).bind fun r1 => (preref1_Splice a0).bind fun r2 => if (!eqS r1.Text r2.Text) = true then prelaw2_SpliceTells_j1 a1 r1 r2 true else if (!eqI (r1.At.length : Int) (r2.At.length : Int)) = true then prelaw2_SpliceTells_j1 a1 r1 r2 true else (splice_Lines a0 a1).bind fun r5 => (preref1_Line a0 a1).bind fun r6 => prelaw2_SpliceTells_j1 a1 r1 r2 (!eqI r5 r6)
def e_prelaw2_SpliceTells : Bool → D := dB
def c_prelaw2_SpliceTells : (List UInt8) × Int → List D := fun a => [dS a.1, dI a.2]
theorem c_prelaw2_SpliceTells_inj : Inj c_prelaw2_SpliceTells := by rintro ⟨a0, a1⟩ ⟨b0, b1⟩ h; simp only [c_prelaw2_SpliceTells, List.map_cons, List.map_nil, List.cons.injEq, and_true] at h; obtain ⟨h0, h1⟩ := h; obtain rfl := (dS_inj _ _) h0; obtain rfl := (dI_inj _ _) h1; rfl
noncomputable def pf_prelaw2_SpliceTells : PF := PF.of c_prelaw2_SpliceTells (fun a => prelaw2_SpliceTells a.1 a.2) e_prelaw2_SpliceTells
noncomputable def t_prelaw2_SpliceTells : Tab := tabOf Try.prog [(15, pf_splice_Text), (16, pf_preref1_Splice), (19, pf_splice_Where), (20, pf_splice_Back), (17, pf_splice_Lines), (18, pf_preref1_Line)] []
theorem t_prelaw2_SpliceTells_ok : TabOk t_prelaw2_SpliceTells := tabOf_ok (by exact ⟨⟨call_15, splice_Text_ok⟩, ⟨call_16, preref1_Splice_ok⟩, ⟨call_19, splice_Where_ok⟩, ⟨call_20, splice_Back_ok⟩, ⟨call_17, splice_Lines_ok⟩, ⟨call_18, preref1_Line_ok⟩, trivial⟩) trivial
theorem y_prelaw2_SpliceTells : ((((((type_of% @tAgg_22) ∧ (type_of% @tAgg_24)) ∧ ((type_of% @tAgg_3) ∧ (type_of% @tAgg_9))) ∧ (((type_of% @tBytes_3) ∧ (type_of% @tCS_22)) ∧ ((type_of% @tCS_24) ∧ (type_of% @tCS_3)))) ∧ ((((type_of% @tCS_9) ∧ (type_of% @tElem_22)) ∧ ((type_of% @tFld_24_0) ∧ (type_of% @tFld_24_1))) ∧ (((type_of% @tKnown_22) ∧ (type_of% @tKnown_24)) ∧ ((type_of% @tKnown_3) ∧ (type_of% @tKnown_9))))) ∧ (((((type_of% @tOff_24_0) ∧ (type_of% @tOff_24_1)) ∧ ((type_of% @tSize_22) ∧ (type_of% @tSize_24))) ∧ (((type_of% @tSize_3) ∧ (type_of% @tSize_9)) ∧ ((type_of% @tSlice_22) ∧ (type_of% @tStruct_24_0)))) ∧ ((((type_of% @tStruct_24_1) ∧ (type_of% @tZ_24)) ∧ ((type_of% @tZ_3) ∧ (type_of% @tZok_24))) ∧ (((type_of% @tZok_3) ∧ (type_of% @d_Spliced.eq_1)) ∧ ((type_of% @t_prelaw2_SpliceTells.eq_1) ∧ ((type_of% @c_prelaw2_SpliceTells.eq_1) ∧ (type_of% @e_prelaw2_SpliceTells.eq_1))))))) := ⟨⟨⟨⟨⟨@tAgg_22, @tAgg_24⟩, ⟨@tAgg_3, @tAgg_9⟩⟩, ⟨⟨@tBytes_3, @tCS_22⟩, ⟨@tCS_24, @tCS_3⟩⟩⟩, ⟨⟨⟨@tCS_9, @tElem_22⟩, ⟨@tFld_24_0, @tFld_24_1⟩⟩, ⟨⟨@tKnown_22, @tKnown_24⟩, ⟨@tKnown_3, @tKnown_9⟩⟩⟩⟩, ⟨⟨⟨⟨@tOff_24_0, @tOff_24_1⟩, ⟨@tSize_22, @tSize_24⟩⟩, ⟨⟨@tSize_3, @tSize_9⟩, ⟨@tSlice_22, @tStruct_24_0⟩⟩⟩, ⟨⟨⟨@tStruct_24_1, @tZ_24⟩, ⟨@tZ_3, @tZok_24⟩⟩, ⟨⟨@tZok_3, @d_Spliced.eq_1⟩, ⟨@t_prelaw2_SpliceTells.eq_1, ⟨@c_prelaw2_SpliceTells.eq_1, @e_prelaw2_SpliceTells.eq_1⟩⟩⟩⟩⟩⟩
set_option maxRecDepth 100000 in
set_option maxHeartbeats 4000000 in
theorem prelaw2_SpliceTells_ok : PureOk Try.prog 3 pf_prelaw2_SpliceTells := by
  refine pure_of (t := t_prelaw2_SpliceTells) (pure := fun n => [15, 16, 19, 20, 17, 18].contains n) c_prelaw2_SpliceTells_inj t_prelaw2_SpliceTells_ok mixed (fun n hn => tabOf_pure rfl n hn) Try.func3 rfl (by kernel_rfl) (fun a => by simp [c_prelaw2_SpliceTells, Try.ntmps3]) ?_
  rintro ⟨a0, a1⟩ out H
  simp only [prelaw2_SpliceTells] at H
  show aC _ _ (sig0 (List.map (fun d => AV.c (C.d d)) (c_prelaw2_SpliceTells (a0, a1)))) _ _
  refine w_seq ?_
  refine w_region rfl (fun K hK => ?_)
  simp -implicitDefEqProofs only [goR, ↓upd_at, if_true, if_false, reduceCtorEq, ↓reduceIte, Nat.reduceEqDiff, Nat.reduceAdd, Nat.reduceSub, Nat.reduceMul, Nat.reduceBEq, Nat.reduceLT, Nat.reduceLeDiff, Int.reduceToNat, Int.reduceLE, Int.reduceLT, Int.reduceEq, Int.reduceNeg, ← List.map_drop, ← List.map_take, UInt8.reduceToNat, true_implies, implies_true, List.append_eq, y_prelaw2_SpliceTells]
  (repeat' (first | ((with_reducible refine hK _ _ ?_); clear hK K) | (with_reducible apply And.intro) | (exact trivial) | (clear hK K; assumption) | (clear hK K; omega)))
  refine then_normal ?_
  refine w_seq ?_
  obtain ⟨r1, hr1, H⟩ := osplit H
  have hc1 := splice_Text_c a0 r1 hr1
  simp -implicitDefEqProofs only [goR, ↓upd_at, if_true, if_false, reduceCtorEq, ↓reduceIte, Nat.reduceEqDiff, Nat.reduceAdd, Nat.reduceSub, Nat.reduceMul, Nat.reduceBEq, Nat.reduceLT, Nat.reduceLeDiff, Int.reduceToNat, Int.reduceLE, Int.reduceLT, Int.reduceEq, Int.reduceNeg, ← List.map_drop, ← List.map_take, UInt8.reduceToNat, true_implies, implies_true, List.append_eq, y_prelaw2_SpliceTells] at hc1
  obtain ⟨r2, hr2, H⟩ := osplit H
  have hc2 := preref1_Splice_c a0 r2 hr2
  simp -implicitDefEqProofs only [goR, ↓upd_at, if_true, if_false, reduceCtorEq, ↓reduceIte, Nat.reduceEqDiff, Nat.reduceAdd, Nat.reduceSub, Nat.reduceMul, Nat.reduceBEq, Nat.reduceLT, Nat.reduceLeDiff, Int.reduceToNat, Int.reduceLE, Int.reduceLT, Int.reduceEq, Int.reduceNeg, ← List.map_drop, ← List.map_take, UInt8.reduceToNat, true_implies, implies_true, List.append_eq, y_prelaw2_SpliceTells] at hc2
  refine w_region rfl (fun K hK => ?_)
  simp -implicitDefEqProofs only [goR, ↓upd_at, if_true, if_false, reduceCtorEq, ↓reduceIte, Nat.reduceEqDiff, Nat.reduceAdd, Nat.reduceSub, Nat.reduceMul, Nat.reduceBEq, Nat.reduceLT, Nat.reduceLeDiff, Int.reduceToNat, Int.reduceLE, Int.reduceLT, Int.reduceEq, Int.reduceNeg, ← List.map_drop, ← List.map_take, UInt8.reduceToNat, true_implies, implies_true, List.append_eq, y_prelaw2_SpliceTells, hc1.1, hc1.2, hc2.1, hc2.2]
  (repeat' (first | ((with_reducible refine hK _ _ ?_); clear hK K) | (with_reducible apply And.intro) | (exact trivial) | (clear hK K; assumption) | (clear hK K; omega)))
  refine then_normal ?_
  refine w_seq ?_
  refine w_cut (prelaw2_SpliceTells_j1 a1 r1 r2) (fun s => [(1, .c (.d (.v (.int .i64 a1)))), (5, .c (.pt 1 0)), (6, .c (.pt 2 0)), (37, .c (.d (.v (.bool s))))]) (fun s => [[.d (.v (str r1.Text)), .d (.sl 1 (List.map dI r1.At))], [.d (.v (str r2.Text)), .d (.sl 1 (List.map dI r2.At))]]) [] out ?_ ?_
  · rcases bsplit H with ⟨hp10, H⟩ | ⟨hp10, H⟩
    · try simp -implicitDefEqProofs only [goR, ↓upd_at, if_true, if_false, reduceCtorEq, ↓reduceIte, Nat.reduceEqDiff, Nat.reduceAdd, Nat.reduceSub, Nat.reduceMul, Nat.reduceBEq, Nat.reduceLT, Nat.reduceLeDiff, Int.reduceToNat, Int.reduceLE, Int.reduceLT, Int.reduceEq, Int.reduceNeg, ← List.map_drop, ← List.map_take, UInt8.reduceToNat, true_implies, implies_true, List.append_eq, y_prelaw2_SpliceTells] at hp10
      have hq10 := hp10
      try simp only [goT] at hq10
      refine w_region rfl (fun K hK => ?_)
      simp -implicitDefEqProofs only [goR, ↓upd_at, if_true, if_false, reduceCtorEq, ↓reduceIte, Nat.reduceEqDiff, Nat.reduceAdd, Nat.reduceSub, Nat.reduceMul, Nat.reduceBEq, Nat.reduceLT, Nat.reduceLeDiff, Int.reduceToNat, Int.reduceLE, Int.reduceLT, Int.reduceEq, Int.reduceNeg, ← List.map_drop, ← List.map_take, UInt8.reduceToNat, true_implies, implies_true, List.append_eq, y_prelaw2_SpliceTells, hp10]
      (repeat' (first | ((with_reducible refine hK _ _ ?_); clear hK K) | (with_reducible apply And.intro) | (exact trivial) | (clear hK K; assumption) | (clear hK K; omega)))
      refine cut_at H ?_
      exact wk_ren ⟨[1, 2], []⟩ rfl rfl rfl rfl rfl (by simp -implicitDefEqProofs only [goW, goR, ↓upd_at, if_true, if_false, reduceCtorEq, ↓reduceIte, Nat.reduceEqDiff, Nat.reduceAdd, Nat.reduceSub, Nat.reduceMul, Nat.reduceBEq, Nat.reduceLT, Nat.reduceLeDiff, Int.reduceToNat, Int.reduceLE, Int.reduceLT, Int.reduceEq, Int.reduceNeg, ← List.map_drop, ← List.map_take, UInt8.reduceToNat, true_implies, implies_true, List.append_eq, y_prelaw2_SpliceTells]) (by simp -implicitDefEqProofs only [goW, goR, ↓upd_at, if_true, if_false, reduceCtorEq, ↓reduceIte, Nat.reduceEqDiff, Nat.reduceAdd, Nat.reduceSub, Nat.reduceMul, Nat.reduceBEq, Nat.reduceLT, Nat.reduceLeDiff, Int.reduceToNat, Int.reduceLE, Int.reduceLT, Int.reduceEq, Int.reduceNeg, ← List.map_drop, ← List.map_take, UInt8.reduceToNat, true_implies, implies_true, List.append_eq, y_prelaw2_SpliceTells]) (by simp -implicitDefEqProofs only [goW, goR, ↓upd_at, if_true, if_false, reduceCtorEq, ↓reduceIte, Nat.reduceEqDiff, Nat.reduceAdd, Nat.reduceSub, Nat.reduceMul, Nat.reduceBEq, Nat.reduceLT, Nat.reduceLeDiff, Int.reduceToNat, Int.reduceLE, Int.reduceLT, Int.reduceEq, Int.reduceNeg, ← List.map_drop, ← List.map_take, UInt8.reduceToNat, true_implies, implies_true, List.append_eq, y_prelaw2_SpliceTells])
    · try simp -implicitDefEqProofs only [goR, ↓upd_at, if_true, if_false, reduceCtorEq, ↓reduceIte, Nat.reduceEqDiff, Nat.reduceAdd, Nat.reduceSub, Nat.reduceMul, Nat.reduceBEq, Nat.reduceLT, Nat.reduceLeDiff, Int.reduceToNat, Int.reduceLE, Int.reduceLT, Int.reduceEq, Int.reduceNeg, ← List.map_drop, ← List.map_take, UInt8.reduceToNat, true_implies, implies_true, List.append_eq, y_prelaw2_SpliceTells] at hp10
      have hq10 := hp10
      try simp only [goT] at hq10
      rcases bsplit H with ⟨hp11, H⟩ | ⟨hp11, H⟩
      · try simp -implicitDefEqProofs only [goR, ↓upd_at, if_true, if_false, reduceCtorEq, ↓reduceIte, Nat.reduceEqDiff, Nat.reduceAdd, Nat.reduceSub, Nat.reduceMul, Nat.reduceBEq, Nat.reduceLT, Nat.reduceLeDiff, Int.reduceToNat, Int.reduceLE, Int.reduceLT, Int.reduceEq, Int.reduceNeg, ← List.map_drop, ← List.map_take, UInt8.reduceToNat, true_implies, implies_true, List.append_eq, y_prelaw2_SpliceTells] at hp11
        have hq11 := hp11
        try simp only [goT] at hq11
        refine w_region rfl (fun K hK => ?_)
        simp -implicitDefEqProofs only [goR, ↓upd_at, if_true, if_false, reduceCtorEq, ↓reduceIte, Nat.reduceEqDiff, Nat.reduceAdd, Nat.reduceSub, Nat.reduceMul, Nat.reduceBEq, Nat.reduceLT, Nat.reduceLeDiff, Int.reduceToNat, Int.reduceLE, Int.reduceLT, Int.reduceEq, Int.reduceNeg, ← List.map_drop, ← List.map_take, UInt8.reduceToNat, true_implies, implies_true, List.append_eq, y_prelaw2_SpliceTells, hp10, hp11]
        (repeat' (first | ((with_reducible refine hK _ _ ?_); clear hK K) | (with_reducible apply And.intro) | (exact trivial) | (clear hK K; assumption) | (clear hK K; omega)))
        refine cut_at H ?_
        exact wk_ren ⟨[1, 2], []⟩ rfl rfl rfl rfl rfl (by simp -implicitDefEqProofs only [goW, goR, ↓upd_at, if_true, if_false, reduceCtorEq, ↓reduceIte, Nat.reduceEqDiff, Nat.reduceAdd, Nat.reduceSub, Nat.reduceMul, Nat.reduceBEq, Nat.reduceLT, Nat.reduceLeDiff, Int.reduceToNat, Int.reduceLE, Int.reduceLT, Int.reduceEq, Int.reduceNeg, ← List.map_drop, ← List.map_take, UInt8.reduceToNat, true_implies, implies_true, List.append_eq, y_prelaw2_SpliceTells]) (by simp -implicitDefEqProofs only [goW, goR, ↓upd_at, if_true, if_false, reduceCtorEq, ↓reduceIte, Nat.reduceEqDiff, Nat.reduceAdd, Nat.reduceSub, Nat.reduceMul, Nat.reduceBEq, Nat.reduceLT, Nat.reduceLeDiff, Int.reduceToNat, Int.reduceLE, Int.reduceLT, Int.reduceEq, Int.reduceNeg, ← List.map_drop, ← List.map_take, UInt8.reduceToNat, true_implies, implies_true, List.append_eq, y_prelaw2_SpliceTells]) (by simp -implicitDefEqProofs only [goW, goR, ↓upd_at, if_true, if_false, reduceCtorEq, ↓reduceIte, Nat.reduceEqDiff, Nat.reduceAdd, Nat.reduceSub, Nat.reduceMul, Nat.reduceBEq, Nat.reduceLT, Nat.reduceLeDiff, Int.reduceToNat, Int.reduceLE, Int.reduceLT, Int.reduceEq, Int.reduceNeg, ← List.map_drop, ← List.map_take, UInt8.reduceToNat, true_implies, implies_true, List.append_eq, y_prelaw2_SpliceTells])
      · try simp -implicitDefEqProofs only [goR, ↓upd_at, if_true, if_false, reduceCtorEq, ↓reduceIte, Nat.reduceEqDiff, Nat.reduceAdd, Nat.reduceSub, Nat.reduceMul, Nat.reduceBEq, Nat.reduceLT, Nat.reduceLeDiff, Int.reduceToNat, Int.reduceLE, Int.reduceLT, Int.reduceEq, Int.reduceNeg, ← List.map_drop, ← List.map_take, UInt8.reduceToNat, true_implies, implies_true, List.append_eq, y_prelaw2_SpliceTells] at hp11
        have hq11 := hp11
        try simp only [goT] at hq11
        obtain ⟨r5, hr5, H⟩ := osplit H
        have hc5 := splice_Lines_c a0 a1 r5 hr5
        simp -implicitDefEqProofs only [goR, ↓upd_at, if_true, if_false, reduceCtorEq, ↓reduceIte, Nat.reduceEqDiff, Nat.reduceAdd, Nat.reduceSub, Nat.reduceMul, Nat.reduceBEq, Nat.reduceLT, Nat.reduceLeDiff, Int.reduceToNat, Int.reduceLE, Int.reduceLT, Int.reduceEq, Int.reduceNeg, ← List.map_drop, ← List.map_take, UInt8.reduceToNat, true_implies, implies_true, List.append_eq, y_prelaw2_SpliceTells] at hc5
        obtain ⟨r6, hr6, H⟩ := osplit H
        have hc6 := preref1_Line_c a0 a1 r6 hr6
        simp -implicitDefEqProofs only [goR, ↓upd_at, if_true, if_false, reduceCtorEq, ↓reduceIte, Nat.reduceEqDiff, Nat.reduceAdd, Nat.reduceSub, Nat.reduceMul, Nat.reduceBEq, Nat.reduceLT, Nat.reduceLeDiff, Int.reduceToNat, Int.reduceLE, Int.reduceLT, Int.reduceEq, Int.reduceNeg, ← List.map_drop, ← List.map_take, UInt8.reduceToNat, true_implies, implies_true, List.append_eq, y_prelaw2_SpliceTells] at hc6
        refine w_region rfl (fun K hK => ?_)
        simp -implicitDefEqProofs only [goR, ↓upd_at, if_true, if_false, reduceCtorEq, ↓reduceIte, Nat.reduceEqDiff, Nat.reduceAdd, Nat.reduceSub, Nat.reduceMul, Nat.reduceBEq, Nat.reduceLT, Nat.reduceLeDiff, Int.reduceToNat, Int.reduceLE, Int.reduceLT, Int.reduceEq, Int.reduceNeg, ← List.map_drop, ← List.map_take, UInt8.reduceToNat, true_implies, implies_true, List.append_eq, y_prelaw2_SpliceTells, hp10, hp11, hc5.1, hc5.2, hc6.1, hc6.2]
        (repeat' (first | ((with_reducible refine hK _ _ ?_); clear hK K) | (with_reducible apply And.intro) | (exact trivial) | (clear hK K; assumption) | (clear hK K; omega)))
        refine cut_at H ?_
        exact wk_ren ⟨[1, 2], []⟩ rfl rfl rfl rfl rfl (by simp -implicitDefEqProofs only [goW, goR, ↓upd_at, if_true, if_false, reduceCtorEq, ↓reduceIte, Nat.reduceEqDiff, Nat.reduceAdd, Nat.reduceSub, Nat.reduceMul, Nat.reduceBEq, Nat.reduceLT, Nat.reduceLeDiff, Int.reduceToNat, Int.reduceLE, Int.reduceLT, Int.reduceEq, Int.reduceNeg, ← List.map_drop, ← List.map_take, UInt8.reduceToNat, true_implies, implies_true, List.append_eq, y_prelaw2_SpliceTells]) (by simp -implicitDefEqProofs only [goW, goR, ↓upd_at, if_true, if_false, reduceCtorEq, ↓reduceIte, Nat.reduceEqDiff, Nat.reduceAdd, Nat.reduceSub, Nat.reduceMul, Nat.reduceBEq, Nat.reduceLT, Nat.reduceLeDiff, Int.reduceToNat, Int.reduceLE, Int.reduceLT, Int.reduceEq, Int.reduceNeg, ← List.map_drop, ← List.map_take, UInt8.reduceToNat, true_implies, implies_true, List.append_eq, y_prelaw2_SpliceTells]) (by simp -implicitDefEqProofs only [goW, goR, ↓upd_at, if_true, if_false, reduceCtorEq, ↓reduceIte, Nat.reduceEqDiff, Nat.reduceAdd, Nat.reduceSub, Nat.reduceMul, Nat.reduceBEq, Nat.reduceLT, Nat.reduceLeDiff, Int.reduceToNat, Int.reduceLE, Int.reduceLT, Int.reduceEq, Int.reduceNeg, ← List.map_drop, ← List.map_take, UInt8.reduceToNat, true_implies, implies_true, List.append_eq, y_prelaw2_SpliceTells])
  · rintro x1 H
    rw [prelaw2_SpliceTells_j1] at H
    rcases bsplit H with ⟨hp1, H⟩ | ⟨hp1, H⟩
    · try simp -implicitDefEqProofs only [goR, ↓upd_at, if_true, if_false, reduceCtorEq, ↓reduceIte, Nat.reduceEqDiff, Nat.reduceAdd, Nat.reduceSub, Nat.reduceMul, Nat.reduceBEq, Nat.reduceLT, Nat.reduceLeDiff, Int.reduceToNat, Int.reduceLE, Int.reduceLT, Int.reduceEq, Int.reduceNeg, ← List.map_drop, ← List.map_take, UInt8.reduceToNat, true_implies, implies_true, List.append_eq, y_prelaw2_SpliceTells] at hp1
      have hq1 := hp1
      try simp only [goT] at hq1
      refine w_condT (by simp -implicitDefEqProofs only [goR, ↓upd_at, if_true, if_false, reduceCtorEq, ↓reduceIte, Nat.reduceEqDiff, Nat.reduceAdd, Nat.reduceSub, Nat.reduceMul, Nat.reduceBEq, Nat.reduceLT, Nat.reduceLeDiff, Int.reduceToNat, Int.reduceLE, Int.reduceLT, Int.reduceEq, Int.reduceNeg, ← List.map_drop, ← List.map_take, UInt8.reduceToNat, true_implies, implies_true, List.append_eq, y_prelaw2_SpliceTells, hp1]) ?_
      refine w_seq ?_
      refine w_region rfl (fun K hK => ?_)
      simp -implicitDefEqProofs only [goR, ↓upd_at, if_true, if_false, reduceCtorEq, ↓reduceIte, Nat.reduceEqDiff, Nat.reduceAdd, Nat.reduceSub, Nat.reduceMul, Nat.reduceBEq, Nat.reduceLT, Nat.reduceLeDiff, Int.reduceToNat, Int.reduceLE, Int.reduceLT, Int.reduceEq, Int.reduceNeg, ← List.map_drop, ← List.map_take, UInt8.reduceToNat, true_implies, implies_true, List.append_eq, y_prelaw2_SpliceTells]
      (repeat' (first | ((with_reducible refine hK _ _ ?_); clear hK K) | (with_reducible apply And.intro) | (exact trivial) | (clear hK K; assumption) | (clear hK K; omega)))
      refine then_normal ?_
      refine w_ret ?_
      refine then_ret ?_
      obtain rfl := Option.some.inj H
      simp -implicitDefEqProofs only [goQ, Try.results3, goR, ↓upd_at, if_true, if_false, reduceCtorEq, ↓reduceIte, Nat.reduceEqDiff, Nat.reduceAdd, Nat.reduceSub, Nat.reduceMul, Nat.reduceBEq, Nat.reduceLT, Nat.reduceLeDiff, Int.reduceToNat, Int.reduceLE, Int.reduceLT, Int.reduceEq, Int.reduceNeg, ← List.map_drop, ← List.map_take, UInt8.reduceToNat, true_implies, implies_true, List.append_eq, y_prelaw2_SpliceTells]
    · try simp -implicitDefEqProofs only [goR, ↓upd_at, if_true, if_false, reduceCtorEq, ↓reduceIte, Nat.reduceEqDiff, Nat.reduceAdd, Nat.reduceSub, Nat.reduceMul, Nat.reduceBEq, Nat.reduceLT, Nat.reduceLeDiff, Int.reduceToNat, Int.reduceLE, Int.reduceLT, Int.reduceEq, Int.reduceNeg, ← List.map_drop, ← List.map_take, UInt8.reduceToNat, true_implies, implies_true, List.append_eq, y_prelaw2_SpliceTells] at hp1
      have hq1 := hp1
      try simp only [goT] at hq1
      refine w_condF (by simp -implicitDefEqProofs only [goR, ↓upd_at, if_true, if_false, reduceCtorEq, ↓reduceIte, Nat.reduceEqDiff, Nat.reduceAdd, Nat.reduceSub, Nat.reduceMul, Nat.reduceBEq, Nat.reduceLT, Nat.reduceLeDiff, Int.reduceToNat, Int.reduceLE, Int.reduceLT, Int.reduceEq, Int.reduceNeg, ← List.map_drop, ← List.map_take, UInt8.reduceToNat, true_implies, implies_true, List.append_eq, y_prelaw2_SpliceTells, hp1]) ?_
      refine w_skip ?_
      refine then_normal ?_
      refine w_seq ?_
      refine w_region rfl (fun K hK => ?_)
      simp -implicitDefEqProofs only [goR, ↓upd_at, if_true, if_false, reduceCtorEq, ↓reduceIte, Nat.reduceEqDiff, Nat.reduceAdd, Nat.reduceSub, Nat.reduceMul, Nat.reduceBEq, Nat.reduceLT, Nat.reduceLeDiff, Int.reduceToNat, Int.reduceLE, Int.reduceLT, Int.reduceEq, Int.reduceNeg, ← List.map_drop, ← List.map_take, UInt8.reduceToNat, true_implies, implies_true, List.append_eq, y_prelaw2_SpliceTells]
      (repeat' (first | ((with_reducible refine hK _ _ ?_); clear hK K) | (with_reducible apply And.intro) | (exact trivial) | (clear hK K; assumption) | (clear hK K; omega)))
      refine then_normal ?_
      refine w_cut (prelaw2_SpliceTells_j2 a1 r1 r2) (fun s => [(1, .c (.d (.v (.int .i64 a1)))), (5, .c (.pt 1 0)), (6, .c (.pt 2 0)), (7, .c (.d (.v (.int .i64 s)))), (8, .c (.d (.v (.int .i64 (-1)))))]) (fun s => [[.d (.v (str r1.Text)), .d (.sl 1 (List.map dI r1.At))], [.d (.v (str r2.Text)), .d (.sl 1 (List.map dI r2.At))]]) [] out ?_ ?_
      · refine w_cut (prelaw2_SpliceTells_j8 a1 r1 r2) (fun s => [(1, .c (.d (.v (.int .i64 a1)))), (5, .c (.pt 1 0)), (6, .c (.pt 2 0)), (7, .c (.d (.v (.int .i64 (-1))))), (8, .c (.d (.v (.int .i64 (-1))))), (46, .c (.d (.v (.bool s))))]) (fun s => [[.d (.v (str r1.Text)), .d (.sl 1 (List.map dI r1.At))], [.d (.v (str r2.Text)), .d (.sl 1 (List.map dI r2.At))]]) [] out ?_ ?_
        · rcases bsplit H with ⟨hp9, H⟩ | ⟨hp9, H⟩
          · try simp -implicitDefEqProofs only [goR, ↓upd_at, if_true, if_false, reduceCtorEq, ↓reduceIte, Nat.reduceEqDiff, Nat.reduceAdd, Nat.reduceSub, Nat.reduceMul, Nat.reduceBEq, Nat.reduceLT, Nat.reduceLeDiff, Int.reduceToNat, Int.reduceLE, Int.reduceLT, Int.reduceEq, Int.reduceNeg, ← List.map_drop, ← List.map_take, UInt8.reduceToNat, true_implies, implies_true, List.append_eq, y_prelaw2_SpliceTells] at hp9
            have hq9 := hp9
            try simp only [goT] at hq9
            refine w_region rfl (fun K hK => ?_)
            simp -implicitDefEqProofs only [goR, ↓upd_at, if_true, if_false, reduceCtorEq, ↓reduceIte, Nat.reduceEqDiff, Nat.reduceAdd, Nat.reduceSub, Nat.reduceMul, Nat.reduceBEq, Nat.reduceLT, Nat.reduceLeDiff, Int.reduceToNat, Int.reduceLE, Int.reduceLT, Int.reduceEq, Int.reduceNeg, ← List.map_drop, ← List.map_take, UInt8.reduceToNat, true_implies, implies_true, List.append_eq, y_prelaw2_SpliceTells, hp9]
            (repeat' (first | ((with_reducible refine hK _ _ ?_); clear hK K) | (with_reducible apply And.intro) | (exact trivial) | (clear hK K; assumption) | (clear hK K; omega)))
            refine cut_at H ?_
            exact wk_ren ⟨[1, 2], []⟩ rfl rfl rfl rfl rfl (by simp -implicitDefEqProofs only [goW, goR, ↓upd_at, if_true, if_false, reduceCtorEq, ↓reduceIte, Nat.reduceEqDiff, Nat.reduceAdd, Nat.reduceSub, Nat.reduceMul, Nat.reduceBEq, Nat.reduceLT, Nat.reduceLeDiff, Int.reduceToNat, Int.reduceLE, Int.reduceLT, Int.reduceEq, Int.reduceNeg, ← List.map_drop, ← List.map_take, UInt8.reduceToNat, true_implies, implies_true, List.append_eq, y_prelaw2_SpliceTells]) (by simp -implicitDefEqProofs only [goW, goR, ↓upd_at, if_true, if_false, reduceCtorEq, ↓reduceIte, Nat.reduceEqDiff, Nat.reduceAdd, Nat.reduceSub, Nat.reduceMul, Nat.reduceBEq, Nat.reduceLT, Nat.reduceLeDiff, Int.reduceToNat, Int.reduceLE, Int.reduceLT, Int.reduceEq, Int.reduceNeg, ← List.map_drop, ← List.map_take, UInt8.reduceToNat, true_implies, implies_true, List.append_eq, y_prelaw2_SpliceTells]) (by simp -implicitDefEqProofs only [goW, goR, ↓upd_at, if_true, if_false, reduceCtorEq, ↓reduceIte, Nat.reduceEqDiff, Nat.reduceAdd, Nat.reduceSub, Nat.reduceMul, Nat.reduceBEq, Nat.reduceLT, Nat.reduceLeDiff, Int.reduceToNat, Int.reduceLE, Int.reduceLT, Int.reduceEq, Int.reduceNeg, ← List.map_drop, ← List.map_take, UInt8.reduceToNat, true_implies, implies_true, List.append_eq, y_prelaw2_SpliceTells])
          · try simp -implicitDefEqProofs only [goR, ↓upd_at, if_true, if_false, reduceCtorEq, ↓reduceIte, Nat.reduceEqDiff, Nat.reduceAdd, Nat.reduceSub, Nat.reduceMul, Nat.reduceBEq, Nat.reduceLT, Nat.reduceLeDiff, Int.reduceToNat, Int.reduceLE, Int.reduceLT, Int.reduceEq, Int.reduceNeg, ← List.map_drop, ← List.map_take, UInt8.reduceToNat, true_implies, implies_true, List.append_eq, y_prelaw2_SpliceTells] at hp9
            have hq9 := hp9
            try simp only [goT] at hq9
            refine w_region rfl (fun K hK => ?_)
            simp -implicitDefEqProofs only [goR, ↓upd_at, if_true, if_false, reduceCtorEq, ↓reduceIte, Nat.reduceEqDiff, Nat.reduceAdd, Nat.reduceSub, Nat.reduceMul, Nat.reduceBEq, Nat.reduceLT, Nat.reduceLeDiff, Int.reduceToNat, Int.reduceLE, Int.reduceLT, Int.reduceEq, Int.reduceNeg, ← List.map_drop, ← List.map_take, UInt8.reduceToNat, true_implies, implies_true, List.append_eq, y_prelaw2_SpliceTells, hp9]
            (repeat' (first | ((with_reducible refine hK _ _ ?_); clear hK K) | (with_reducible apply And.intro) | (exact trivial) | (clear hK K; assumption) | (clear hK K; omega)))
            refine cut_at H ?_
            exact wk_ren ⟨[1, 2], []⟩ rfl rfl rfl rfl rfl (by simp -implicitDefEqProofs only [goW, goR, ↓upd_at, if_true, if_false, reduceCtorEq, ↓reduceIte, Nat.reduceEqDiff, Nat.reduceAdd, Nat.reduceSub, Nat.reduceMul, Nat.reduceBEq, Nat.reduceLT, Nat.reduceLeDiff, Int.reduceToNat, Int.reduceLE, Int.reduceLT, Int.reduceEq, Int.reduceNeg, ← List.map_drop, ← List.map_take, UInt8.reduceToNat, true_implies, implies_true, List.append_eq, y_prelaw2_SpliceTells]) (by simp -implicitDefEqProofs only [goW, goR, ↓upd_at, if_true, if_false, reduceCtorEq, ↓reduceIte, Nat.reduceEqDiff, Nat.reduceAdd, Nat.reduceSub, Nat.reduceMul, Nat.reduceBEq, Nat.reduceLT, Nat.reduceLeDiff, Int.reduceToNat, Int.reduceLE, Int.reduceLT, Int.reduceEq, Int.reduceNeg, ← List.map_drop, ← List.map_take, UInt8.reduceToNat, true_implies, implies_true, List.append_eq, y_prelaw2_SpliceTells]) (by simp -implicitDefEqProofs only [goW, goR, ↓upd_at, if_true, if_false, reduceCtorEq, ↓reduceIte, Nat.reduceEqDiff, Nat.reduceAdd, Nat.reduceSub, Nat.reduceMul, Nat.reduceBEq, Nat.reduceLT, Nat.reduceLeDiff, Int.reduceToNat, Int.reduceLE, Int.reduceLT, Int.reduceEq, Int.reduceNeg, ← List.map_drop, ← List.map_take, UInt8.reduceToNat, true_implies, implies_true, List.append_eq, y_prelaw2_SpliceTells])
        · rintro x10 H
          rw [prelaw2_SpliceTells_j8] at H
          rcases bsplit H with ⟨hp8, H⟩ | ⟨hp8, H⟩
          · try simp -implicitDefEqProofs only [goR, ↓upd_at, if_true, if_false, reduceCtorEq, ↓reduceIte, Nat.reduceEqDiff, Nat.reduceAdd, Nat.reduceSub, Nat.reduceMul, Nat.reduceBEq, Nat.reduceLT, Nat.reduceLeDiff, Int.reduceToNat, Int.reduceLE, Int.reduceLT, Int.reduceEq, Int.reduceNeg, ← List.map_drop, ← List.map_take, UInt8.reduceToNat, true_implies, implies_true, List.append_eq, y_prelaw2_SpliceTells] at hp8
            have hq8 := hp8
            try simp only [goT] at hq8
            refine w_condT (by simp -implicitDefEqProofs only [goR, ↓upd_at, if_true, if_false, reduceCtorEq, ↓reduceIte, Nat.reduceEqDiff, Nat.reduceAdd, Nat.reduceSub, Nat.reduceMul, Nat.reduceBEq, Nat.reduceLT, Nat.reduceLeDiff, Int.reduceToNat, Int.reduceLE, Int.reduceLT, Int.reduceEq, Int.reduceNeg, ← List.map_drop, ← List.map_take, UInt8.reduceToNat, true_implies, implies_true, List.append_eq, y_prelaw2_SpliceTells, hp8]) ?_
            obtain ⟨hg4, H⟩ := gsplit H
            have g4 := map_getD dI r2.At a1.toNat default default (by omega)
            refine w_region rfl (fun K hK => ?_)
            simp -implicitDefEqProofs only [goR, ↓upd_at, if_true, if_false, reduceCtorEq, ↓reduceIte, Nat.reduceEqDiff, Nat.reduceAdd, Nat.reduceSub, Nat.reduceMul, Nat.reduceBEq, Nat.reduceLT, Nat.reduceLeDiff, Int.reduceToNat, Int.reduceLE, Int.reduceLT, Int.reduceEq, Int.reduceNeg, ← List.map_drop, ← List.map_take, UInt8.reduceToNat, true_implies, implies_true, List.append_eq, y_prelaw2_SpliceTells, g4]
            (repeat' (first | ((with_reducible refine hK _ _ ?_); clear hK K) | (with_reducible apply And.intro) | (exact trivial) | (clear hK K; assumption) | (clear hK K; omega)))
            refine cut_at H ?_
            exact wk_ren ⟨[1, 2], []⟩ rfl rfl rfl rfl rfl (by simp -implicitDefEqProofs only [goW, goR, ↓upd_at, if_true, if_false, reduceCtorEq, ↓reduceIte, Nat.reduceEqDiff, Nat.reduceAdd, Nat.reduceSub, Nat.reduceMul, Nat.reduceBEq, Nat.reduceLT, Nat.reduceLeDiff, Int.reduceToNat, Int.reduceLE, Int.reduceLT, Int.reduceEq, Int.reduceNeg, ← List.map_drop, ← List.map_take, UInt8.reduceToNat, true_implies, implies_true, List.append_eq, y_prelaw2_SpliceTells]) (by simp -implicitDefEqProofs only [goW, goR, ↓upd_at, if_true, if_false, reduceCtorEq, ↓reduceIte, Nat.reduceEqDiff, Nat.reduceAdd, Nat.reduceSub, Nat.reduceMul, Nat.reduceBEq, Nat.reduceLT, Nat.reduceLeDiff, Int.reduceToNat, Int.reduceLE, Int.reduceLT, Int.reduceEq, Int.reduceNeg, ← List.map_drop, ← List.map_take, UInt8.reduceToNat, true_implies, implies_true, List.append_eq, y_prelaw2_SpliceTells]) (by simp -implicitDefEqProofs only [goW, goR, ↓upd_at, if_true, if_false, reduceCtorEq, ↓reduceIte, Nat.reduceEqDiff, Nat.reduceAdd, Nat.reduceSub, Nat.reduceMul, Nat.reduceBEq, Nat.reduceLT, Nat.reduceLeDiff, Int.reduceToNat, Int.reduceLE, Int.reduceLT, Int.reduceEq, Int.reduceNeg, ← List.map_drop, ← List.map_take, UInt8.reduceToNat, true_implies, implies_true, List.append_eq, y_prelaw2_SpliceTells])
          · try simp -implicitDefEqProofs only [goR, ↓upd_at, if_true, if_false, reduceCtorEq, ↓reduceIte, Nat.reduceEqDiff, Nat.reduceAdd, Nat.reduceSub, Nat.reduceMul, Nat.reduceBEq, Nat.reduceLT, Nat.reduceLeDiff, Int.reduceToNat, Int.reduceLE, Int.reduceLT, Int.reduceEq, Int.reduceNeg, ← List.map_drop, ← List.map_take, UInt8.reduceToNat, true_implies, implies_true, List.append_eq, y_prelaw2_SpliceTells] at hp8
            have hq8 := hp8
            try simp only [goT] at hq8
            refine w_condF (by simp -implicitDefEqProofs only [goR, ↓upd_at, if_true, if_false, reduceCtorEq, ↓reduceIte, Nat.reduceEqDiff, Nat.reduceAdd, Nat.reduceSub, Nat.reduceMul, Nat.reduceBEq, Nat.reduceLT, Nat.reduceLeDiff, Int.reduceToNat, Int.reduceLE, Int.reduceLT, Int.reduceEq, Int.reduceNeg, ← List.map_drop, ← List.map_take, UInt8.reduceToNat, true_implies, implies_true, List.append_eq, y_prelaw2_SpliceTells, hp8]) ?_
            refine w_skip ?_
            refine cut_at H ?_
            exact wk_ren ⟨[1, 2], []⟩ rfl rfl rfl rfl rfl (by simp -implicitDefEqProofs only [goW, goR, ↓upd_at, if_true, if_false, reduceCtorEq, ↓reduceIte, Nat.reduceEqDiff, Nat.reduceAdd, Nat.reduceSub, Nat.reduceMul, Nat.reduceBEq, Nat.reduceLT, Nat.reduceLeDiff, Int.reduceToNat, Int.reduceLE, Int.reduceLT, Int.reduceEq, Int.reduceNeg, ← List.map_drop, ← List.map_take, UInt8.reduceToNat, true_implies, implies_true, List.append_eq, y_prelaw2_SpliceTells]) (by simp -implicitDefEqProofs only [goW, goR, ↓upd_at, if_true, if_false, reduceCtorEq, ↓reduceIte, Nat.reduceEqDiff, Nat.reduceAdd, Nat.reduceSub, Nat.reduceMul, Nat.reduceBEq, Nat.reduceLT, Nat.reduceLeDiff, Int.reduceToNat, Int.reduceLE, Int.reduceLT, Int.reduceEq, Int.reduceNeg, ← List.map_drop, ← List.map_take, UInt8.reduceToNat, true_implies, implies_true, List.append_eq, y_prelaw2_SpliceTells]) (by simp -implicitDefEqProofs only [goW, goR, ↓upd_at, if_true, if_false, reduceCtorEq, ↓reduceIte, Nat.reduceEqDiff, Nat.reduceAdd, Nat.reduceSub, Nat.reduceMul, Nat.reduceBEq, Nat.reduceLT, Nat.reduceLeDiff, Int.reduceToNat, Int.reduceLE, Int.reduceLT, Int.reduceEq, Int.reduceNeg, ← List.map_drop, ← List.map_take, UInt8.reduceToNat, true_implies, implies_true, List.append_eq, y_prelaw2_SpliceTells])
      · rintro x2 H
        rw [prelaw2_SpliceTells_j2] at H
        refine w_seq ?_
        refine w_seq ?_
        refine w_region rfl (fun K hK => ?_)
        simp -implicitDefEqProofs only [goR, ↓upd_at, if_true, if_false, reduceCtorEq, ↓reduceIte, Nat.reduceEqDiff, Nat.reduceAdd, Nat.reduceSub, Nat.reduceMul, Nat.reduceBEq, Nat.reduceLT, Nat.reduceLeDiff, Int.reduceToNat, Int.reduceLE, Int.reduceLT, Int.reduceEq, Int.reduceNeg, ← List.map_drop, ← List.map_take, UInt8.reduceToNat, true_implies, implies_true, List.append_eq, y_prelaw2_SpliceTells]
        (repeat' (first | ((with_reducible refine hK _ _ ?_); clear hK K) | (with_reducible apply And.intro) | (exact trivial) | (clear hK K; assumption) | (clear hK K; omega)))
        refine then_normal ?_
        refine w_block ?_
        refine w_loop (prelaw2_SpliceTells_b3 a1 r1 r2 x2) (fun s => [(1, .c (.d (.v (.int .i64 a1)))), (5, .c (.pt 1 0)), (6, .c (.pt 2 0)), (7, .c (.d (.v (.int .i64 x2)))), (8, .c (.d (.v (.int .i64 s.1)))), (9, .c (.d (.v (.int .i64 s.2))))]) (fun s => [[.d (.v (str r1.Text)), .d (.sl 1 (List.map dI r1.At))], [.d (.v (str r2.Text)), .d (.sl 1 (List.map dI r2.At))]]) [] H ?_ ?_
        · exact wk_ren ⟨[1, 2], []⟩ rfl rfl rfl rfl rfl (by simp -implicitDefEqProofs only [goW, goR, ↓upd_at, if_true, if_false, reduceCtorEq, ↓reduceIte, Nat.reduceEqDiff, Nat.reduceAdd, Nat.reduceSub, Nat.reduceMul, Nat.reduceBEq, Nat.reduceLT, Nat.reduceLeDiff, Int.reduceToNat, Int.reduceLE, Int.reduceLT, Int.reduceEq, Int.reduceNeg, ← List.map_drop, ← List.map_take, UInt8.reduceToNat, true_implies, implies_true, List.append_eq, y_prelaw2_SpliceTells]) (by simp -implicitDefEqProofs only [goW, goR, ↓upd_at, if_true, if_false, reduceCtorEq, ↓reduceIte, Nat.reduceEqDiff, Nat.reduceAdd, Nat.reduceSub, Nat.reduceMul, Nat.reduceBEq, Nat.reduceLT, Nat.reduceLeDiff, Int.reduceToNat, Int.reduceLE, Int.reduceLT, Int.reduceEq, Int.reduceNeg, ← List.map_drop, ← List.map_take, UInt8.reduceToNat, true_implies, implies_true, List.append_eq, y_prelaw2_SpliceTells]) (by simp -implicitDefEqProofs only [goW, goR, ↓upd_at, if_true, if_false, reduceCtorEq, ↓reduceIte, Nat.reduceEqDiff, Nat.reduceAdd, Nat.reduceSub, Nat.reduceMul, Nat.reduceBEq, Nat.reduceLT, Nat.reduceLeDiff, Int.reduceToNat, Int.reduceLE, Int.reduceLT, Int.reduceEq, Int.reduceNeg, ← List.map_drop, ← List.map_take, UInt8.reduceToNat, true_implies, implies_true, List.append_eq, y_prelaw2_SpliceTells])
        · rintro n1 ⟨x3, x4⟩ o1 H hF1
          rw [prelaw2_SpliceTells_b3] at H
          refine w_seq ?_
          refine w_cut (prelaw2_SpliceTells_j4 a1 r1 r2 x2 x3 x4) (fun s => [(1, .c (.d (.v (.int .i64 a1)))), (5, .c (.pt 1 0)), (6, .c (.pt 2 0)), (7, .c (.d (.v (.int .i64 x2)))), (8, .c (.d (.v (.int .i64 x3)))), (9, .c (.d (.v (.int .i64 x4)))), (61, .c (.d (.v (.bool s))))]) (fun s => [[.d (.v (str r1.Text)), .d (.sl 1 (List.map dI r1.At))], [.d (.v (str r2.Text)), .d (.sl 1 (List.map dI r2.At))]]) [] o1 ?_ ?_
          · rcases bsplit H with ⟨hp7, H⟩ | ⟨hp7, H⟩
            · try simp -implicitDefEqProofs only [goR, ↓upd_at, if_true, if_false, reduceCtorEq, ↓reduceIte, Nat.reduceEqDiff, Nat.reduceAdd, Nat.reduceSub, Nat.reduceMul, Nat.reduceBEq, Nat.reduceLT, Nat.reduceLeDiff, Int.reduceToNat, Int.reduceLE, Int.reduceLT, Int.reduceEq, Int.reduceNeg, ← List.map_drop, ← List.map_take, UInt8.reduceToNat, true_implies, implies_true, List.append_eq, y_prelaw2_SpliceTells] at hp7
              have hq7 := hp7
              try simp only [goT] at hq7
              refine w_region rfl (fun K hK => ?_)
              simp -implicitDefEqProofs only [goR, ↓upd_at, if_true, if_false, reduceCtorEq, ↓reduceIte, Nat.reduceEqDiff, Nat.reduceAdd, Nat.reduceSub, Nat.reduceMul, Nat.reduceBEq, Nat.reduceLT, Nat.reduceLeDiff, Int.reduceToNat, Int.reduceLE, Int.reduceLT, Int.reduceEq, Int.reduceNeg, ← List.map_drop, ← List.map_take, UInt8.reduceToNat, true_implies, implies_true, List.append_eq, y_prelaw2_SpliceTells, hp7]
              (repeat' (first | ((with_reducible refine hK _ _ ?_); clear hK K) | (with_reducible apply And.intro) | (exact trivial) | (clear hK K; assumption) | (clear hK K; omega)))
              refine cut_at H ?_
              exact wk_ren ⟨[1, 2], []⟩ rfl rfl rfl rfl rfl (by simp -implicitDefEqProofs only [goW, goR, ↓upd_at, if_true, if_false, reduceCtorEq, ↓reduceIte, Nat.reduceEqDiff, Nat.reduceAdd, Nat.reduceSub, Nat.reduceMul, Nat.reduceBEq, Nat.reduceLT, Nat.reduceLeDiff, Int.reduceToNat, Int.reduceLE, Int.reduceLT, Int.reduceEq, Int.reduceNeg, ← List.map_drop, ← List.map_take, UInt8.reduceToNat, true_implies, implies_true, List.append_eq, y_prelaw2_SpliceTells]) (by simp -implicitDefEqProofs only [goW, goR, ↓upd_at, if_true, if_false, reduceCtorEq, ↓reduceIte, Nat.reduceEqDiff, Nat.reduceAdd, Nat.reduceSub, Nat.reduceMul, Nat.reduceBEq, Nat.reduceLT, Nat.reduceLeDiff, Int.reduceToNat, Int.reduceLE, Int.reduceLT, Int.reduceEq, Int.reduceNeg, ← List.map_drop, ← List.map_take, UInt8.reduceToNat, true_implies, implies_true, List.append_eq, y_prelaw2_SpliceTells]) (by simp -implicitDefEqProofs only [goW, goR, ↓upd_at, if_true, if_false, reduceCtorEq, ↓reduceIte, Nat.reduceEqDiff, Nat.reduceAdd, Nat.reduceSub, Nat.reduceMul, Nat.reduceBEq, Nat.reduceLT, Nat.reduceLeDiff, Int.reduceToNat, Int.reduceLE, Int.reduceLT, Int.reduceEq, Int.reduceNeg, ← List.map_drop, ← List.map_take, UInt8.reduceToNat, true_implies, implies_true, List.append_eq, y_prelaw2_SpliceTells])
            · try simp -implicitDefEqProofs only [goR, ↓upd_at, if_true, if_false, reduceCtorEq, ↓reduceIte, Nat.reduceEqDiff, Nat.reduceAdd, Nat.reduceSub, Nat.reduceMul, Nat.reduceBEq, Nat.reduceLT, Nat.reduceLeDiff, Int.reduceToNat, Int.reduceLE, Int.reduceLT, Int.reduceEq, Int.reduceNeg, ← List.map_drop, ← List.map_take, UInt8.reduceToNat, true_implies, implies_true, List.append_eq, y_prelaw2_SpliceTells] at hp7
              have hq7 := hp7
              try simp only [goT] at hq7
              refine w_region rfl (fun K hK => ?_)
              simp -implicitDefEqProofs only [goR, ↓upd_at, if_true, if_false, reduceCtorEq, ↓reduceIte, Nat.reduceEqDiff, Nat.reduceAdd, Nat.reduceSub, Nat.reduceMul, Nat.reduceBEq, Nat.reduceLT, Nat.reduceLeDiff, Int.reduceToNat, Int.reduceLE, Int.reduceLT, Int.reduceEq, Int.reduceNeg, ← List.map_drop, ← List.map_take, UInt8.reduceToNat, true_implies, implies_true, List.append_eq, y_prelaw2_SpliceTells, hp7]
              (repeat' (first | ((with_reducible refine hK _ _ ?_); clear hK K) | (with_reducible apply And.intro) | (exact trivial) | (clear hK K; assumption) | (clear hK K; omega)))
              refine cut_at H ?_
              exact wk_ren ⟨[1, 2], []⟩ rfl rfl rfl rfl rfl (by simp -implicitDefEqProofs only [goW, goR, ↓upd_at, if_true, if_false, reduceCtorEq, ↓reduceIte, Nat.reduceEqDiff, Nat.reduceAdd, Nat.reduceSub, Nat.reduceMul, Nat.reduceBEq, Nat.reduceLT, Nat.reduceLeDiff, Int.reduceToNat, Int.reduceLE, Int.reduceLT, Int.reduceEq, Int.reduceNeg, ← List.map_drop, ← List.map_take, UInt8.reduceToNat, true_implies, implies_true, List.append_eq, y_prelaw2_SpliceTells]) (by simp -implicitDefEqProofs only [goW, goR, ↓upd_at, if_true, if_false, reduceCtorEq, ↓reduceIte, Nat.reduceEqDiff, Nat.reduceAdd, Nat.reduceSub, Nat.reduceMul, Nat.reduceBEq, Nat.reduceLT, Nat.reduceLeDiff, Int.reduceToNat, Int.reduceLE, Int.reduceLT, Int.reduceEq, Int.reduceNeg, ← List.map_drop, ← List.map_take, UInt8.reduceToNat, true_implies, implies_true, List.append_eq, y_prelaw2_SpliceTells]) (by simp -implicitDefEqProofs only [goW, goR, ↓upd_at, if_true, if_false, reduceCtorEq, ↓reduceIte, Nat.reduceEqDiff, Nat.reduceAdd, Nat.reduceSub, Nat.reduceMul, Nat.reduceBEq, Nat.reduceLT, Nat.reduceLeDiff, Int.reduceToNat, Int.reduceLE, Int.reduceLT, Int.reduceEq, Int.reduceNeg, ← List.map_drop, ← List.map_take, UInt8.reduceToNat, true_implies, implies_true, List.append_eq, y_prelaw2_SpliceTells])
          · rintro x5 H
            rw [prelaw2_SpliceTells_j4] at H
            rcases bsplit H with ⟨hp2, H⟩ | ⟨hp2, H⟩
            · try simp -implicitDefEqProofs only [goR, ↓upd_at, if_true, if_false, reduceCtorEq, ↓reduceIte, Nat.reduceEqDiff, Nat.reduceAdd, Nat.reduceSub, Nat.reduceMul, Nat.reduceBEq, Nat.reduceLT, Nat.reduceLeDiff, Int.reduceToNat, Int.reduceLE, Int.reduceLT, Int.reduceEq, Int.reduceNeg, ← List.map_drop, ← List.map_take, UInt8.reduceToNat, true_implies, implies_true, List.append_eq, y_prelaw2_SpliceTells] at hp2
              have hq2 := hp2
              try simp only [goT] at hq2
              refine w_condT (by simp -implicitDefEqProofs only [goR, ↓upd_at, if_true, if_false, reduceCtorEq, ↓reduceIte, Nat.reduceEqDiff, Nat.reduceAdd, Nat.reduceSub, Nat.reduceMul, Nat.reduceBEq, Nat.reduceLT, Nat.reduceLeDiff, Int.reduceToNat, Int.reduceLE, Int.reduceLT, Int.reduceEq, Int.reduceNeg, ← List.map_drop, ← List.map_take, UInt8.reduceToNat, true_implies, implies_true, List.append_eq, y_prelaw2_SpliceTells, hp2]) ?_
              refine w_skip ?_
              refine then_normal ?_
              refine w_cut (prelaw2_SpliceTells_j5 x4) (fun s => [(1, .c (.d (.v (.int .i64 a1)))), (5, .c (.pt 1 0)), (6, .c (.pt 2 0)), (7, .c (.d (.v (.int .i64 x2)))), (8, .c (.d (.v (.int .i64 s)))), (9, .c (.d (.v (.int .i64 x4))))]) (fun s => [[.d (.v (str r1.Text)), .d (.sl 1 (List.map dI r1.At))], [.d (.v (str r2.Text)), .d (.sl 1 (List.map dI r2.At))]]) [] o1 ?_ ?_
              · refine w_block ?_
                refine w_seq ?_
                obtain ⟨hg1, H⟩ := gsplit H
                have g1 := map_getD dI r2.At x4.toNat default default (by omega)
                refine w_region rfl (fun K hK => ?_)
                simp -implicitDefEqProofs only [goR, ↓upd_at, if_true, if_false, reduceCtorEq, ↓reduceIte, Nat.reduceEqDiff, Nat.reduceAdd, Nat.reduceSub, Nat.reduceMul, Nat.reduceBEq, Nat.reduceLT, Nat.reduceLeDiff, Int.reduceToNat, Int.reduceLE, Int.reduceLT, Int.reduceEq, Int.reduceNeg, ← List.map_drop, ← List.map_take, UInt8.reduceToNat, true_implies, implies_true, List.append_eq, y_prelaw2_SpliceTells, g1]
                (repeat' (first | ((with_reducible refine hK _ _ ?_); clear hK K) | (with_reducible apply And.intro) | (exact trivial) | (clear hK K; assumption) | (clear hK K; omega)))
                refine then_normal ?_
                rcases bsplit H with ⟨hp3, H⟩ | ⟨hp3, H⟩
                · try simp -implicitDefEqProofs only [goR, ↓upd_at, if_true, if_false, reduceCtorEq, ↓reduceIte, Nat.reduceEqDiff, Nat.reduceAdd, Nat.reduceSub, Nat.reduceMul, Nat.reduceBEq, Nat.reduceLT, Nat.reduceLeDiff, Int.reduceToNat, Int.reduceLE, Int.reduceLT, Int.reduceEq, Int.reduceNeg, ← List.map_drop, ← List.map_take, UInt8.reduceToNat, true_implies, implies_true, List.append_eq, y_prelaw2_SpliceTells] at hp3
                  have hq3 := hp3
                  try simp only [goT] at hq3
                  refine w_condT (by simp -implicitDefEqProofs only [goR, ↓upd_at, if_true, if_false, reduceCtorEq, ↓reduceIte, Nat.reduceEqDiff, Nat.reduceAdd, Nat.reduceSub, Nat.reduceMul, Nat.reduceBEq, Nat.reduceLT, Nat.reduceLeDiff, Int.reduceToNat, Int.reduceLE, Int.reduceLT, Int.reduceEq, Int.reduceNeg, ← List.map_drop, ← List.map_take, UInt8.reduceToNat, true_implies, implies_true, List.append_eq, y_prelaw2_SpliceTells, hp3]) ?_
                  refine w_region rfl (fun K hK => ?_)
                  simp -implicitDefEqProofs only [goR, ↓upd_at, if_true, if_false, reduceCtorEq, ↓reduceIte, Nat.reduceEqDiff, Nat.reduceAdd, Nat.reduceSub, Nat.reduceMul, Nat.reduceBEq, Nat.reduceLT, Nat.reduceLeDiff, Int.reduceToNat, Int.reduceLE, Int.reduceLT, Int.reduceEq, Int.reduceNeg, ← List.map_drop, ← List.map_take, UInt8.reduceToNat, true_implies, implies_true, List.append_eq, y_prelaw2_SpliceTells]
                  (repeat' (first | ((with_reducible refine hK _ _ ?_); clear hK K) | (with_reducible apply And.intro) | (exact trivial) | (clear hK K; assumption) | (clear hK K; omega)))
                  refine block_normal ?_
                  refine cut_at H ?_
                  exact wk_ren ⟨[1, 2], []⟩ rfl rfl rfl rfl rfl (by simp -implicitDefEqProofs only [goW, goR, ↓upd_at, if_true, if_false, reduceCtorEq, ↓reduceIte, Nat.reduceEqDiff, Nat.reduceAdd, Nat.reduceSub, Nat.reduceMul, Nat.reduceBEq, Nat.reduceLT, Nat.reduceLeDiff, Int.reduceToNat, Int.reduceLE, Int.reduceLT, Int.reduceEq, Int.reduceNeg, ← List.map_drop, ← List.map_take, UInt8.reduceToNat, true_implies, implies_true, List.append_eq, y_prelaw2_SpliceTells]) (by simp -implicitDefEqProofs only [goW, goR, ↓upd_at, if_true, if_false, reduceCtorEq, ↓reduceIte, Nat.reduceEqDiff, Nat.reduceAdd, Nat.reduceSub, Nat.reduceMul, Nat.reduceBEq, Nat.reduceLT, Nat.reduceLeDiff, Int.reduceToNat, Int.reduceLE, Int.reduceLT, Int.reduceEq, Int.reduceNeg, ← List.map_drop, ← List.map_take, UInt8.reduceToNat, true_implies, implies_true, List.append_eq, y_prelaw2_SpliceTells]) (by simp -implicitDefEqProofs only [goW, goR, ↓upd_at, if_true, if_false, reduceCtorEq, ↓reduceIte, Nat.reduceEqDiff, Nat.reduceAdd, Nat.reduceSub, Nat.reduceMul, Nat.reduceBEq, Nat.reduceLT, Nat.reduceLeDiff, Int.reduceToNat, Int.reduceLE, Int.reduceLT, Int.reduceEq, Int.reduceNeg, ← List.map_drop, ← List.map_take, UInt8.reduceToNat, true_implies, implies_true, List.append_eq, y_prelaw2_SpliceTells])
                · try simp -implicitDefEqProofs only [goR, ↓upd_at, if_true, if_false, reduceCtorEq, ↓reduceIte, Nat.reduceEqDiff, Nat.reduceAdd, Nat.reduceSub, Nat.reduceMul, Nat.reduceBEq, Nat.reduceLT, Nat.reduceLeDiff, Int.reduceToNat, Int.reduceLE, Int.reduceLT, Int.reduceEq, Int.reduceNeg, ← List.map_drop, ← List.map_take, UInt8.reduceToNat, true_implies, implies_true, List.append_eq, y_prelaw2_SpliceTells] at hp3
                  have hq3 := hp3
                  try simp only [goT] at hq3
                  refine w_condF (by simp -implicitDefEqProofs only [goR, ↓upd_at, if_true, if_false, reduceCtorEq, ↓reduceIte, Nat.reduceEqDiff, Nat.reduceAdd, Nat.reduceSub, Nat.reduceMul, Nat.reduceBEq, Nat.reduceLT, Nat.reduceLeDiff, Int.reduceToNat, Int.reduceLE, Int.reduceLT, Int.reduceEq, Int.reduceNeg, ← List.map_drop, ← List.map_take, UInt8.reduceToNat, true_implies, implies_true, List.append_eq, y_prelaw2_SpliceTells, hp3]) ?_
                  refine w_skip ?_
                  refine block_normal ?_
                  refine cut_at H ?_
                  exact wk_ren ⟨[1, 2], []⟩ rfl rfl rfl rfl rfl (by simp -implicitDefEqProofs only [goW, goR, ↓upd_at, if_true, if_false, reduceCtorEq, ↓reduceIte, Nat.reduceEqDiff, Nat.reduceAdd, Nat.reduceSub, Nat.reduceMul, Nat.reduceBEq, Nat.reduceLT, Nat.reduceLeDiff, Int.reduceToNat, Int.reduceLE, Int.reduceLT, Int.reduceEq, Int.reduceNeg, ← List.map_drop, ← List.map_take, UInt8.reduceToNat, true_implies, implies_true, List.append_eq, y_prelaw2_SpliceTells]) (by simp -implicitDefEqProofs only [goW, goR, ↓upd_at, if_true, if_false, reduceCtorEq, ↓reduceIte, Nat.reduceEqDiff, Nat.reduceAdd, Nat.reduceSub, Nat.reduceMul, Nat.reduceBEq, Nat.reduceLT, Nat.reduceLeDiff, Int.reduceToNat, Int.reduceLE, Int.reduceLT, Int.reduceEq, Int.reduceNeg, ← List.map_drop, ← List.map_take, UInt8.reduceToNat, true_implies, implies_true, List.append_eq, y_prelaw2_SpliceTells]) (by simp -implicitDefEqProofs only [goW, goR, ↓upd_at, if_true, if_false, reduceCtorEq, ↓reduceIte, Nat.reduceEqDiff, Nat.reduceAdd, Nat.reduceSub, Nat.reduceMul, Nat.reduceBEq, Nat.reduceLT, Nat.reduceLeDiff, Int.reduceToNat, Int.reduceLE, Int.reduceLT, Int.reduceEq, Int.reduceNeg, ← List.map_drop, ← List.map_take, UInt8.reduceToNat, true_implies, implies_true, List.append_eq, y_prelaw2_SpliceTells])
              · rintro x6 H
                rw [prelaw2_SpliceTells_j5] at H
                refine w_region rfl (fun K hK => ?_)
                simp -implicitDefEqProofs only [goR, ↓upd_at, if_true, if_false, reduceCtorEq, ↓reduceIte, Nat.reduceEqDiff, Nat.reduceAdd, Nat.reduceSub, Nat.reduceMul, Nat.reduceBEq, Nat.reduceLT, Nat.reduceLeDiff, Int.reduceToNat, Int.reduceLE, Int.reduceLT, Int.reduceEq, Int.reduceNeg, ← List.map_drop, ← List.map_take, UInt8.reduceToNat, true_implies, implies_true, List.append_eq, y_prelaw2_SpliceTells]
                (repeat' (first | ((with_reducible refine hK _ _ ?_); clear hK K) | (with_reducible apply And.intro) | (exact trivial) | (clear hK K; assumption) | (clear hK K; omega)))
                refine round_at (inl_fin H hF1) ?_
                exact wk_ren ⟨[1, 2], []⟩ rfl rfl rfl rfl rfl (by simp -implicitDefEqProofs only [goW, goR, ↓upd_at, if_true, if_false, reduceCtorEq, ↓reduceIte, Nat.reduceEqDiff, Nat.reduceAdd, Nat.reduceSub, Nat.reduceMul, Nat.reduceBEq, Nat.reduceLT, Nat.reduceLeDiff, Int.reduceToNat, Int.reduceLE, Int.reduceLT, Int.reduceEq, Int.reduceNeg, ← List.map_drop, ← List.map_take, UInt8.reduceToNat, true_implies, implies_true, List.append_eq, y_prelaw2_SpliceTells]) (by simp -implicitDefEqProofs only [goW, goR, ↓upd_at, if_true, if_false, reduceCtorEq, ↓reduceIte, Nat.reduceEqDiff, Nat.reduceAdd, Nat.reduceSub, Nat.reduceMul, Nat.reduceBEq, Nat.reduceLT, Nat.reduceLeDiff, Int.reduceToNat, Int.reduceLE, Int.reduceLT, Int.reduceEq, Int.reduceNeg, ← List.map_drop, ← List.map_take, UInt8.reduceToNat, true_implies, implies_true, List.append_eq, y_prelaw2_SpliceTells]) (by simp -implicitDefEqProofs only [goW, goR, ↓upd_at, if_true, if_false, reduceCtorEq, ↓reduceIte, Nat.reduceEqDiff, Nat.reduceAdd, Nat.reduceSub, Nat.reduceMul, Nat.reduceBEq, Nat.reduceLT, Nat.reduceLeDiff, Int.reduceToNat, Int.reduceLE, Int.reduceLT, Int.reduceEq, Int.reduceNeg, ← List.map_drop, ← List.map_take, UInt8.reduceToNat, true_implies, implies_true, List.append_eq, y_prelaw2_SpliceTells])
            · try simp -implicitDefEqProofs only [goR, ↓upd_at, if_true, if_false, reduceCtorEq, ↓reduceIte, Nat.reduceEqDiff, Nat.reduceAdd, Nat.reduceSub, Nat.reduceMul, Nat.reduceBEq, Nat.reduceLT, Nat.reduceLeDiff, Int.reduceToNat, Int.reduceLE, Int.reduceLT, Int.reduceEq, Int.reduceNeg, ← List.map_drop, ← List.map_take, UInt8.reduceToNat, true_implies, implies_true, List.append_eq, y_prelaw2_SpliceTells] at hp2
              have hq2 := hp2
              try simp only [goT] at hq2
              refine w_condF (by simp -implicitDefEqProofs only [goR, ↓upd_at, if_true, if_false, reduceCtorEq, ↓reduceIte, Nat.reduceEqDiff, Nat.reduceAdd, Nat.reduceSub, Nat.reduceMul, Nat.reduceBEq, Nat.reduceLT, Nat.reduceLeDiff, Int.reduceToNat, Int.reduceLE, Int.reduceLT, Int.reduceEq, Int.reduceNeg, ← List.map_drop, ← List.map_take, UInt8.reduceToNat, true_implies, implies_true, List.append_eq, y_prelaw2_SpliceTells, hp2]) ?_
              refine w_exit ?_
              refine then_exit ?_
              replace H := inrO_fin H hF1
              refine round_exit ?_
              refine block_exit ?_
              refine then_normal ?_
              refine w_seq ?_
              refine w_seq ?_
              refine w_region rfl (fun K hK => ?_)
              simp -implicitDefEqProofs only [goR, ↓upd_at, if_true, if_false, reduceCtorEq, ↓reduceIte, Nat.reduceEqDiff, Nat.reduceAdd, Nat.reduceSub, Nat.reduceMul, Nat.reduceBEq, Nat.reduceLT, Nat.reduceLeDiff, Int.reduceToNat, Int.reduceLE, Int.reduceLT, Int.reduceEq, Int.reduceNeg, ← List.map_drop, ← List.map_take, UInt8.reduceToNat, true_implies, implies_true, List.append_eq, y_prelaw2_SpliceTells]
              (repeat' (first | ((with_reducible refine hK _ _ ?_); clear hK K) | (with_reducible apply And.intro) | (exact trivial) | (clear hK K; assumption) | (clear hK K; omega)))
              refine then_normal ?_
              refine w_block ?_
              refine w_loop (prelaw2_SpliceTells_b6 a1 r1 r2 x2 x3) (fun s => [(1, .c (.d (.v (.int .i64 a1)))), (5, .c (.pt 1 0)), (6, .c (.pt 2 0)), (7, .c (.d (.v (.int .i64 x2)))), (8, .c (.d (.v (.int .i64 x3)))), (74, .c (.d (.v (.int .i64 s.1)))), (75, .c (.d (.v (.int .i64 s.2))))]) (fun s => [[.d (.v (str r1.Text)), .d (.sl 1 (List.map dI r1.At))], [.d (.v (str r2.Text)), .d (.sl 1 (List.map dI r2.At))]]) [] H ?_ ?_
              · exact wk_ren ⟨[1, 2], []⟩ rfl rfl rfl rfl rfl (by simp -implicitDefEqProofs only [goW, goR, ↓upd_at, if_true, if_false, reduceCtorEq, ↓reduceIte, Nat.reduceEqDiff, Nat.reduceAdd, Nat.reduceSub, Nat.reduceMul, Nat.reduceBEq, Nat.reduceLT, Nat.reduceLeDiff, Int.reduceToNat, Int.reduceLE, Int.reduceLT, Int.reduceEq, Int.reduceNeg, ← List.map_drop, ← List.map_take, UInt8.reduceToNat, true_implies, implies_true, List.append_eq, y_prelaw2_SpliceTells]) (by simp -implicitDefEqProofs only [goW, goR, ↓upd_at, if_true, if_false, reduceCtorEq, ↓reduceIte, Nat.reduceEqDiff, Nat.reduceAdd, Nat.reduceSub, Nat.reduceMul, Nat.reduceBEq, Nat.reduceLT, Nat.reduceLeDiff, Int.reduceToNat, Int.reduceLE, Int.reduceLT, Int.reduceEq, Int.reduceNeg, ← List.map_drop, ← List.map_take, UInt8.reduceToNat, true_implies, implies_true, List.append_eq, y_prelaw2_SpliceTells]) (by simp -implicitDefEqProofs only [goW, goR, ↓upd_at, if_true, if_false, reduceCtorEq, ↓reduceIte, Nat.reduceEqDiff, Nat.reduceAdd, Nat.reduceSub, Nat.reduceMul, Nat.reduceBEq, Nat.reduceLT, Nat.reduceLeDiff, Int.reduceToNat, Int.reduceLE, Int.reduceLT, Int.reduceEq, Int.reduceNeg, ← List.map_drop, ← List.map_take, UInt8.reduceToNat, true_implies, implies_true, List.append_eq, y_prelaw2_SpliceTells])
              · rintro n2 ⟨x7, x8⟩ o2 H hF2
                rw [prelaw2_SpliceTells_b6] at H
                refine w_seq ?_
                refine w_region rfl (fun K hK => ?_)
                simp -implicitDefEqProofs only [goR, ↓upd_at, if_true, if_false, reduceCtorEq, ↓reduceIte, Nat.reduceEqDiff, Nat.reduceAdd, Nat.reduceSub, Nat.reduceMul, Nat.reduceBEq, Nat.reduceLT, Nat.reduceLeDiff, Int.reduceToNat, Int.reduceLE, Int.reduceLT, Int.reduceEq, Int.reduceNeg, ← List.map_drop, ← List.map_take, UInt8.reduceToNat, true_implies, implies_true, List.append_eq, y_prelaw2_SpliceTells]
                (repeat' (first | ((with_reducible refine hK _ _ ?_); clear hK K) | (with_reducible apply And.intro) | (exact trivial) | (clear hK K; assumption) | (clear hK K; omega)))
                refine then_normal ?_
                refine w_seq ?_
                rcases bsplit H with ⟨hp4, H⟩ | ⟨hp4, H⟩
                · try simp -implicitDefEqProofs only [goR, ↓upd_at, if_true, if_false, reduceCtorEq, ↓reduceIte, Nat.reduceEqDiff, Nat.reduceAdd, Nat.reduceSub, Nat.reduceMul, Nat.reduceBEq, Nat.reduceLT, Nat.reduceLeDiff, Int.reduceToNat, Int.reduceLE, Int.reduceLT, Int.reduceEq, Int.reduceNeg, ← List.map_drop, ← List.map_take, UInt8.reduceToNat, true_implies, implies_true, List.append_eq, y_prelaw2_SpliceTells] at hp4
                  have hq4 := hp4
                  try simp only [goT] at hq4
                  refine w_condT (by simp -implicitDefEqProofs only [goR, ↓upd_at, if_true, if_false, reduceCtorEq, ↓reduceIte, Nat.reduceEqDiff, Nat.reduceAdd, Nat.reduceSub, Nat.reduceMul, Nat.reduceBEq, Nat.reduceLT, Nat.reduceLeDiff, Int.reduceToNat, Int.reduceLE, Int.reduceLT, Int.reduceEq, Int.reduceNeg, ← List.map_drop, ← List.map_take, UInt8.reduceToNat, true_implies, implies_true, List.append_eq, y_prelaw2_SpliceTells, hp4]) ?_
                  refine w_skip ?_
                  refine then_normal ?_
                  refine w_seq ?_
                  refine w_block ?_
                  refine w_seq ?_
                  refine w_region rfl (fun K hK => ?_)
                  simp -implicitDefEqProofs only [goR, ↓upd_at, if_true, if_false, reduceCtorEq, ↓reduceIte, Nat.reduceEqDiff, Nat.reduceAdd, Nat.reduceSub, Nat.reduceMul, Nat.reduceBEq, Nat.reduceLT, Nat.reduceLeDiff, Int.reduceToNat, Int.reduceLE, Int.reduceLT, Int.reduceEq, Int.reduceNeg, ← List.map_drop, ← List.map_take, UInt8.reduceToNat, true_implies, implies_true, List.append_eq, y_prelaw2_SpliceTells]
                  (repeat' (first | ((with_reducible refine hK _ _ ?_); clear hK K) | (with_reducible apply And.intro) | (exact trivial) | (clear hK K; assumption) | (clear hK K; omega)))
                  refine then_normal ?_
                  refine w_seq ?_
                  obtain ⟨hg2, H⟩ := gsplit H
                  have g2 := map_getD dI r1.At x8.toNat default default (by omega)
                  obtain ⟨hg3, H⟩ := gsplit H
                  have g3 := map_getD dI r2.At x8.toNat default default (by omega)
                  refine w_region rfl (fun K hK => ?_)
                  simp -implicitDefEqProofs only [goR, ↓upd_at, if_true, if_false, reduceCtorEq, ↓reduceIte, Nat.reduceEqDiff, Nat.reduceAdd, Nat.reduceSub, Nat.reduceMul, Nat.reduceBEq, Nat.reduceLT, Nat.reduceLeDiff, Int.reduceToNat, Int.reduceLE, Int.reduceLT, Int.reduceEq, Int.reduceNeg, ← List.map_drop, ← List.map_take, UInt8.reduceToNat, true_implies, implies_true, List.append_eq, y_prelaw2_SpliceTells, g2, g3]
                  (repeat' (first | ((with_reducible refine hK _ _ ?_); clear hK K) | (with_reducible apply And.intro) | (exact trivial) | (clear hK K; assumption) | (clear hK K; omega)))
                  refine then_normal ?_
                  rcases bsplit H with ⟨hp5, H⟩ | ⟨hp5, H⟩
                  · try simp -implicitDefEqProofs only [goR, ↓upd_at, if_true, if_false, reduceCtorEq, ↓reduceIte, Nat.reduceEqDiff, Nat.reduceAdd, Nat.reduceSub, Nat.reduceMul, Nat.reduceBEq, Nat.reduceLT, Nat.reduceLeDiff, Int.reduceToNat, Int.reduceLE, Int.reduceLT, Int.reduceEq, Int.reduceNeg, ← List.map_drop, ← List.map_take, UInt8.reduceToNat, true_implies, implies_true, List.append_eq, y_prelaw2_SpliceTells] at hp5
                    have hq5 := hp5
                    try simp only [goT] at hq5
                    refine w_condT (by simp -implicitDefEqProofs only [goR, ↓upd_at, if_true, if_false, reduceCtorEq, ↓reduceIte, Nat.reduceEqDiff, Nat.reduceAdd, Nat.reduceSub, Nat.reduceMul, Nat.reduceBEq, Nat.reduceLT, Nat.reduceLeDiff, Int.reduceToNat, Int.reduceLE, Int.reduceLT, Int.reduceEq, Int.reduceNeg, ← List.map_drop, ← List.map_take, UInt8.reduceToNat, true_implies, implies_true, List.append_eq, y_prelaw2_SpliceTells, hp5]) ?_
                    refine w_seq ?_
                    refine w_region rfl (fun K hK => ?_)
                    simp -implicitDefEqProofs only [goR, ↓upd_at, if_true, if_false, reduceCtorEq, ↓reduceIte, Nat.reduceEqDiff, Nat.reduceAdd, Nat.reduceSub, Nat.reduceMul, Nat.reduceBEq, Nat.reduceLT, Nat.reduceLeDiff, Int.reduceToNat, Int.reduceLE, Int.reduceLT, Int.reduceEq, Int.reduceNeg, ← List.map_drop, ← List.map_take, UInt8.reduceToNat, true_implies, implies_true, List.append_eq, y_prelaw2_SpliceTells]
                    (repeat' (first | ((with_reducible refine hK _ _ ?_); clear hK K) | (with_reducible apply And.intro) | (exact trivial) | (clear hK K; assumption) | (clear hK K; omega)))
                    refine then_normal ?_
                    refine w_ret ?_
                    refine block_ret ?_
                    refine then_ret ?_
                    replace H := inrO_fin H hF2
                    refine round_ret ?_
                    refine block_ret ?_
                    refine then_ret ?_
                    obtain rfl := Option.some.inj H
                    simp -implicitDefEqProofs only [goQ, Try.results3, goR, ↓upd_at, if_true, if_false, reduceCtorEq, ↓reduceIte, Nat.reduceEqDiff, Nat.reduceAdd, Nat.reduceSub, Nat.reduceMul, Nat.reduceBEq, Nat.reduceLT, Nat.reduceLeDiff, Int.reduceToNat, Int.reduceLE, Int.reduceLT, Int.reduceEq, Int.reduceNeg, ← List.map_drop, ← List.map_take, UInt8.reduceToNat, true_implies, implies_true, List.append_eq, y_prelaw2_SpliceTells]
                  · try simp -implicitDefEqProofs only [goR, ↓upd_at, if_true, if_false, reduceCtorEq, ↓reduceIte, Nat.reduceEqDiff, Nat.reduceAdd, Nat.reduceSub, Nat.reduceMul, Nat.reduceBEq, Nat.reduceLT, Nat.reduceLeDiff, Int.reduceToNat, Int.reduceLE, Int.reduceLT, Int.reduceEq, Int.reduceNeg, ← List.map_drop, ← List.map_take, UInt8.reduceToNat, true_implies, implies_true, List.append_eq, y_prelaw2_SpliceTells] at hp5
                    have hq5 := hp5
                    try simp only [goT] at hq5
                    refine w_condF (by simp -implicitDefEqProofs only [goR, ↓upd_at, if_true, if_false, reduceCtorEq, ↓reduceIte, Nat.reduceEqDiff, Nat.reduceAdd, Nat.reduceSub, Nat.reduceMul, Nat.reduceBEq, Nat.reduceLT, Nat.reduceLeDiff, Int.reduceToNat, Int.reduceLE, Int.reduceLT, Int.reduceEq, Int.reduceNeg, ← List.map_drop, ← List.map_take, UInt8.reduceToNat, true_implies, implies_true, List.append_eq, y_prelaw2_SpliceTells, hp5]) ?_
                    refine w_skip ?_
                    refine block_normal ?_
                    refine then_normal ?_
                    refine w_region rfl (fun K hK => ?_)
                    simp -implicitDefEqProofs only [goR, ↓upd_at, if_true, if_false, reduceCtorEq, ↓reduceIte, Nat.reduceEqDiff, Nat.reduceAdd, Nat.reduceSub, Nat.reduceMul, Nat.reduceBEq, Nat.reduceLT, Nat.reduceLeDiff, Int.reduceToNat, Int.reduceLE, Int.reduceLT, Int.reduceEq, Int.reduceNeg, ← List.map_drop, ← List.map_take, UInt8.reduceToNat, true_implies, implies_true, List.append_eq, y_prelaw2_SpliceTells]
                    (repeat' (first | ((with_reducible refine hK _ _ ?_); clear hK K) | (with_reducible apply And.intro) | (exact trivial) | (clear hK K; assumption) | (clear hK K; omega)))
                    refine round_at (inl_fin H hF2) ?_
                    exact wk_ren ⟨[1, 2], []⟩ rfl rfl rfl rfl rfl (by simp -implicitDefEqProofs only [goW, goR, ↓upd_at, if_true, if_false, reduceCtorEq, ↓reduceIte, Nat.reduceEqDiff, Nat.reduceAdd, Nat.reduceSub, Nat.reduceMul, Nat.reduceBEq, Nat.reduceLT, Nat.reduceLeDiff, Int.reduceToNat, Int.reduceLE, Int.reduceLT, Int.reduceEq, Int.reduceNeg, ← List.map_drop, ← List.map_take, UInt8.reduceToNat, true_implies, implies_true, List.append_eq, y_prelaw2_SpliceTells]) (by simp -implicitDefEqProofs only [goW, goR, ↓upd_at, if_true, if_false, reduceCtorEq, ↓reduceIte, Nat.reduceEqDiff, Nat.reduceAdd, Nat.reduceSub, Nat.reduceMul, Nat.reduceBEq, Nat.reduceLT, Nat.reduceLeDiff, Int.reduceToNat, Int.reduceLE, Int.reduceLT, Int.reduceEq, Int.reduceNeg, ← List.map_drop, ← List.map_take, UInt8.reduceToNat, true_implies, implies_true, List.append_eq, y_prelaw2_SpliceTells]) (by simp -implicitDefEqProofs only [goW, goR, ↓upd_at, if_true, if_false, reduceCtorEq, ↓reduceIte, Nat.reduceEqDiff, Nat.reduceAdd, Nat.reduceSub, Nat.reduceMul, Nat.reduceBEq, Nat.reduceLT, Nat.reduceLeDiff, Int.reduceToNat, Int.reduceLE, Int.reduceLT, Int.reduceEq, Int.reduceNeg, ← List.map_drop, ← List.map_take, UInt8.reduceToNat, true_implies, implies_true, List.append_eq, y_prelaw2_SpliceTells])
                · try simp -implicitDefEqProofs only [goR, ↓upd_at, if_true, if_false, reduceCtorEq, ↓reduceIte, Nat.reduceEqDiff, Nat.reduceAdd, Nat.reduceSub, Nat.reduceMul, Nat.reduceBEq, Nat.reduceLT, Nat.reduceLeDiff, Int.reduceToNat, Int.reduceLE, Int.reduceLT, Int.reduceEq, Int.reduceNeg, ← List.map_drop, ← List.map_take, UInt8.reduceToNat, true_implies, implies_true, List.append_eq, y_prelaw2_SpliceTells] at hp4
                  have hq4 := hp4
                  try simp only [goT] at hq4
                  refine w_condF (by simp -implicitDefEqProofs only [goR, ↓upd_at, if_true, if_false, reduceCtorEq, ↓reduceIte, Nat.reduceEqDiff, Nat.reduceAdd, Nat.reduceSub, Nat.reduceMul, Nat.reduceBEq, Nat.reduceLT, Nat.reduceLeDiff, Int.reduceToNat, Int.reduceLE, Int.reduceLT, Int.reduceEq, Int.reduceNeg, ← List.map_drop, ← List.map_take, UInt8.reduceToNat, true_implies, implies_true, List.append_eq, y_prelaw2_SpliceTells, hp4]) ?_
                  refine w_exit ?_
                  refine then_exit ?_
                  replace H := inrO_fin H hF2
                  refine round_exit ?_
                  refine block_exit ?_
                  refine then_normal ?_
                  refine w_cut prelaw2_SpliceTells_j7 (fun s => [(4, .c (.d (.v (.bool s))))]) (fun s => []) [] out ?_ ?_
                  · obtain ⟨r3, hr3, H⟩ := osplit H
                    have hc3 := splice_Where_c r1 a1 r3 hr3
                    simp -implicitDefEqProofs only [goR, ↓upd_at, if_true, if_false, reduceCtorEq, ↓reduceIte, Nat.reduceEqDiff, Nat.reduceAdd, Nat.reduceSub, Nat.reduceMul, Nat.reduceBEq, Nat.reduceLT, Nat.reduceLeDiff, Int.reduceToNat, Int.reduceLE, Int.reduceLT, Int.reduceEq, Int.reduceNeg, ← List.map_drop, ← List.map_take, UInt8.reduceToNat, true_implies, implies_true, List.append_eq, y_prelaw2_SpliceTells] at hc3
                    rcases bsplit H with ⟨hp6, H⟩ | ⟨hp6, H⟩
                    · try simp -implicitDefEqProofs only [goR, ↓upd_at, if_true, if_false, reduceCtorEq, ↓reduceIte, Nat.reduceEqDiff, Nat.reduceAdd, Nat.reduceSub, Nat.reduceMul, Nat.reduceBEq, Nat.reduceLT, Nat.reduceLeDiff, Int.reduceToNat, Int.reduceLE, Int.reduceLT, Int.reduceEq, Int.reduceNeg, ← List.map_drop, ← List.map_take, UInt8.reduceToNat, true_implies, implies_true, List.append_eq, y_prelaw2_SpliceTells] at hp6
                      have hq6 := hp6
                      try simp only [goT] at hq6
                      obtain ⟨r4, hr4, H⟩ := osplit H
                      have hc4 := splice_Back_c r1 a1 r4 hr4
                      simp -implicitDefEqProofs only [goR, ↓upd_at, if_true, if_false, reduceCtorEq, ↓reduceIte, Nat.reduceEqDiff, Nat.reduceAdd, Nat.reduceSub, Nat.reduceMul, Nat.reduceBEq, Nat.reduceLT, Nat.reduceLeDiff, Int.reduceToNat, Int.reduceLE, Int.reduceLT, Int.reduceEq, Int.reduceNeg, ← List.map_drop, ← List.map_take, UInt8.reduceToNat, true_implies, implies_true, List.append_eq, y_prelaw2_SpliceTells] at hc4
                      refine w_region rfl (fun K hK => ?_)
                      simp -implicitDefEqProofs only [goR, ↓upd_at, if_true, if_false, reduceCtorEq, ↓reduceIte, Nat.reduceEqDiff, Nat.reduceAdd, Nat.reduceSub, Nat.reduceMul, Nat.reduceBEq, Nat.reduceLT, Nat.reduceLeDiff, Int.reduceToNat, Int.reduceLE, Int.reduceLT, Int.reduceEq, Int.reduceNeg, ← List.map_drop, ← List.map_take, UInt8.reduceToNat, true_implies, implies_true, List.append_eq, y_prelaw2_SpliceTells, hc3.1, hc3.2, hp6, hc4.1, hc4.2]
                      (repeat' (first | ((with_reducible refine hK _ _ ?_); clear hK K) | (with_reducible apply And.intro) | (exact trivial) | (clear hK K; assumption) | (clear hK K; omega)))
                      refine cut_at H ?_
                      exact wk_ren ⟨[], []⟩ rfl rfl rfl rfl rfl (by simp -implicitDefEqProofs only [goW, goR, ↓upd_at, if_true, if_false, reduceCtorEq, ↓reduceIte, Nat.reduceEqDiff, Nat.reduceAdd, Nat.reduceSub, Nat.reduceMul, Nat.reduceBEq, Nat.reduceLT, Nat.reduceLeDiff, Int.reduceToNat, Int.reduceLE, Int.reduceLT, Int.reduceEq, Int.reduceNeg, ← List.map_drop, ← List.map_take, UInt8.reduceToNat, true_implies, implies_true, List.append_eq, y_prelaw2_SpliceTells]) (by simp -implicitDefEqProofs only [goW, goR, ↓upd_at, if_true, if_false, reduceCtorEq, ↓reduceIte, Nat.reduceEqDiff, Nat.reduceAdd, Nat.reduceSub, Nat.reduceMul, Nat.reduceBEq, Nat.reduceLT, Nat.reduceLeDiff, Int.reduceToNat, Int.reduceLE, Int.reduceLT, Int.reduceEq, Int.reduceNeg, ← List.map_drop, ← List.map_take, UInt8.reduceToNat, true_implies, implies_true, List.append_eq, y_prelaw2_SpliceTells]) (by simp -implicitDefEqProofs only [goW, goR, ↓upd_at, if_true, if_false, reduceCtorEq, ↓reduceIte, Nat.reduceEqDiff, Nat.reduceAdd, Nat.reduceSub, Nat.reduceMul, Nat.reduceBEq, Nat.reduceLT, Nat.reduceLeDiff, Int.reduceToNat, Int.reduceLE, Int.reduceLT, Int.reduceEq, Int.reduceNeg, ← List.map_drop, ← List.map_take, UInt8.reduceToNat, true_implies, implies_true, List.append_eq, y_prelaw2_SpliceTells])
                    · try simp -implicitDefEqProofs only [goR, ↓upd_at, if_true, if_false, reduceCtorEq, ↓reduceIte, Nat.reduceEqDiff, Nat.reduceAdd, Nat.reduceSub, Nat.reduceMul, Nat.reduceBEq, Nat.reduceLT, Nat.reduceLeDiff, Int.reduceToNat, Int.reduceLE, Int.reduceLT, Int.reduceEq, Int.reduceNeg, ← List.map_drop, ← List.map_take, UInt8.reduceToNat, true_implies, implies_true, List.append_eq, y_prelaw2_SpliceTells] at hp6
                      have hq6 := hp6
                      try simp only [goT] at hq6
                      refine w_region rfl (fun K hK => ?_)
                      simp -implicitDefEqProofs only [goR, ↓upd_at, if_true, if_false, reduceCtorEq, ↓reduceIte, Nat.reduceEqDiff, Nat.reduceAdd, Nat.reduceSub, Nat.reduceMul, Nat.reduceBEq, Nat.reduceLT, Nat.reduceLeDiff, Int.reduceToNat, Int.reduceLE, Int.reduceLT, Int.reduceEq, Int.reduceNeg, ← List.map_drop, ← List.map_take, UInt8.reduceToNat, true_implies, implies_true, List.append_eq, y_prelaw2_SpliceTells, hc3.1, hc3.2, hp6]
                      (repeat' (first | ((with_reducible refine hK _ _ ?_); clear hK K) | (with_reducible apply And.intro) | (exact trivial) | (clear hK K; assumption) | (clear hK K; omega)))
                      refine cut_at H ?_
                      exact wk_ren ⟨[], []⟩ rfl rfl rfl rfl rfl (by simp -implicitDefEqProofs only [goW, goR, ↓upd_at, if_true, if_false, reduceCtorEq, ↓reduceIte, Nat.reduceEqDiff, Nat.reduceAdd, Nat.reduceSub, Nat.reduceMul, Nat.reduceBEq, Nat.reduceLT, Nat.reduceLeDiff, Int.reduceToNat, Int.reduceLE, Int.reduceLT, Int.reduceEq, Int.reduceNeg, ← List.map_drop, ← List.map_take, UInt8.reduceToNat, true_implies, implies_true, List.append_eq, y_prelaw2_SpliceTells]) (by simp -implicitDefEqProofs only [goW, goR, ↓upd_at, if_true, if_false, reduceCtorEq, ↓reduceIte, Nat.reduceEqDiff, Nat.reduceAdd, Nat.reduceSub, Nat.reduceMul, Nat.reduceBEq, Nat.reduceLT, Nat.reduceLeDiff, Int.reduceToNat, Int.reduceLE, Int.reduceLT, Int.reduceEq, Int.reduceNeg, ← List.map_drop, ← List.map_take, UInt8.reduceToNat, true_implies, implies_true, List.append_eq, y_prelaw2_SpliceTells]) (by simp -implicitDefEqProofs only [goW, goR, ↓upd_at, if_true, if_false, reduceCtorEq, ↓reduceIte, Nat.reduceEqDiff, Nat.reduceAdd, Nat.reduceSub, Nat.reduceMul, Nat.reduceBEq, Nat.reduceLT, Nat.reduceLeDiff, Int.reduceToNat, Int.reduceLE, Int.reduceLT, Int.reduceEq, Int.reduceNeg, ← List.map_drop, ← List.map_take, UInt8.reduceToNat, true_implies, implies_true, List.append_eq, y_prelaw2_SpliceTells])
                  · rintro x9 H
                    rw [prelaw2_SpliceTells_j7] at H
                    refine w_ret ?_
                    obtain rfl := Option.some.inj H
                    simp -implicitDefEqProofs only [goQ, Try.results3, goR, ↓upd_at, if_true, if_false, reduceCtorEq, ↓reduceIte, Nat.reduceEqDiff, Nat.reduceAdd, Nat.reduceSub, Nat.reduceMul, Nat.reduceBEq, Nat.reduceLT, Nat.reduceLeDiff, Int.reduceToNat, Int.reduceLE, Int.reduceLT, Int.reduceEq, Int.reduceNeg, ← List.map_drop, ← List.map_take, UInt8.reduceToNat, true_implies, implies_true, List.append_eq, y_prelaw2_SpliceTells]
theorem prelaw2_SpliceTells_c (a0 : List UInt8) (a1 : Int) (r : Bool) (H : prelaw2_SpliceTells a0 a1 = some r) : pf_prelaw2_SpliceTells.pre [dS a0, dI a1] = True ∧ pf_prelaw2_SpliceTells.val [dS a0, dI a1] = dB r :=
  ⟨PF.of_pre (enc := c_prelaw2_SpliceTells) (f := fun a => prelaw2_SpliceTells a.1 a.2) (e := e_prelaw2_SpliceTells) (a := (a0, a1)) H, PF.of_val (enc := c_prelaw2_SpliceTells) (f := fun a => prelaw2_SpliceTells a.1 a.2) (e := e_prelaw2_SpliceTells) (a := (a0, a1)) c_prelaw2_SpliceTells_inj H⟩
noncomputable def prelaw2_SpliceWhere_j3 (x2 : Int) (x3 : Int) : Bool → Option ((Int × Int) ⊕ Bool)
  | x4 => if x4 = true then inrO (some false) else some (.inl (x2, IntKind.i64.wrap (x3 + 1)))
noncomputable def prelaw2_SpliceWhere_b2 (a0 : List UInt8) (r2 : Spliced) : (Int × Int) → Option ((Int × Int) ⊕ Bool)
  | (x2, x3) => if (ltI x3 x2) = true then (splice_Where r2 x3).bind fun r3 => if (ltI r3 0) = true then prelaw2_SpliceWhere_j3 x2 x3 true else if (leI (a0.length : Int) r3) = true then prelaw2_SpliceWhere_j3 x2 x3 true else if (0 : Int) ≤ r3 ∧ r3.toNat < a0.length then if (0 : Int) ≤ x3 ∧ x3.toNat < r2.Text.length then if (!eqI ((a0.getD r3.toNat 0).toNat : Int) ((r2.Text.getD x3.toNat 0).toNat : Int)) = true then prelaw2_SpliceWhere_j3 x2 x3 true else if (0 : Int) ≤ (IntKind.i64.wrap (x3 + 1)) ∧ (IntKind.i64.wrap (x3 + 1)).toNat < r2.At.length then if (leI (r2.At.getD ((IntKind.i64.wrap (x3 + 1)).toNat) default) r3) = true then prelaw2_SpliceWhere_j3 x2 x3 true else (splice_Back r2 r3).bind fun r4 => prelaw2_SpliceWhere_j3 x2 x3 (!eqI r4 x3) else none else none else none else inrO (some true)
noncomputable def prelaw2_SpliceWhere_j1 (a0 : List UInt8) (r2 : Spliced) : Bool → Option Bool
  | x1 => if x1 = true then some false else loopO (prelaw2_SpliceWhere_b2 a0 r2) ((r2.Text.length : Int), 0)
noncomputable def prelaw2_SpliceWhere (a0 : List UInt8) : Option Bool :=
  (prelaw2_alive ).bind fun r1 => if (!r1) = true then some false else (splice_Text a0).bind fun r2 => if (!eqI (r2.At.length : Int) (IntKind.i64.wrap ((r2.Text.length : Int) + 1))) = true then prelaw2_SpliceWhere_j1 a0 r2 true else if r2.Text.length < r2.At.length then prelaw2_SpliceWhere_j1 a0 r2 (!eqI (r2.At.getD r2.Text.length default) (a0.length : Int)) else none
def e_prelaw2_SpliceWhere : Bool → D := dB
def c_prelaw2_SpliceWhere : (List UInt8) → List D := fun a => [dS a]
theorem c_prelaw2_SpliceWhere_inj : Inj c_prelaw2_SpliceWhere := by intro a b h; simp only [c_prelaw2_SpliceWhere, List.map_cons, List.map_nil, List.cons.injEq, and_true] at h; exact (dS_inj _ _) h
noncomputable def pf_prelaw2_SpliceWhere : PF := PF.of c_prelaw2_SpliceWhere (fun a => prelaw2_SpliceWhere a) e_prelaw2_SpliceWhere
noncomputable def t_prelaw2_SpliceWhere : Tab := tabOf Try.prog [(21, pf_prelaw2_alive), (15, pf_splice_Text), (19, pf_splice_Where), (20, pf_splice_Back)] []
theorem t_prelaw2_SpliceWhere_ok : TabOk t_prelaw2_SpliceWhere := tabOf_ok (by exact ⟨⟨call_21, prelaw2_alive_ok⟩, ⟨call_15, splice_Text_ok⟩, ⟨call_19, splice_Where_ok⟩, ⟨call_20, splice_Back_ok⟩, trivial⟩) trivial
theorem y_prelaw2_SpliceWhere : ((((((type_of% @Try.underlying9) ∧ (type_of% @tAgg_22)) ∧ ((type_of% @tAgg_24) ∧ (type_of% @tAgg_3))) ∧ (((type_of% @tAgg_9) ∧ (type_of% @tBytes_3)) ∧ ((type_of% @tCS_22) ∧ (type_of% @tCS_24)))) ∧ ((((type_of% @tCS_3) ∧ (type_of% @tCS_9)) ∧ ((type_of% @tElem_22) ∧ (type_of% @tFld_24_0))) ∧ (((type_of% @tFld_24_1) ∧ (type_of% @tKnown_22)) ∧ ((type_of% @tKnown_24) ∧ ((type_of% @tKnown_3) ∧ (type_of% @tKnown_9)))))) ∧ (((((type_of% @tOff_24_0) ∧ (type_of% @tOff_24_1)) ∧ ((type_of% @tSize_22) ∧ (type_of% @tSize_24))) ∧ (((type_of% @tSize_3) ∧ (type_of% @tSize_9)) ∧ ((type_of% @tSlice_22) ∧ (type_of% @tStruct_24_0)))) ∧ ((((type_of% @tStruct_24_1) ∧ (type_of% @tZ_24)) ∧ ((type_of% @tZ_3) ∧ (type_of% @tZok_24))) ∧ (((type_of% @tZok_3) ∧ (type_of% @d_Spliced.eq_1)) ∧ ((type_of% @t_prelaw2_SpliceWhere.eq_1) ∧ ((type_of% @c_prelaw2_SpliceWhere.eq_1) ∧ (type_of% @e_prelaw2_SpliceWhere.eq_1))))))) := ⟨⟨⟨⟨⟨@Try.underlying9, @tAgg_22⟩, ⟨@tAgg_24, @tAgg_3⟩⟩, ⟨⟨@tAgg_9, @tBytes_3⟩, ⟨@tCS_22, @tCS_24⟩⟩⟩, ⟨⟨⟨@tCS_3, @tCS_9⟩, ⟨@tElem_22, @tFld_24_0⟩⟩, ⟨⟨@tFld_24_1, @tKnown_22⟩, ⟨@tKnown_24, ⟨@tKnown_3, @tKnown_9⟩⟩⟩⟩⟩, ⟨⟨⟨⟨@tOff_24_0, @tOff_24_1⟩, ⟨@tSize_22, @tSize_24⟩⟩, ⟨⟨@tSize_3, @tSize_9⟩, ⟨@tSlice_22, @tStruct_24_0⟩⟩⟩, ⟨⟨⟨@tStruct_24_1, @tZ_24⟩, ⟨@tZ_3, @tZok_24⟩⟩, ⟨⟨@tZok_3, @d_Spliced.eq_1⟩, ⟨@t_prelaw2_SpliceWhere.eq_1, ⟨@c_prelaw2_SpliceWhere.eq_1, @e_prelaw2_SpliceWhere.eq_1⟩⟩⟩⟩⟩⟩
set_option maxRecDepth 100000 in
set_option maxHeartbeats 4000000 in
theorem prelaw2_SpliceWhere_ok : PureOk Try.prog 4 pf_prelaw2_SpliceWhere := by
  refine pure_of (t := t_prelaw2_SpliceWhere) (pure := fun n => [21, 15, 19, 20].contains n) c_prelaw2_SpliceWhere_inj t_prelaw2_SpliceWhere_ok mixed (fun n hn => tabOf_pure rfl n hn) Try.func4 rfl (by kernel_rfl) (fun a => by simp [c_prelaw2_SpliceWhere, Try.ntmps4]) ?_
  rintro a0 out H
  simp only [prelaw2_SpliceWhere] at H
  show aC _ _ (sig0 (List.map (fun d => AV.c (C.d d)) (c_prelaw2_SpliceWhere a0))) _ _
  refine w_seq ?_
  refine w_region rfl (fun K hK => ?_)
  simp -implicitDefEqProofs only [goR, ↓upd_at, if_true, if_false, reduceCtorEq, ↓reduceIte, Nat.reduceEqDiff, Nat.reduceAdd, Nat.reduceSub, Nat.reduceMul, Nat.reduceBEq, Nat.reduceLT, Nat.reduceLeDiff, Int.reduceToNat, Int.reduceLE, Int.reduceLT, Int.reduceEq, Int.reduceNeg, ← List.map_drop, ← List.map_take, UInt8.reduceToNat, true_implies, implies_true, List.append_eq, y_prelaw2_SpliceWhere]
  (repeat' (first | ((with_reducible refine hK _ _ ?_); clear hK K) | (with_reducible apply And.intro) | (exact trivial) | (clear hK K; assumption) | (clear hK K; omega)))
  refine then_normal ?_
  refine w_seq ?_
  refine w_seq ?_
  obtain ⟨r1, hr1, H⟩ := osplit H
  have hc1 := prelaw2_alive_c  r1 hr1
  simp -implicitDefEqProofs only [goR, ↓upd_at, if_true, if_false, reduceCtorEq, ↓reduceIte, Nat.reduceEqDiff, Nat.reduceAdd, Nat.reduceSub, Nat.reduceMul, Nat.reduceBEq, Nat.reduceLT, Nat.reduceLeDiff, Int.reduceToNat, Int.reduceLE, Int.reduceLT, Int.reduceEq, Int.reduceNeg, ← List.map_drop, ← List.map_take, UInt8.reduceToNat, true_implies, implies_true, List.append_eq, y_prelaw2_SpliceWhere] at hc1
  refine w_region rfl (fun K hK => ?_)
  simp -implicitDefEqProofs only [goR, ↓upd_at, if_true, if_false, reduceCtorEq, ↓reduceIte, Nat.reduceEqDiff, Nat.reduceAdd, Nat.reduceSub, Nat.reduceMul, Nat.reduceBEq, Nat.reduceLT, Nat.reduceLeDiff, Int.reduceToNat, Int.reduceLE, Int.reduceLT, Int.reduceEq, Int.reduceNeg, ← List.map_drop, ← List.map_take, UInt8.reduceToNat, true_implies, implies_true, List.append_eq, y_prelaw2_SpliceWhere, hc1.1, hc1.2]
  (repeat' (first | ((with_reducible refine hK _ _ ?_); clear hK K) | (with_reducible apply And.intro) | (exact trivial) | (clear hK K; assumption) | (clear hK K; omega)))
  refine then_normal ?_
  rcases bsplit H with ⟨hp1, H⟩ | ⟨hp1, H⟩
  · try simp -implicitDefEqProofs only [goR, ↓upd_at, if_true, if_false, reduceCtorEq, ↓reduceIte, Nat.reduceEqDiff, Nat.reduceAdd, Nat.reduceSub, Nat.reduceMul, Nat.reduceBEq, Nat.reduceLT, Nat.reduceLeDiff, Int.reduceToNat, Int.reduceLE, Int.reduceLT, Int.reduceEq, Int.reduceNeg, ← List.map_drop, ← List.map_take, UInt8.reduceToNat, true_implies, implies_true, List.append_eq, y_prelaw2_SpliceWhere] at hp1
    have hq1 := hp1
    try simp only [goT] at hq1
    refine w_condT (by simp -implicitDefEqProofs only [goR, ↓upd_at, if_true, if_false, reduceCtorEq, ↓reduceIte, Nat.reduceEqDiff, Nat.reduceAdd, Nat.reduceSub, Nat.reduceMul, Nat.reduceBEq, Nat.reduceLT, Nat.reduceLeDiff, Int.reduceToNat, Int.reduceLE, Int.reduceLT, Int.reduceEq, Int.reduceNeg, ← List.map_drop, ← List.map_take, UInt8.reduceToNat, true_implies, implies_true, List.append_eq, y_prelaw2_SpliceWhere, hp1]) ?_
    refine w_seq ?_
    refine w_region rfl (fun K hK => ?_)
    simp -implicitDefEqProofs only [goR, ↓upd_at, if_true, if_false, reduceCtorEq, ↓reduceIte, Nat.reduceEqDiff, Nat.reduceAdd, Nat.reduceSub, Nat.reduceMul, Nat.reduceBEq, Nat.reduceLT, Nat.reduceLeDiff, Int.reduceToNat, Int.reduceLE, Int.reduceLT, Int.reduceEq, Int.reduceNeg, ← List.map_drop, ← List.map_take, UInt8.reduceToNat, true_implies, implies_true, List.append_eq, y_prelaw2_SpliceWhere]
    (repeat' (first | ((with_reducible refine hK _ _ ?_); clear hK K) | (with_reducible apply And.intro) | (exact trivial) | (clear hK K; assumption) | (clear hK K; omega)))
    refine then_normal ?_
    refine w_ret ?_
    refine then_ret ?_
    obtain rfl := Option.some.inj H
    simp -implicitDefEqProofs only [goQ, Try.results4, goR, ↓upd_at, if_true, if_false, reduceCtorEq, ↓reduceIte, Nat.reduceEqDiff, Nat.reduceAdd, Nat.reduceSub, Nat.reduceMul, Nat.reduceBEq, Nat.reduceLT, Nat.reduceLeDiff, Int.reduceToNat, Int.reduceLE, Int.reduceLT, Int.reduceEq, Int.reduceNeg, ← List.map_drop, ← List.map_take, UInt8.reduceToNat, true_implies, implies_true, List.append_eq, y_prelaw2_SpliceWhere]
  · try simp -implicitDefEqProofs only [goR, ↓upd_at, if_true, if_false, reduceCtorEq, ↓reduceIte, Nat.reduceEqDiff, Nat.reduceAdd, Nat.reduceSub, Nat.reduceMul, Nat.reduceBEq, Nat.reduceLT, Nat.reduceLeDiff, Int.reduceToNat, Int.reduceLE, Int.reduceLT, Int.reduceEq, Int.reduceNeg, ← List.map_drop, ← List.map_take, UInt8.reduceToNat, true_implies, implies_true, List.append_eq, y_prelaw2_SpliceWhere] at hp1
    have hq1 := hp1
    try simp only [goT] at hq1
    refine w_condF (by simp -implicitDefEqProofs only [goR, ↓upd_at, if_true, if_false, reduceCtorEq, ↓reduceIte, Nat.reduceEqDiff, Nat.reduceAdd, Nat.reduceSub, Nat.reduceMul, Nat.reduceBEq, Nat.reduceLT, Nat.reduceLeDiff, Int.reduceToNat, Int.reduceLE, Int.reduceLT, Int.reduceEq, Int.reduceNeg, ← List.map_drop, ← List.map_take, UInt8.reduceToNat, true_implies, implies_true, List.append_eq, y_prelaw2_SpliceWhere, hp1]) ?_
    refine w_skip ?_
    refine then_normal ?_
    refine w_seq ?_
    obtain ⟨r2, hr2, H⟩ := osplit H
    have hc2 := splice_Text_c a0 r2 hr2
    simp -implicitDefEqProofs only [goR, ↓upd_at, if_true, if_false, reduceCtorEq, ↓reduceIte, Nat.reduceEqDiff, Nat.reduceAdd, Nat.reduceSub, Nat.reduceMul, Nat.reduceBEq, Nat.reduceLT, Nat.reduceLeDiff, Int.reduceToNat, Int.reduceLE, Int.reduceLT, Int.reduceEq, Int.reduceNeg, ← List.map_drop, ← List.map_take, UInt8.reduceToNat, true_implies, implies_true, List.append_eq, y_prelaw2_SpliceWhere] at hc2
    refine w_region rfl (fun K hK => ?_)
    simp -implicitDefEqProofs only [goR, ↓upd_at, if_true, if_false, reduceCtorEq, ↓reduceIte, Nat.reduceEqDiff, Nat.reduceAdd, Nat.reduceSub, Nat.reduceMul, Nat.reduceBEq, Nat.reduceLT, Nat.reduceLeDiff, Int.reduceToNat, Int.reduceLE, Int.reduceLT, Int.reduceEq, Int.reduceNeg, ← List.map_drop, ← List.map_take, UInt8.reduceToNat, true_implies, implies_true, List.append_eq, y_prelaw2_SpliceWhere, hc2.1, hc2.2]
    (repeat' (first | ((with_reducible refine hK _ _ ?_); clear hK K) | (with_reducible apply And.intro) | (exact trivial) | (clear hK K; assumption) | (clear hK K; omega)))
    refine then_normal ?_
    refine w_seq ?_
    refine w_cut (prelaw2_SpliceWhere_j1 a0 r2) (fun s => [(0, .c (.d (.v (str a0)))), (3, .c (.pt 1 0)), (29, .c (.d (.v (.bool s))))]) (fun s => [[.d (.v (str r2.Text)), .d (.sl 1 (List.map dI r2.At))]]) [] out ?_ ?_
    · rcases bsplit H with ⟨hp9, H⟩ | ⟨hp9, H⟩
      · try simp -implicitDefEqProofs only [goR, ↓upd_at, if_true, if_false, reduceCtorEq, ↓reduceIte, Nat.reduceEqDiff, Nat.reduceAdd, Nat.reduceSub, Nat.reduceMul, Nat.reduceBEq, Nat.reduceLT, Nat.reduceLeDiff, Int.reduceToNat, Int.reduceLE, Int.reduceLT, Int.reduceEq, Int.reduceNeg, ← List.map_drop, ← List.map_take, UInt8.reduceToNat, true_implies, implies_true, List.append_eq, y_prelaw2_SpliceWhere] at hp9
        have hq9 := hp9
        try simp only [goT] at hq9
        refine w_region rfl (fun K hK => ?_)
        simp -implicitDefEqProofs only [goR, ↓upd_at, if_true, if_false, reduceCtorEq, ↓reduceIte, Nat.reduceEqDiff, Nat.reduceAdd, Nat.reduceSub, Nat.reduceMul, Nat.reduceBEq, Nat.reduceLT, Nat.reduceLeDiff, Int.reduceToNat, Int.reduceLE, Int.reduceLT, Int.reduceEq, Int.reduceNeg, ← List.map_drop, ← List.map_take, UInt8.reduceToNat, true_implies, implies_true, List.append_eq, y_prelaw2_SpliceWhere, hp9]
        (repeat' (first | ((with_reducible refine hK _ _ ?_); clear hK K) | (with_reducible apply And.intro) | (exact trivial) | (clear hK K; assumption) | (clear hK K; omega)))
        refine cut_at H ?_
        exact wk_ren ⟨[1], []⟩ rfl rfl rfl rfl rfl (by simp -implicitDefEqProofs only [goW, goR, ↓upd_at, if_true, if_false, reduceCtorEq, ↓reduceIte, Nat.reduceEqDiff, Nat.reduceAdd, Nat.reduceSub, Nat.reduceMul, Nat.reduceBEq, Nat.reduceLT, Nat.reduceLeDiff, Int.reduceToNat, Int.reduceLE, Int.reduceLT, Int.reduceEq, Int.reduceNeg, ← List.map_drop, ← List.map_take, UInt8.reduceToNat, true_implies, implies_true, List.append_eq, y_prelaw2_SpliceWhere]) (by simp -implicitDefEqProofs only [goW, goR, ↓upd_at, if_true, if_false, reduceCtorEq, ↓reduceIte, Nat.reduceEqDiff, Nat.reduceAdd, Nat.reduceSub, Nat.reduceMul, Nat.reduceBEq, Nat.reduceLT, Nat.reduceLeDiff, Int.reduceToNat, Int.reduceLE, Int.reduceLT, Int.reduceEq, Int.reduceNeg, ← List.map_drop, ← List.map_take, UInt8.reduceToNat, true_implies, implies_true, List.append_eq, y_prelaw2_SpliceWhere]) (by simp -implicitDefEqProofs only [goW, goR, ↓upd_at, if_true, if_false, reduceCtorEq, ↓reduceIte, Nat.reduceEqDiff, Nat.reduceAdd, Nat.reduceSub, Nat.reduceMul, Nat.reduceBEq, Nat.reduceLT, Nat.reduceLeDiff, Int.reduceToNat, Int.reduceLE, Int.reduceLT, Int.reduceEq, Int.reduceNeg, ← List.map_drop, ← List.map_take, UInt8.reduceToNat, true_implies, implies_true, List.append_eq, y_prelaw2_SpliceWhere])
      · try simp -implicitDefEqProofs only [goR, ↓upd_at, if_true, if_false, reduceCtorEq, ↓reduceIte, Nat.reduceEqDiff, Nat.reduceAdd, Nat.reduceSub, Nat.reduceMul, Nat.reduceBEq, Nat.reduceLT, Nat.reduceLeDiff, Int.reduceToNat, Int.reduceLE, Int.reduceLT, Int.reduceEq, Int.reduceNeg, ← List.map_drop, ← List.map_take, UInt8.reduceToNat, true_implies, implies_true, List.append_eq, y_prelaw2_SpliceWhere] at hp9
        have hq9 := hp9
        try simp only [goT] at hq9
        obtain ⟨hg4, H⟩ := gsplit H
        have g2 := map_getD dI r2.At r2.Text.length default default (by omega)
        refine w_region rfl (fun K hK => ?_)
        simp -implicitDefEqProofs only [goR, ↓upd_at, if_true, if_false, reduceCtorEq, ↓reduceIte, Nat.reduceEqDiff, Nat.reduceAdd, Nat.reduceSub, Nat.reduceMul, Nat.reduceBEq, Nat.reduceLT, Nat.reduceLeDiff, Int.reduceToNat, Int.reduceLE, Int.reduceLT, Int.reduceEq, Int.reduceNeg, ← List.map_drop, ← List.map_take, UInt8.reduceToNat, true_implies, implies_true, List.append_eq, y_prelaw2_SpliceWhere, hp9, g2]
        (repeat' (first | ((with_reducible refine hK _ _ ?_); clear hK K) | (with_reducible apply And.intro) | (exact trivial) | (clear hK K; assumption) | (clear hK K; omega)))
        refine cut_at H ?_
        exact wk_ren ⟨[1], []⟩ rfl rfl rfl rfl rfl (by simp -implicitDefEqProofs only [goW, goR, ↓upd_at, if_true, if_false, reduceCtorEq, ↓reduceIte, Nat.reduceEqDiff, Nat.reduceAdd, Nat.reduceSub, Nat.reduceMul, Nat.reduceBEq, Nat.reduceLT, Nat.reduceLeDiff, Int.reduceToNat, Int.reduceLE, Int.reduceLT, Int.reduceEq, Int.reduceNeg, ← List.map_drop, ← List.map_take, UInt8.reduceToNat, true_implies, implies_true, List.append_eq, y_prelaw2_SpliceWhere]) (by simp -implicitDefEqProofs only [goW, goR, ↓upd_at, if_true, if_false, reduceCtorEq, ↓reduceIte, Nat.reduceEqDiff, Nat.reduceAdd, Nat.reduceSub, Nat.reduceMul, Nat.reduceBEq, Nat.reduceLT, Nat.reduceLeDiff, Int.reduceToNat, Int.reduceLE, Int.reduceLT, Int.reduceEq, Int.reduceNeg, ← List.map_drop, ← List.map_take, UInt8.reduceToNat, true_implies, implies_true, List.append_eq, y_prelaw2_SpliceWhere]) (by simp -implicitDefEqProofs only [goW, goR, ↓upd_at, if_true, if_false, reduceCtorEq, ↓reduceIte, Nat.reduceEqDiff, Nat.reduceAdd, Nat.reduceSub, Nat.reduceMul, Nat.reduceBEq, Nat.reduceLT, Nat.reduceLeDiff, Int.reduceToNat, Int.reduceLE, Int.reduceLT, Int.reduceEq, Int.reduceNeg, ← List.map_drop, ← List.map_take, UInt8.reduceToNat, true_implies, implies_true, List.append_eq, y_prelaw2_SpliceWhere])
    · rintro x1 H
      rw [prelaw2_SpliceWhere_j1] at H
      rcases bsplit H with ⟨hp2, H⟩ | ⟨hp2, H⟩
      · try simp -implicitDefEqProofs only [goR, ↓upd_at, if_true, if_false, reduceCtorEq, ↓reduceIte, Nat.reduceEqDiff, Nat.reduceAdd, Nat.reduceSub, Nat.reduceMul, Nat.reduceBEq, Nat.reduceLT, Nat.reduceLeDiff, Int.reduceToNat, Int.reduceLE, Int.reduceLT, Int.reduceEq, Int.reduceNeg, ← List.map_drop, ← List.map_take, UInt8.reduceToNat, true_implies, implies_true, List.append_eq, y_prelaw2_SpliceWhere] at hp2
        have hq2 := hp2
        try simp only [goT] at hq2
        refine w_condT (by simp -implicitDefEqProofs only [goR, ↓upd_at, if_true, if_false, reduceCtorEq, ↓reduceIte, Nat.reduceEqDiff, Nat.reduceAdd, Nat.reduceSub, Nat.reduceMul, Nat.reduceBEq, Nat.reduceLT, Nat.reduceLeDiff, Int.reduceToNat, Int.reduceLE, Int.reduceLT, Int.reduceEq, Int.reduceNeg, ← List.map_drop, ← List.map_take, UInt8.reduceToNat, true_implies, implies_true, List.append_eq, y_prelaw2_SpliceWhere, hp2]) ?_
        refine w_seq ?_
        refine w_region rfl (fun K hK => ?_)
        simp -implicitDefEqProofs only [goR, ↓upd_at, if_true, if_false, reduceCtorEq, ↓reduceIte, Nat.reduceEqDiff, Nat.reduceAdd, Nat.reduceSub, Nat.reduceMul, Nat.reduceBEq, Nat.reduceLT, Nat.reduceLeDiff, Int.reduceToNat, Int.reduceLE, Int.reduceLT, Int.reduceEq, Int.reduceNeg, ← List.map_drop, ← List.map_take, UInt8.reduceToNat, true_implies, implies_true, List.append_eq, y_prelaw2_SpliceWhere]
        (repeat' (first | ((with_reducible refine hK _ _ ?_); clear hK K) | (with_reducible apply And.intro) | (exact trivial) | (clear hK K; assumption) | (clear hK K; omega)))
        refine then_normal ?_
        refine w_ret ?_
        refine then_ret ?_
        obtain rfl := Option.some.inj H
        simp -implicitDefEqProofs only [goQ, Try.results4, goR, ↓upd_at, if_true, if_false, reduceCtorEq, ↓reduceIte, Nat.reduceEqDiff, Nat.reduceAdd, Nat.reduceSub, Nat.reduceMul, Nat.reduceBEq, Nat.reduceLT, Nat.reduceLeDiff, Int.reduceToNat, Int.reduceLE, Int.reduceLT, Int.reduceEq, Int.reduceNeg, ← List.map_drop, ← List.map_take, UInt8.reduceToNat, true_implies, implies_true, List.append_eq, y_prelaw2_SpliceWhere]
      · try simp -implicitDefEqProofs only [goR, ↓upd_at, if_true, if_false, reduceCtorEq, ↓reduceIte, Nat.reduceEqDiff, Nat.reduceAdd, Nat.reduceSub, Nat.reduceMul, Nat.reduceBEq, Nat.reduceLT, Nat.reduceLeDiff, Int.reduceToNat, Int.reduceLE, Int.reduceLT, Int.reduceEq, Int.reduceNeg, ← List.map_drop, ← List.map_take, UInt8.reduceToNat, true_implies, implies_true, List.append_eq, y_prelaw2_SpliceWhere] at hp2
        have hq2 := hp2
        try simp only [goT] at hq2
        refine w_condF (by simp -implicitDefEqProofs only [goR, ↓upd_at, if_true, if_false, reduceCtorEq, ↓reduceIte, Nat.reduceEqDiff, Nat.reduceAdd, Nat.reduceSub, Nat.reduceMul, Nat.reduceBEq, Nat.reduceLT, Nat.reduceLeDiff, Int.reduceToNat, Int.reduceLE, Int.reduceLT, Int.reduceEq, Int.reduceNeg, ← List.map_drop, ← List.map_take, UInt8.reduceToNat, true_implies, implies_true, List.append_eq, y_prelaw2_SpliceWhere, hp2]) ?_
        refine w_skip ?_
        refine then_normal ?_
        refine w_seq ?_
        refine w_seq ?_
        refine w_region rfl (fun K hK => ?_)
        simp -implicitDefEqProofs only [goR, ↓upd_at, if_true, if_false, reduceCtorEq, ↓reduceIte, Nat.reduceEqDiff, Nat.reduceAdd, Nat.reduceSub, Nat.reduceMul, Nat.reduceBEq, Nat.reduceLT, Nat.reduceLeDiff, Int.reduceToNat, Int.reduceLE, Int.reduceLT, Int.reduceEq, Int.reduceNeg, ← List.map_drop, ← List.map_take, UInt8.reduceToNat, true_implies, implies_true, List.append_eq, y_prelaw2_SpliceWhere]
        (repeat' (first | ((with_reducible refine hK _ _ ?_); clear hK K) | (with_reducible apply And.intro) | (exact trivial) | (clear hK K; assumption) | (clear hK K; omega)))
        refine then_normal ?_
        refine w_block ?_
        refine w_loop (prelaw2_SpliceWhere_b2 a0 r2) (fun s => [(0, .c (.d (.v (str a0)))), (3, .c (.pt 1 0)), (32, .c (.d (.v (.int .i64 s.1)))), (33, .c (.d (.v (.int .i64 s.2))))]) (fun s => [[.d (.v (str r2.Text)), .d (.sl 1 (List.map dI r2.At))]]) [] H ?_ ?_
        · exact wk_ren ⟨[1], []⟩ rfl rfl rfl rfl rfl (by simp -implicitDefEqProofs only [goW, goR, ↓upd_at, if_true, if_false, reduceCtorEq, ↓reduceIte, Nat.reduceEqDiff, Nat.reduceAdd, Nat.reduceSub, Nat.reduceMul, Nat.reduceBEq, Nat.reduceLT, Nat.reduceLeDiff, Int.reduceToNat, Int.reduceLE, Int.reduceLT, Int.reduceEq, Int.reduceNeg, ← List.map_drop, ← List.map_take, UInt8.reduceToNat, true_implies, implies_true, List.append_eq, y_prelaw2_SpliceWhere]) (by simp -implicitDefEqProofs only [goW, goR, ↓upd_at, if_true, if_false, reduceCtorEq, ↓reduceIte, Nat.reduceEqDiff, Nat.reduceAdd, Nat.reduceSub, Nat.reduceMul, Nat.reduceBEq, Nat.reduceLT, Nat.reduceLeDiff, Int.reduceToNat, Int.reduceLE, Int.reduceLT, Int.reduceEq, Int.reduceNeg, ← List.map_drop, ← List.map_take, UInt8.reduceToNat, true_implies, implies_true, List.append_eq, y_prelaw2_SpliceWhere]) (by simp -implicitDefEqProofs only [goW, goR, ↓upd_at, if_true, if_false, reduceCtorEq, ↓reduceIte, Nat.reduceEqDiff, Nat.reduceAdd, Nat.reduceSub, Nat.reduceMul, Nat.reduceBEq, Nat.reduceLT, Nat.reduceLeDiff, Int.reduceToNat, Int.reduceLE, Int.reduceLT, Int.reduceEq, Int.reduceNeg, ← List.map_drop, ← List.map_take, UInt8.reduceToNat, true_implies, implies_true, List.append_eq, y_prelaw2_SpliceWhere])
        · rintro n1 ⟨x2, x3⟩ o1 H hF1
          rw [prelaw2_SpliceWhere_b2] at H
          refine w_seq ?_
          refine w_region rfl (fun K hK => ?_)
          simp -implicitDefEqProofs only [goR, ↓upd_at, if_true, if_false, reduceCtorEq, ↓reduceIte, Nat.reduceEqDiff, Nat.reduceAdd, Nat.reduceSub, Nat.reduceMul, Nat.reduceBEq, Nat.reduceLT, Nat.reduceLeDiff, Int.reduceToNat, Int.reduceLE, Int.reduceLT, Int.reduceEq, Int.reduceNeg, ← List.map_drop, ← List.map_take, UInt8.reduceToNat, true_implies, implies_true, List.append_eq, y_prelaw2_SpliceWhere]
          (repeat' (first | ((with_reducible refine hK _ _ ?_); clear hK K) | (with_reducible apply And.intro) | (exact trivial) | (clear hK K; assumption) | (clear hK K; omega)))
          refine then_normal ?_
          refine w_seq ?_
          rcases bsplit H with ⟨hp3, H⟩ | ⟨hp3, H⟩
          · try simp -implicitDefEqProofs only [goR, ↓upd_at, if_true, if_false, reduceCtorEq, ↓reduceIte, Nat.reduceEqDiff, Nat.reduceAdd, Nat.reduceSub, Nat.reduceMul, Nat.reduceBEq, Nat.reduceLT, Nat.reduceLeDiff, Int.reduceToNat, Int.reduceLE, Int.reduceLT, Int.reduceEq, Int.reduceNeg, ← List.map_drop, ← List.map_take, UInt8.reduceToNat, true_implies, implies_true, List.append_eq, y_prelaw2_SpliceWhere] at hp3
            have hq3 := hp3
            try simp only [goT] at hq3
            refine w_condT (by simp -implicitDefEqProofs only [goR, ↓upd_at, if_true, if_false, reduceCtorEq, ↓reduceIte, Nat.reduceEqDiff, Nat.reduceAdd, Nat.reduceSub, Nat.reduceMul, Nat.reduceBEq, Nat.reduceLT, Nat.reduceLeDiff, Int.reduceToNat, Int.reduceLE, Int.reduceLT, Int.reduceEq, Int.reduceNeg, ← List.map_drop, ← List.map_take, UInt8.reduceToNat, true_implies, implies_true, List.append_eq, y_prelaw2_SpliceWhere, hp3]) ?_
            refine w_skip ?_
            refine then_normal ?_
            refine w_seq ?_
            refine w_block ?_
            refine w_seq ?_
            refine w_region rfl (fun K hK => ?_)
            simp -implicitDefEqProofs only [goR, ↓upd_at, if_true, if_false, reduceCtorEq, ↓reduceIte, Nat.reduceEqDiff, Nat.reduceAdd, Nat.reduceSub, Nat.reduceMul, Nat.reduceBEq, Nat.reduceLT, Nat.reduceLeDiff, Int.reduceToNat, Int.reduceLE, Int.reduceLT, Int.reduceEq, Int.reduceNeg, ← List.map_drop, ← List.map_take, UInt8.reduceToNat, true_implies, implies_true, List.append_eq, y_prelaw2_SpliceWhere]
            (repeat' (first | ((with_reducible refine hK _ _ ?_); clear hK K) | (with_reducible apply And.intro) | (exact trivial) | (clear hK K; assumption) | (clear hK K; omega)))
            refine then_normal ?_
            refine w_seq ?_
            obtain ⟨r3, hr3, H⟩ := osplit H
            have hc3 := splice_Where_c r2 x3 r3 hr3
            simp -implicitDefEqProofs only [goR, ↓upd_at, if_true, if_false, reduceCtorEq, ↓reduceIte, Nat.reduceEqDiff, Nat.reduceAdd, Nat.reduceSub, Nat.reduceMul, Nat.reduceBEq, Nat.reduceLT, Nat.reduceLeDiff, Int.reduceToNat, Int.reduceLE, Int.reduceLT, Int.reduceEq, Int.reduceNeg, ← List.map_drop, ← List.map_take, UInt8.reduceToNat, true_implies, implies_true, List.append_eq, y_prelaw2_SpliceWhere] at hc3
            refine w_region rfl (fun K hK => ?_)
            simp -implicitDefEqProofs only [goR, ↓upd_at, if_true, if_false, reduceCtorEq, ↓reduceIte, Nat.reduceEqDiff, Nat.reduceAdd, Nat.reduceSub, Nat.reduceMul, Nat.reduceBEq, Nat.reduceLT, Nat.reduceLeDiff, Int.reduceToNat, Int.reduceLE, Int.reduceLT, Int.reduceEq, Int.reduceNeg, ← List.map_drop, ← List.map_take, UInt8.reduceToNat, true_implies, implies_true, List.append_eq, y_prelaw2_SpliceWhere, hc3.1, hc3.2]
            (repeat' (first | ((with_reducible refine hK _ _ ?_); clear hK K) | (with_reducible apply And.intro) | (exact trivial) | (clear hK K; assumption) | (clear hK K; omega)))
            refine then_normal ?_
            refine w_cut (prelaw2_SpliceWhere_j3 x2 x3) (fun s => [(0, .c (.d (.v (str a0)))), (3, .c (.pt 1 0)), (32, .c (.d (.v (.int .i64 x2)))), (33, .c (.d (.v (.int .i64 x3)))), (73, .c (.d (.v (.bool s))))]) (fun s => [[.d (.v (str r2.Text)), .d (.sl 1 (List.map dI r2.At))]]) [] o1 ?_ ?_
            · rcases bsplit H with ⟨hp5, H⟩ | ⟨hp5, H⟩
              · try simp -implicitDefEqProofs only [goR, ↓upd_at, if_true, if_false, reduceCtorEq, ↓reduceIte, Nat.reduceEqDiff, Nat.reduceAdd, Nat.reduceSub, Nat.reduceMul, Nat.reduceBEq, Nat.reduceLT, Nat.reduceLeDiff, Int.reduceToNat, Int.reduceLE, Int.reduceLT, Int.reduceEq, Int.reduceNeg, ← List.map_drop, ← List.map_take, UInt8.reduceToNat, true_implies, implies_true, List.append_eq, y_prelaw2_SpliceWhere] at hp5
                have hq5 := hp5
                try simp only [goT] at hq5
                refine w_region rfl (fun K hK => ?_)
                simp -implicitDefEqProofs only [goR, ↓upd_at, if_true, if_false, reduceCtorEq, ↓reduceIte, Nat.reduceEqDiff, Nat.reduceAdd, Nat.reduceSub, Nat.reduceMul, Nat.reduceBEq, Nat.reduceLT, Nat.reduceLeDiff, Int.reduceToNat, Int.reduceLE, Int.reduceLT, Int.reduceEq, Int.reduceNeg, ← List.map_drop, ← List.map_take, UInt8.reduceToNat, true_implies, implies_true, List.append_eq, y_prelaw2_SpliceWhere, hp5]
                (repeat' (first | ((with_reducible refine hK _ _ ?_); clear hK K) | (with_reducible apply And.intro) | (exact trivial) | (clear hK K; assumption) | (clear hK K; omega)))
                refine cut_at H ?_
                exact wk_ren ⟨[1], []⟩ rfl rfl rfl rfl rfl (by simp -implicitDefEqProofs only [goW, goR, ↓upd_at, if_true, if_false, reduceCtorEq, ↓reduceIte, Nat.reduceEqDiff, Nat.reduceAdd, Nat.reduceSub, Nat.reduceMul, Nat.reduceBEq, Nat.reduceLT, Nat.reduceLeDiff, Int.reduceToNat, Int.reduceLE, Int.reduceLT, Int.reduceEq, Int.reduceNeg, ← List.map_drop, ← List.map_take, UInt8.reduceToNat, true_implies, implies_true, List.append_eq, y_prelaw2_SpliceWhere]) (by simp -implicitDefEqProofs only [goW, goR, ↓upd_at, if_true, if_false, reduceCtorEq, ↓reduceIte, Nat.reduceEqDiff, Nat.reduceAdd, Nat.reduceSub, Nat.reduceMul, Nat.reduceBEq, Nat.reduceLT, Nat.reduceLeDiff, Int.reduceToNat, Int.reduceLE, Int.reduceLT, Int.reduceEq, Int.reduceNeg, ← List.map_drop, ← List.map_take, UInt8.reduceToNat, true_implies, implies_true, List.append_eq, y_prelaw2_SpliceWhere]) (by simp -implicitDefEqProofs only [goW, goR, ↓upd_at, if_true, if_false, reduceCtorEq, ↓reduceIte, Nat.reduceEqDiff, Nat.reduceAdd, Nat.reduceSub, Nat.reduceMul, Nat.reduceBEq, Nat.reduceLT, Nat.reduceLeDiff, Int.reduceToNat, Int.reduceLE, Int.reduceLT, Int.reduceEq, Int.reduceNeg, ← List.map_drop, ← List.map_take, UInt8.reduceToNat, true_implies, implies_true, List.append_eq, y_prelaw2_SpliceWhere])
              · try simp -implicitDefEqProofs only [goR, ↓upd_at, if_true, if_false, reduceCtorEq, ↓reduceIte, Nat.reduceEqDiff, Nat.reduceAdd, Nat.reduceSub, Nat.reduceMul, Nat.reduceBEq, Nat.reduceLT, Nat.reduceLeDiff, Int.reduceToNat, Int.reduceLE, Int.reduceLT, Int.reduceEq, Int.reduceNeg, ← List.map_drop, ← List.map_take, UInt8.reduceToNat, true_implies, implies_true, List.append_eq, y_prelaw2_SpliceWhere] at hp5
                have hq5 := hp5
                try simp only [goT] at hq5
                rcases bsplit H with ⟨hp6, H⟩ | ⟨hp6, H⟩
                · try simp -implicitDefEqProofs only [goR, ↓upd_at, if_true, if_false, reduceCtorEq, ↓reduceIte, Nat.reduceEqDiff, Nat.reduceAdd, Nat.reduceSub, Nat.reduceMul, Nat.reduceBEq, Nat.reduceLT, Nat.reduceLeDiff, Int.reduceToNat, Int.reduceLE, Int.reduceLT, Int.reduceEq, Int.reduceNeg, ← List.map_drop, ← List.map_take, UInt8.reduceToNat, true_implies, implies_true, List.append_eq, y_prelaw2_SpliceWhere] at hp6
                  have hq6 := hp6
                  try simp only [goT] at hq6
                  refine w_region rfl (fun K hK => ?_)
                  simp -implicitDefEqProofs only [goR, ↓upd_at, if_true, if_false, reduceCtorEq, ↓reduceIte, Nat.reduceEqDiff, Nat.reduceAdd, Nat.reduceSub, Nat.reduceMul, Nat.reduceBEq, Nat.reduceLT, Nat.reduceLeDiff, Int.reduceToNat, Int.reduceLE, Int.reduceLT, Int.reduceEq, Int.reduceNeg, ← List.map_drop, ← List.map_take, UInt8.reduceToNat, true_implies, implies_true, List.append_eq, y_prelaw2_SpliceWhere, hp5, hp6]
                  (repeat' (first | ((with_reducible refine hK _ _ ?_); clear hK K) | (with_reducible apply And.intro) | (exact trivial) | (clear hK K; assumption) | (clear hK K; omega)))
                  refine cut_at H ?_
                  exact wk_ren ⟨[1], []⟩ rfl rfl rfl rfl rfl (by simp -implicitDefEqProofs only [goW, goR, ↓upd_at, if_true, if_false, reduceCtorEq, ↓reduceIte, Nat.reduceEqDiff, Nat.reduceAdd, Nat.reduceSub, Nat.reduceMul, Nat.reduceBEq, Nat.reduceLT, Nat.reduceLeDiff, Int.reduceToNat, Int.reduceLE, Int.reduceLT, Int.reduceEq, Int.reduceNeg, ← List.map_drop, ← List.map_take, UInt8.reduceToNat, true_implies, implies_true, List.append_eq, y_prelaw2_SpliceWhere]) (by simp -implicitDefEqProofs only [goW, goR, ↓upd_at, if_true, if_false, reduceCtorEq, ↓reduceIte, Nat.reduceEqDiff, Nat.reduceAdd, Nat.reduceSub, Nat.reduceMul, Nat.reduceBEq, Nat.reduceLT, Nat.reduceLeDiff, Int.reduceToNat, Int.reduceLE, Int.reduceLT, Int.reduceEq, Int.reduceNeg, ← List.map_drop, ← List.map_take, UInt8.reduceToNat, true_implies, implies_true, List.append_eq, y_prelaw2_SpliceWhere]) (by simp -implicitDefEqProofs only [goW, goR, ↓upd_at, if_true, if_false, reduceCtorEq, ↓reduceIte, Nat.reduceEqDiff, Nat.reduceAdd, Nat.reduceSub, Nat.reduceMul, Nat.reduceBEq, Nat.reduceLT, Nat.reduceLeDiff, Int.reduceToNat, Int.reduceLE, Int.reduceLT, Int.reduceEq, Int.reduceNeg, ← List.map_drop, ← List.map_take, UInt8.reduceToNat, true_implies, implies_true, List.append_eq, y_prelaw2_SpliceWhere])
                · try simp -implicitDefEqProofs only [goR, ↓upd_at, if_true, if_false, reduceCtorEq, ↓reduceIte, Nat.reduceEqDiff, Nat.reduceAdd, Nat.reduceSub, Nat.reduceMul, Nat.reduceBEq, Nat.reduceLT, Nat.reduceLeDiff, Int.reduceToNat, Int.reduceLE, Int.reduceLT, Int.reduceEq, Int.reduceNeg, ← List.map_drop, ← List.map_take, UInt8.reduceToNat, true_implies, implies_true, List.append_eq, y_prelaw2_SpliceWhere] at hp6
                  have hq6 := hp6
                  try simp only [goT] at hq6
                  obtain ⟨hg1, H⟩ := gsplit H
                  obtain ⟨hg2, H⟩ := gsplit H
                  rcases bsplit H with ⟨hp7, H⟩ | ⟨hp7, H⟩
                  · try simp -implicitDefEqProofs only [goR, ↓upd_at, if_true, if_false, reduceCtorEq, ↓reduceIte, Nat.reduceEqDiff, Nat.reduceAdd, Nat.reduceSub, Nat.reduceMul, Nat.reduceBEq, Nat.reduceLT, Nat.reduceLeDiff, Int.reduceToNat, Int.reduceLE, Int.reduceLT, Int.reduceEq, Int.reduceNeg, ← List.map_drop, ← List.map_take, UInt8.reduceToNat, true_implies, implies_true, List.append_eq, y_prelaw2_SpliceWhere] at hp7
                    have hq7 := hp7
                    try simp only [goT] at hq7
                    refine w_region rfl (fun K hK => ?_)
                    simp -implicitDefEqProofs only [goR, ↓upd_at, if_true, if_false, reduceCtorEq, ↓reduceIte, Nat.reduceEqDiff, Nat.reduceAdd, Nat.reduceSub, Nat.reduceMul, Nat.reduceBEq, Nat.reduceLT, Nat.reduceLeDiff, Int.reduceToNat, Int.reduceLE, Int.reduceLT, Int.reduceEq, Int.reduceNeg, ← List.map_drop, ← List.map_take, UInt8.reduceToNat, true_implies, implies_true, List.append_eq, y_prelaw2_SpliceWhere, hp5, hp6, hp7]
                    (repeat' (first | ((with_reducible refine hK _ _ ?_); clear hK K) | (with_reducible apply And.intro) | (exact trivial) | (clear hK K; assumption) | (clear hK K; omega)))
                    refine cut_at H ?_
                    exact wk_ren ⟨[1], []⟩ rfl rfl rfl rfl rfl (by simp -implicitDefEqProofs only [goW, goR, ↓upd_at, if_true, if_false, reduceCtorEq, ↓reduceIte, Nat.reduceEqDiff, Nat.reduceAdd, Nat.reduceSub, Nat.reduceMul, Nat.reduceBEq, Nat.reduceLT, Nat.reduceLeDiff, Int.reduceToNat, Int.reduceLE, Int.reduceLT, Int.reduceEq, Int.reduceNeg, ← List.map_drop, ← List.map_take, UInt8.reduceToNat, true_implies, implies_true, List.append_eq, y_prelaw2_SpliceWhere]) (by simp -implicitDefEqProofs only [goW, goR, ↓upd_at, if_true, if_false, reduceCtorEq, ↓reduceIte, Nat.reduceEqDiff, Nat.reduceAdd, Nat.reduceSub, Nat.reduceMul, Nat.reduceBEq, Nat.reduceLT, Nat.reduceLeDiff, Int.reduceToNat, Int.reduceLE, Int.reduceLT, Int.reduceEq, Int.reduceNeg, ← List.map_drop, ← List.map_take, UInt8.reduceToNat, true_implies, implies_true, List.append_eq, y_prelaw2_SpliceWhere]) (by simp -implicitDefEqProofs only [goW, goR, ↓upd_at, if_true, if_false, reduceCtorEq, ↓reduceIte, Nat.reduceEqDiff, Nat.reduceAdd, Nat.reduceSub, Nat.reduceMul, Nat.reduceBEq, Nat.reduceLT, Nat.reduceLeDiff, Int.reduceToNat, Int.reduceLE, Int.reduceLT, Int.reduceEq, Int.reduceNeg, ← List.map_drop, ← List.map_take, UInt8.reduceToNat, true_implies, implies_true, List.append_eq, y_prelaw2_SpliceWhere])
                  · try simp -implicitDefEqProofs only [goR, ↓upd_at, if_true, if_false, reduceCtorEq, ↓reduceIte, Nat.reduceEqDiff, Nat.reduceAdd, Nat.reduceSub, Nat.reduceMul, Nat.reduceBEq, Nat.reduceLT, Nat.reduceLeDiff, Int.reduceToNat, Int.reduceLE, Int.reduceLT, Int.reduceEq, Int.reduceNeg, ← List.map_drop, ← List.map_take, UInt8.reduceToNat, true_implies, implies_true, List.append_eq, y_prelaw2_SpliceWhere] at hp7
                    have hq7 := hp7
                    try simp only [goT] at hq7
                    obtain ⟨hg3, H⟩ := gsplit H
                    have g1 := map_getD dI r2.At ((IntKind.i64.wrap (x3 + 1)).toNat) default default (by omega)
                    rcases bsplit H with ⟨hp8, H⟩ | ⟨hp8, H⟩
                    · try simp -implicitDefEqProofs only [goR, ↓upd_at, if_true, if_false, reduceCtorEq, ↓reduceIte, Nat.reduceEqDiff, Nat.reduceAdd, Nat.reduceSub, Nat.reduceMul, Nat.reduceBEq, Nat.reduceLT, Nat.reduceLeDiff, Int.reduceToNat, Int.reduceLE, Int.reduceLT, Int.reduceEq, Int.reduceNeg, ← List.map_drop, ← List.map_take, UInt8.reduceToNat, true_implies, implies_true, List.append_eq, y_prelaw2_SpliceWhere] at hp8
                      have hq8 := hp8
                      try simp only [goT] at hq8
                      refine w_region rfl (fun K hK => ?_)
                      simp -implicitDefEqProofs only [goR, ↓upd_at, if_true, if_false, reduceCtorEq, ↓reduceIte, Nat.reduceEqDiff, Nat.reduceAdd, Nat.reduceSub, Nat.reduceMul, Nat.reduceBEq, Nat.reduceLT, Nat.reduceLeDiff, Int.reduceToNat, Int.reduceLE, Int.reduceLT, Int.reduceEq, Int.reduceNeg, ← List.map_drop, ← List.map_take, UInt8.reduceToNat, true_implies, implies_true, List.append_eq, y_prelaw2_SpliceWhere, hp5, hp6, hp7, g1, hp8]
                      (repeat' (first | ((with_reducible refine hK _ _ ?_); clear hK K) | (with_reducible apply And.intro) | (exact trivial) | (clear hK K; assumption) | (clear hK K; omega)))
                      refine cut_at H ?_
                      exact wk_ren ⟨[1], []⟩ rfl rfl rfl rfl rfl (by simp -implicitDefEqProofs only [goW, goR, ↓upd_at, if_true, if_false, reduceCtorEq, ↓reduceIte, Nat.reduceEqDiff, Nat.reduceAdd, Nat.reduceSub, Nat.reduceMul, Nat.reduceBEq, Nat.reduceLT, Nat.reduceLeDiff, Int.reduceToNat, Int.reduceLE, Int.reduceLT, Int.reduceEq, Int.reduceNeg, ← List.map_drop, ← List.map_take, UInt8.reduceToNat, true_implies, implies_true, List.append_eq, y_prelaw2_SpliceWhere]) (by simp -implicitDefEqProofs only [goW, goR, ↓upd_at, if_true, if_false, reduceCtorEq, ↓reduceIte, Nat.reduceEqDiff, Nat.reduceAdd, Nat.reduceSub, Nat.reduceMul, Nat.reduceBEq, Nat.reduceLT, Nat.reduceLeDiff, Int.reduceToNat, Int.reduceLE, Int.reduceLT, Int.reduceEq, Int.reduceNeg, ← List.map_drop, ← List.map_take, UInt8.reduceToNat, true_implies, implies_true, List.append_eq, y_prelaw2_SpliceWhere]) (by simp -implicitDefEqProofs only [goW, goR, ↓upd_at, if_true, if_false, reduceCtorEq, ↓reduceIte, Nat.reduceEqDiff, Nat.reduceAdd, Nat.reduceSub, Nat.reduceMul, Nat.reduceBEq, Nat.reduceLT, Nat.reduceLeDiff, Int.reduceToNat, Int.reduceLE, Int.reduceLT, Int.reduceEq, Int.reduceNeg, ← List.map_drop, ← List.map_take, UInt8.reduceToNat, true_implies, implies_true, List.append_eq, y_prelaw2_SpliceWhere])
                    · try simp -implicitDefEqProofs only [goR, ↓upd_at, if_true, if_false, reduceCtorEq, ↓reduceIte, Nat.reduceEqDiff, Nat.reduceAdd, Nat.reduceSub, Nat.reduceMul, Nat.reduceBEq, Nat.reduceLT, Nat.reduceLeDiff, Int.reduceToNat, Int.reduceLE, Int.reduceLT, Int.reduceEq, Int.reduceNeg, ← List.map_drop, ← List.map_take, UInt8.reduceToNat, true_implies, implies_true, List.append_eq, y_prelaw2_SpliceWhere] at hp8
                      have hq8 := hp8
                      try simp only [goT] at hq8
                      obtain ⟨r4, hr4, H⟩ := osplit H
                      have hc4 := splice_Back_c r2 r3 r4 hr4
                      simp -implicitDefEqProofs only [goR, ↓upd_at, if_true, if_false, reduceCtorEq, ↓reduceIte, Nat.reduceEqDiff, Nat.reduceAdd, Nat.reduceSub, Nat.reduceMul, Nat.reduceBEq, Nat.reduceLT, Nat.reduceLeDiff, Int.reduceToNat, Int.reduceLE, Int.reduceLT, Int.reduceEq, Int.reduceNeg, ← List.map_drop, ← List.map_take, UInt8.reduceToNat, true_implies, implies_true, List.append_eq, y_prelaw2_SpliceWhere] at hc4
                      refine w_region rfl (fun K hK => ?_)
                      simp -implicitDefEqProofs only [goR, ↓upd_at, if_true, if_false, reduceCtorEq, ↓reduceIte, Nat.reduceEqDiff, Nat.reduceAdd, Nat.reduceSub, Nat.reduceMul, Nat.reduceBEq, Nat.reduceLT, Nat.reduceLeDiff, Int.reduceToNat, Int.reduceLE, Int.reduceLT, Int.reduceEq, Int.reduceNeg, ← List.map_drop, ← List.map_take, UInt8.reduceToNat, true_implies, implies_true, List.append_eq, y_prelaw2_SpliceWhere, hp5, hp6, hp7, g1, hp8, hc4.1, hc4.2]
                      (repeat' (first | ((with_reducible refine hK _ _ ?_); clear hK K) | (with_reducible apply And.intro) | (exact trivial) | (clear hK K; assumption) | (clear hK K; omega)))
                      refine cut_at H ?_
                      exact wk_ren ⟨[1], []⟩ rfl rfl rfl rfl rfl (by simp -implicitDefEqProofs only [goW, goR, ↓upd_at, if_true, if_false, reduceCtorEq, ↓reduceIte, Nat.reduceEqDiff, Nat.reduceAdd, Nat.reduceSub, Nat.reduceMul, Nat.reduceBEq, Nat.reduceLT, Nat.reduceLeDiff, Int.reduceToNat, Int.reduceLE, Int.reduceLT, Int.reduceEq, Int.reduceNeg, ← List.map_drop, ← List.map_take, UInt8.reduceToNat, true_implies, implies_true, List.append_eq, y_prelaw2_SpliceWhere]) (by simp -implicitDefEqProofs only [goW, goR, ↓upd_at, if_true, if_false, reduceCtorEq, ↓reduceIte, Nat.reduceEqDiff, Nat.reduceAdd, Nat.reduceSub, Nat.reduceMul, Nat.reduceBEq, Nat.reduceLT, Nat.reduceLeDiff, Int.reduceToNat, Int.reduceLE, Int.reduceLT, Int.reduceEq, Int.reduceNeg, ← List.map_drop, ← List.map_take, UInt8.reduceToNat, true_implies, implies_true, List.append_eq, y_prelaw2_SpliceWhere]) (by simp -implicitDefEqProofs only [goW, goR, ↓upd_at, if_true, if_false, reduceCtorEq, ↓reduceIte, Nat.reduceEqDiff, Nat.reduceAdd, Nat.reduceSub, Nat.reduceMul, Nat.reduceBEq, Nat.reduceLT, Nat.reduceLeDiff, Int.reduceToNat, Int.reduceLE, Int.reduceLT, Int.reduceEq, Int.reduceNeg, ← List.map_drop, ← List.map_take, UInt8.reduceToNat, true_implies, implies_true, List.append_eq, y_prelaw2_SpliceWhere])
            · rintro x4 H
              rw [prelaw2_SpliceWhere_j3] at H
              rcases bsplit H with ⟨hp4, H⟩ | ⟨hp4, H⟩
              · try simp -implicitDefEqProofs only [goR, ↓upd_at, if_true, if_false, reduceCtorEq, ↓reduceIte, Nat.reduceEqDiff, Nat.reduceAdd, Nat.reduceSub, Nat.reduceMul, Nat.reduceBEq, Nat.reduceLT, Nat.reduceLeDiff, Int.reduceToNat, Int.reduceLE, Int.reduceLT, Int.reduceEq, Int.reduceNeg, ← List.map_drop, ← List.map_take, UInt8.reduceToNat, true_implies, implies_true, List.append_eq, y_prelaw2_SpliceWhere] at hp4
                have hq4 := hp4
                try simp only [goT] at hq4
                refine w_condT (by simp -implicitDefEqProofs only [goR, ↓upd_at, if_true, if_false, reduceCtorEq, ↓reduceIte, Nat.reduceEqDiff, Nat.reduceAdd, Nat.reduceSub, Nat.reduceMul, Nat.reduceBEq, Nat.reduceLT, Nat.reduceLeDiff, Int.reduceToNat, Int.reduceLE, Int.reduceLT, Int.reduceEq, Int.reduceNeg, ← List.map_drop, ← List.map_take, UInt8.reduceToNat, true_implies, implies_true, List.append_eq, y_prelaw2_SpliceWhere, hp4]) ?_
                refine w_seq ?_
                refine w_region rfl (fun K hK => ?_)
                simp -implicitDefEqProofs only [goR, ↓upd_at, if_true, if_false, reduceCtorEq, ↓reduceIte, Nat.reduceEqDiff, Nat.reduceAdd, Nat.reduceSub, Nat.reduceMul, Nat.reduceBEq, Nat.reduceLT, Nat.reduceLeDiff, Int.reduceToNat, Int.reduceLE, Int.reduceLT, Int.reduceEq, Int.reduceNeg, ← List.map_drop, ← List.map_take, UInt8.reduceToNat, true_implies, implies_true, List.append_eq, y_prelaw2_SpliceWhere]
                (repeat' (first | ((with_reducible refine hK _ _ ?_); clear hK K) | (with_reducible apply And.intro) | (exact trivial) | (clear hK K; assumption) | (clear hK K; omega)))
                refine then_normal ?_
                refine w_ret ?_
                refine block_ret ?_
                refine then_ret ?_
                replace H := inrO_fin H hF1
                refine round_ret ?_
                refine block_ret ?_
                refine then_ret ?_
                obtain rfl := Option.some.inj H
                simp -implicitDefEqProofs only [goQ, Try.results4, goR, ↓upd_at, if_true, if_false, reduceCtorEq, ↓reduceIte, Nat.reduceEqDiff, Nat.reduceAdd, Nat.reduceSub, Nat.reduceMul, Nat.reduceBEq, Nat.reduceLT, Nat.reduceLeDiff, Int.reduceToNat, Int.reduceLE, Int.reduceLT, Int.reduceEq, Int.reduceNeg, ← List.map_drop, ← List.map_take, UInt8.reduceToNat, true_implies, implies_true, List.append_eq, y_prelaw2_SpliceWhere]
              · try simp -implicitDefEqProofs only [goR, ↓upd_at, if_true, if_false, reduceCtorEq, ↓reduceIte, Nat.reduceEqDiff, Nat.reduceAdd, Nat.reduceSub, Nat.reduceMul, Nat.reduceBEq, Nat.reduceLT, Nat.reduceLeDiff, Int.reduceToNat, Int.reduceLE, Int.reduceLT, Int.reduceEq, Int.reduceNeg, ← List.map_drop, ← List.map_take, UInt8.reduceToNat, true_implies, implies_true, List.append_eq, y_prelaw2_SpliceWhere] at hp4
                have hq4 := hp4
                try simp only [goT] at hq4
                refine w_condF (by simp -implicitDefEqProofs only [goR, ↓upd_at, if_true, if_false, reduceCtorEq, ↓reduceIte, Nat.reduceEqDiff, Nat.reduceAdd, Nat.reduceSub, Nat.reduceMul, Nat.reduceBEq, Nat.reduceLT, Nat.reduceLeDiff, Int.reduceToNat, Int.reduceLE, Int.reduceLT, Int.reduceEq, Int.reduceNeg, ← List.map_drop, ← List.map_take, UInt8.reduceToNat, true_implies, implies_true, List.append_eq, y_prelaw2_SpliceWhere, hp4]) ?_
                refine w_skip ?_
                refine block_normal ?_
                refine then_normal ?_
                refine w_region rfl (fun K hK => ?_)
                simp -implicitDefEqProofs only [goR, ↓upd_at, if_true, if_false, reduceCtorEq, ↓reduceIte, Nat.reduceEqDiff, Nat.reduceAdd, Nat.reduceSub, Nat.reduceMul, Nat.reduceBEq, Nat.reduceLT, Nat.reduceLeDiff, Int.reduceToNat, Int.reduceLE, Int.reduceLT, Int.reduceEq, Int.reduceNeg, ← List.map_drop, ← List.map_take, UInt8.reduceToNat, true_implies, implies_true, List.append_eq, y_prelaw2_SpliceWhere]
                (repeat' (first | ((with_reducible refine hK _ _ ?_); clear hK K) | (with_reducible apply And.intro) | (exact trivial) | (clear hK K; assumption) | (clear hK K; omega)))
                refine round_at (inl_fin H hF1) ?_
                exact wk_ren ⟨[1], []⟩ rfl rfl rfl rfl rfl (by simp -implicitDefEqProofs only [goW, goR, ↓upd_at, if_true, if_false, reduceCtorEq, ↓reduceIte, Nat.reduceEqDiff, Nat.reduceAdd, Nat.reduceSub, Nat.reduceMul, Nat.reduceBEq, Nat.reduceLT, Nat.reduceLeDiff, Int.reduceToNat, Int.reduceLE, Int.reduceLT, Int.reduceEq, Int.reduceNeg, ← List.map_drop, ← List.map_take, UInt8.reduceToNat, true_implies, implies_true, List.append_eq, y_prelaw2_SpliceWhere]) (by simp -implicitDefEqProofs only [goW, goR, ↓upd_at, if_true, if_false, reduceCtorEq, ↓reduceIte, Nat.reduceEqDiff, Nat.reduceAdd, Nat.reduceSub, Nat.reduceMul, Nat.reduceBEq, Nat.reduceLT, Nat.reduceLeDiff, Int.reduceToNat, Int.reduceLE, Int.reduceLT, Int.reduceEq, Int.reduceNeg, ← List.map_drop, ← List.map_take, UInt8.reduceToNat, true_implies, implies_true, List.append_eq, y_prelaw2_SpliceWhere]) (by simp -implicitDefEqProofs only [goW, goR, ↓upd_at, if_true, if_false, reduceCtorEq, ↓reduceIte, Nat.reduceEqDiff, Nat.reduceAdd, Nat.reduceSub, Nat.reduceMul, Nat.reduceBEq, Nat.reduceLT, Nat.reduceLeDiff, Int.reduceToNat, Int.reduceLE, Int.reduceLT, Int.reduceEq, Int.reduceNeg, ← List.map_drop, ← List.map_take, UInt8.reduceToNat, true_implies, implies_true, List.append_eq, y_prelaw2_SpliceWhere])
          · try simp -implicitDefEqProofs only [goR, ↓upd_at, if_true, if_false, reduceCtorEq, ↓reduceIte, Nat.reduceEqDiff, Nat.reduceAdd, Nat.reduceSub, Nat.reduceMul, Nat.reduceBEq, Nat.reduceLT, Nat.reduceLeDiff, Int.reduceToNat, Int.reduceLE, Int.reduceLT, Int.reduceEq, Int.reduceNeg, ← List.map_drop, ← List.map_take, UInt8.reduceToNat, true_implies, implies_true, List.append_eq, y_prelaw2_SpliceWhere] at hp3
            have hq3 := hp3
            try simp only [goT] at hq3
            refine w_condF (by simp -implicitDefEqProofs only [goR, ↓upd_at, if_true, if_false, reduceCtorEq, ↓reduceIte, Nat.reduceEqDiff, Nat.reduceAdd, Nat.reduceSub, Nat.reduceMul, Nat.reduceBEq, Nat.reduceLT, Nat.reduceLeDiff, Int.reduceToNat, Int.reduceLE, Int.reduceLT, Int.reduceEq, Int.reduceNeg, ← List.map_drop, ← List.map_take, UInt8.reduceToNat, true_implies, implies_true, List.append_eq, y_prelaw2_SpliceWhere, hp3]) ?_
            refine w_exit ?_
            refine then_exit ?_
            replace H := inrO_fin H hF1
            refine round_exit ?_
            refine block_exit ?_
            refine then_normal ?_
            refine w_seq ?_
            refine w_region rfl (fun K hK => ?_)
            simp -implicitDefEqProofs only [goR, ↓upd_at, if_true, if_false, reduceCtorEq, ↓reduceIte, Nat.reduceEqDiff, Nat.reduceAdd, Nat.reduceSub, Nat.reduceMul, Nat.reduceBEq, Nat.reduceLT, Nat.reduceLeDiff, Int.reduceToNat, Int.reduceLE, Int.reduceLT, Int.reduceEq, Int.reduceNeg, ← List.map_drop, ← List.map_take, UInt8.reduceToNat, true_implies, implies_true, List.append_eq, y_prelaw2_SpliceWhere]
            (repeat' (first | ((with_reducible refine hK _ _ ?_); clear hK K) | (with_reducible apply And.intro) | (exact trivial) | (clear hK K; assumption) | (clear hK K; omega)))
            refine then_normal ?_
            refine w_ret ?_
            obtain rfl := Option.some.inj H
            simp -implicitDefEqProofs only [goQ, Try.results4, goR, ↓upd_at, if_true, if_false, reduceCtorEq, ↓reduceIte, Nat.reduceEqDiff, Nat.reduceAdd, Nat.reduceSub, Nat.reduceMul, Nat.reduceBEq, Nat.reduceLT, Nat.reduceLeDiff, Int.reduceToNat, Int.reduceLE, Int.reduceLT, Int.reduceEq, Int.reduceNeg, ← List.map_drop, ← List.map_take, UInt8.reduceToNat, true_implies, implies_true, List.append_eq, y_prelaw2_SpliceWhere]
theorem prelaw2_SpliceWhere_c (a0 : List UInt8) (r : Bool) (H : prelaw2_SpliceWhere a0 = some r) : pf_prelaw2_SpliceWhere.pre [dS a0] = True ∧ pf_prelaw2_SpliceWhere.val [dS a0] = dB r :=
  ⟨PF.of_pre (enc := c_prelaw2_SpliceWhere) (f := fun a => prelaw2_SpliceWhere a) (e := e_prelaw2_SpliceWhere) (a := a0) H, PF.of_val (enc := c_prelaw2_SpliceWhere) (f := fun a => prelaw2_SpliceWhere a) (e := e_prelaw2_SpliceWhere) (a := a0) c_prelaw2_SpliceWhere_inj H⟩
end Go.Proofs.Ytgkacglpjmndbaa
