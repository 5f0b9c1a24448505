/- Functions of data for functions of the program: cmp_Less_int, slices_isNaN_int, cmp_isNaN_int, slices_BinarySearch_s_int_int. Written by dec.py. -/
import Derived.Test.YtgkacglpjmndbaaQt
import Derived.Test.YtgkacglpjmndbaaQs
namespace Go.Proofs.Ytgkacglpjmndbaa
open Go.RowKit
set_option linter.unusedVariables false
set_option linter.unusedSimpArgs false

noncomputable def cmp_isNaN_int (a0 : Int) : Option Bool :=
  some (!eqI a0 a0)
def e_cmp_isNaN_int : Bool → D := dB
def c_cmp_isNaN_int : Int → List D := fun a => [dI a]
theorem c_cmp_isNaN_int_inj : Inj c_cmp_isNaN_int := by intro a b h; simp only [c_cmp_isNaN_int, List.map_cons, List.map_nil, List.cons.injEq, and_true] at h; exact (dI_inj _ _) h
noncomputable def pf_cmp_isNaN_int : PF := PF.of c_cmp_isNaN_int (fun a => cmp_isNaN_int a) e_cmp_isNaN_int
noncomputable def t_cmp_isNaN_int : Tab := tabOf Try.prog [] []
theorem t_cmp_isNaN_int_ok : TabOk t_cmp_isNaN_int := tabOf_ok (by exact trivial) trivial
theorem y_cmp_isNaN_int : ((type_of% @t_cmp_isNaN_int.eq_1) ∧ ((type_of% @c_cmp_isNaN_int.eq_1) ∧ (type_of% @e_cmp_isNaN_int.eq_1))) := ⟨@t_cmp_isNaN_int.eq_1, ⟨@c_cmp_isNaN_int.eq_1, @e_cmp_isNaN_int.eq_1⟩⟩
set_option maxRecDepth 100000 in
set_option maxHeartbeats 4000000 in
theorem cmp_isNaN_int_ok : PureOk Try.prog 108 pf_cmp_isNaN_int := by
  refine pure_of (t := t_cmp_isNaN_int) (pure := fun n => [].contains n) c_cmp_isNaN_int_inj t_cmp_isNaN_int_ok mixed (fun n hn => tabOf_pure rfl n hn) Try.func108 rfl (by kernel_rfl) (fun a => by simp [c_cmp_isNaN_int, Try.ntmps108]) ?_
  rintro a0 out H
  simp only [cmp_isNaN_int] at H
  show aC _ _ (sig0 (List.map (fun d => AV.c (C.d d)) (c_cmp_isNaN_int a0))) _ _
  refine w_seq ?_
  refine w_region rfl (fun K hK => ?_)
  simp -implicitDefEqProofs only [goR, ↓upd_at, if_true, if_false, reduceCtorEq, ↓reduceIte, Nat.reduceEqDiff, Nat.reduceAdd, Nat.reduceSub, Nat.reduceMul, Nat.reduceBEq, Nat.reduceLT, Nat.reduceLeDiff, Int.reduceToNat, Int.reduceLE, Int.reduceLT, Int.reduceEq, Int.reduceNeg, ← List.map_drop, ← List.map_take, UInt8.reduceToNat, true_implies, implies_true, List.append_eq, y_cmp_isNaN_int]
  (repeat' (first | ((with_reducible refine hK _ _ ?_); clear hK K) | (with_reducible apply And.intro) | (exact trivial) | (clear hK K; assumption) | (clear hK K; omega)))
  refine then_normal ?_
  refine w_seq ?_
  refine w_region rfl (fun K hK => ?_)
  simp -implicitDefEqProofs only [goR, ↓upd_at, if_true, if_false, reduceCtorEq, ↓reduceIte, Nat.reduceEqDiff, Nat.reduceAdd, Nat.reduceSub, Nat.reduceMul, Nat.reduceBEq, Nat.reduceLT, Nat.reduceLeDiff, Int.reduceToNat, Int.reduceLE, Int.reduceLT, Int.reduceEq, Int.reduceNeg, ← List.map_drop, ← List.map_take, UInt8.reduceToNat, true_implies, implies_true, List.append_eq, y_cmp_isNaN_int]
  (repeat' (first | ((with_reducible refine hK _ _ ?_); clear hK K) | (with_reducible apply And.intro) | (exact trivial) | (clear hK K; assumption) | (clear hK K; omega)))
  refine then_normal ?_
  refine w_ret ?_
  obtain rfl := Option.some.inj H
  simp -implicitDefEqProofs only [goQ, Try.results108, goR, ↓upd_at, if_true, if_false, reduceCtorEq, ↓reduceIte, Nat.reduceEqDiff, Nat.reduceAdd, Nat.reduceSub, Nat.reduceMul, Nat.reduceBEq, Nat.reduceLT, Nat.reduceLeDiff, Int.reduceToNat, Int.reduceLE, Int.reduceLT, Int.reduceEq, Int.reduceNeg, ← List.map_drop, ← List.map_take, UInt8.reduceToNat, true_implies, implies_true, List.append_eq, y_cmp_isNaN_int]
theorem cmp_isNaN_int_c (a0 : Int) (r : Bool) (H : cmp_isNaN_int a0 = some r) : pf_cmp_isNaN_int.pre [dI a0] = True ∧ pf_cmp_isNaN_int.val [dI a0] = dB r :=
  ⟨PF.of_pre (enc := c_cmp_isNaN_int) (f := fun a => cmp_isNaN_int a) (e := e_cmp_isNaN_int) (a := a0) H, PF.of_val (enc := c_cmp_isNaN_int) (f := fun a => cmp_isNaN_int a) (e := e_cmp_isNaN_int) (a := a0) c_cmp_isNaN_int_inj H⟩
noncomputable def cmp_Less_int_j1 : Bool → Option Bool
  | x1 => some x1
noncomputable def cmp_Less_int (a0 : Int) (a1 : Int) : Option Bool :=
  (cmp_isNaN_int a0).bind fun r1 => if r1 = true then (cmp_isNaN_int a1).bind fun r2 => if (!r2) = true then cmp_Less_int_j1 true else cmp_Less_int_j1 (ltI a0 a1) else cmp_Less_int_j1 (ltI a0 a1)
def e_cmp_Less_int : Bool → D := dB
def c_cmp_Less_int : Int × Int → List D := fun a => [dI a.1, dI a.2]
theorem c_cmp_Less_int_inj : Inj c_cmp_Less_int := by rintro ⟨a0, a1⟩ ⟨b0, b1⟩ h; simp only [c_cmp_Less_int, List.map_cons, List.map_nil, List.cons.injEq, and_true] at h; obtain ⟨h0, h1⟩ := h; obtain rfl := (dI_inj _ _) h0; obtain rfl := (dI_inj _ _) h1; rfl
noncomputable def pf_cmp_Less_int : PF := PF.of c_cmp_Less_int (fun a => cmp_Less_int a.1 a.2) e_cmp_Less_int
noncomputable def t_cmp_Less_int : Tab := tabOf Try.prog [(108, pf_cmp_isNaN_int)] []
theorem t_cmp_Less_int_ok : TabOk t_cmp_Less_int := tabOf_ok (by exact ⟨⟨call_108, cmp_isNaN_int_ok⟩, trivial⟩) trivial
theorem y_cmp_Less_int : ((type_of% @t_cmp_Less_int.eq_1) ∧ ((type_of% @c_cmp_Less_int.eq_1) ∧ (type_of% @e_cmp_Less_int.eq_1))) := ⟨@t_cmp_Less_int.eq_1, ⟨@c_cmp_Less_int.eq_1, @e_cmp_Less_int.eq_1⟩⟩
set_option maxRecDepth 100000 in
set_option maxHeartbeats 4000000 in
theorem cmp_Less_int_ok : PureOk Try.prog 77 pf_cmp_Less_int := by
  refine pure_of (t := t_cmp_Less_int) (pure := fun n => [108].contains n) c_cmp_Less_int_inj t_cmp_Less_int_ok mixed (fun n hn => tabOf_pure rfl n hn) Try.func77 rfl (by kernel_rfl) (fun a => by simp [c_cmp_Less_int, Try.ntmps77]) ?_
  rintro ⟨a0, a1⟩ out H
  simp only [cmp_Less_int] at H
  show aC _ _ (sig0 (List.map (fun d => AV.c (C.d d)) (c_cmp_Less_int (a0, a1)))) _ _
  refine w_seq ?_
  refine w_region rfl (fun K hK => ?_)
  simp -implicitDefEqProofs only [goR, ↓upd_at, if_true, if_false, reduceCtorEq, ↓reduceIte, Nat.reduceEqDiff, Nat.reduceAdd, Nat.reduceSub, Nat.reduceMul, Nat.reduceBEq, Nat.reduceLT, Nat.reduceLeDiff, Int.reduceToNat, Int.reduceLE, Int.reduceLT, Int.reduceEq, Int.reduceNeg, ← List.map_drop, ← List.map_take, UInt8.reduceToNat, true_implies, implies_true, List.append_eq, y_cmp_Less_int]
  (repeat' (first | ((with_reducible refine hK _ _ ?_); clear hK K) | (with_reducible apply And.intro) | (exact trivial) | (clear hK K; assumption) | (clear hK K; omega)))
  refine then_normal ?_
  refine w_cut cmp_Less_int_j1 (fun s => [(4, .c (.d (.v (.bool s))))]) (fun s => []) [] out ?_ ?_
  · obtain ⟨r1, hr1, H⟩ := osplit H
    have hc1 := cmp_isNaN_int_c a0 r1 hr1
    simp -implicitDefEqProofs only [goR, ↓upd_at, if_true, if_false, reduceCtorEq, ↓reduceIte, Nat.reduceEqDiff, Nat.reduceAdd, Nat.reduceSub, Nat.reduceMul, Nat.reduceBEq, Nat.reduceLT, Nat.reduceLeDiff, Int.reduceToNat, Int.reduceLE, Int.reduceLT, Int.reduceEq, Int.reduceNeg, ← List.map_drop, ← List.map_take, UInt8.reduceToNat, true_implies, implies_true, List.append_eq, y_cmp_Less_int] at hc1
    rcases bsplit H with ⟨hp1, H⟩ | ⟨hp1, H⟩
    · try simp -implicitDefEqProofs only [goR, ↓upd_at, if_true, if_false, reduceCtorEq, ↓reduceIte, Nat.reduceEqDiff, Nat.reduceAdd, Nat.reduceSub, Nat.reduceMul, Nat.reduceBEq, Nat.reduceLT, Nat.reduceLeDiff, Int.reduceToNat, Int.reduceLE, Int.reduceLT, Int.reduceEq, Int.reduceNeg, ← List.map_drop, ← List.map_take, UInt8.reduceToNat, true_implies, implies_true, List.append_eq, y_cmp_Less_int] at hp1
      have hq1 := hp1
      try simp only [goT] at hq1
      obtain ⟨r2, hr2, H⟩ := osplit H
      have hc2 := cmp_isNaN_int_c a1 r2 hr2
      simp -implicitDefEqProofs only [goR, ↓upd_at, if_true, if_false, reduceCtorEq, ↓reduceIte, Nat.reduceEqDiff, Nat.reduceAdd, Nat.reduceSub, Nat.reduceMul, Nat.reduceBEq, Nat.reduceLT, Nat.reduceLeDiff, Int.reduceToNat, Int.reduceLE, Int.reduceLT, Int.reduceEq, Int.reduceNeg, ← List.map_drop, ← List.map_take, UInt8.reduceToNat, true_implies, implies_true, List.append_eq, y_cmp_Less_int] at hc2
      rcases bsplit H with ⟨hp2, H⟩ | ⟨hp2, H⟩
      · try simp -implicitDefEqProofs only [goR, ↓upd_at, if_true, if_false, reduceCtorEq, ↓reduceIte, Nat.reduceEqDiff, Nat.reduceAdd, Nat.reduceSub, Nat.reduceMul, Nat.reduceBEq, Nat.reduceLT, Nat.reduceLeDiff, Int.reduceToNat, Int.reduceLE, Int.reduceLT, Int.reduceEq, Int.reduceNeg, ← List.map_drop, ← List.map_take, UInt8.reduceToNat, true_implies, implies_true, List.append_eq, y_cmp_Less_int] at hp2
        have hq2 := hp2
        try simp only [goT] at hq2
        refine w_region rfl (fun K hK => ?_)
        simp -implicitDefEqProofs only [goR, ↓upd_at, if_true, if_false, reduceCtorEq, ↓reduceIte, Nat.reduceEqDiff, Nat.reduceAdd, Nat.reduceSub, Nat.reduceMul, Nat.reduceBEq, Nat.reduceLT, Nat.reduceLeDiff, Int.reduceToNat, Int.reduceLE, Int.reduceLT, Int.reduceEq, Int.reduceNeg, ← List.map_drop, ← List.map_take, UInt8.reduceToNat, true_implies, implies_true, List.append_eq, y_cmp_Less_int, hc1.1, hc1.2, hp1, hc2.1, hc2.2, hp2]
        (repeat' (first | ((with_reducible refine hK _ _ ?_); clear hK K) | (with_reducible apply And.intro) | (exact trivial) | (clear hK K; assumption) | (clear hK K; omega)))
        refine cut_at H ?_
        exact wk_ren ⟨[], []⟩ rfl rfl rfl rfl rfl (by simp -implicitDefEqProofs only [goW, goR, ↓upd_at, if_true, if_false, reduceCtorEq, ↓reduceIte, Nat.reduceEqDiff, Nat.reduceAdd, Nat.reduceSub, Nat.reduceMul, Nat.reduceBEq, Nat.reduceLT, Nat.reduceLeDiff, Int.reduceToNat, Int.reduceLE, Int.reduceLT, Int.reduceEq, Int.reduceNeg, ← List.map_drop, ← List.map_take, UInt8.reduceToNat, true_implies, implies_true, List.append_eq, y_cmp_Less_int]) (by simp -implicitDefEqProofs only [goW, goR, ↓upd_at, if_true, if_false, reduceCtorEq, ↓reduceIte, Nat.reduceEqDiff, Nat.reduceAdd, Nat.reduceSub, Nat.reduceMul, Nat.reduceBEq, Nat.reduceLT, Nat.reduceLeDiff, Int.reduceToNat, Int.reduceLE, Int.reduceLT, Int.reduceEq, Int.reduceNeg, ← List.map_drop, ← List.map_take, UInt8.reduceToNat, true_implies, implies_true, List.append_eq, y_cmp_Less_int]) (by simp -implicitDefEqProofs only [goW, goR, ↓upd_at, if_true, if_false, reduceCtorEq, ↓reduceIte, Nat.reduceEqDiff, Nat.reduceAdd, Nat.reduceSub, Nat.reduceMul, Nat.reduceBEq, Nat.reduceLT, Nat.reduceLeDiff, Int.reduceToNat, Int.reduceLE, Int.reduceLT, Int.reduceEq, Int.reduceNeg, ← List.map_drop, ← List.map_take, UInt8.reduceToNat, true_implies, implies_true, List.append_eq, y_cmp_Less_int])
      · try simp -implicitDefEqProofs only [goR, ↓upd_at, if_true, if_false, reduceCtorEq, ↓reduceIte, Nat.reduceEqDiff, Nat.reduceAdd, Nat.reduceSub, Nat.reduceMul, Nat.reduceBEq, Nat.reduceLT, Nat.reduceLeDiff, Int.reduceToNat, Int.reduceLE, Int.reduceLT, Int.reduceEq, Int.reduceNeg, ← List.map_drop, ← List.map_take, UInt8.reduceToNat, true_implies, implies_true, List.append_eq, y_cmp_Less_int] at hp2
        have hq2 := hp2
        try simp only [goT] at hq2
        refine w_region rfl (fun K hK => ?_)
        simp -implicitDefEqProofs only [goR, ↓upd_at, if_true, if_false, reduceCtorEq, ↓reduceIte, Nat.reduceEqDiff, Nat.reduceAdd, Nat.reduceSub, Nat.reduceMul, Nat.reduceBEq, Nat.reduceLT, Nat.reduceLeDiff, Int.reduceToNat, Int.reduceLE, Int.reduceLT, Int.reduceEq, Int.reduceNeg, ← List.map_drop, ← List.map_take, UInt8.reduceToNat, true_implies, implies_true, List.append_eq, y_cmp_Less_int, hc1.1, hc1.2, hp1, hc2.1, hc2.2, hp2]
        (repeat' (first | ((with_reducible refine hK _ _ ?_); clear hK K) | (with_reducible apply And.intro) | (exact trivial) | (clear hK K; assumption) | (clear hK K; omega)))
        refine cut_at H ?_
        exact wk_ren ⟨[], []⟩ rfl rfl rfl rfl rfl (by simp -implicitDefEqProofs only [goW, goR, ↓upd_at, if_true, if_false, reduceCtorEq, ↓reduceIte, Nat.reduceEqDiff, Nat.reduceAdd, Nat.reduceSub, Nat.reduceMul, Nat.reduceBEq, Nat.reduceLT, Nat.reduceLeDiff, Int.reduceToNat, Int.reduceLE, Int.reduceLT, Int.reduceEq, Int.reduceNeg, ← List.map_drop, ← List.map_take, UInt8.reduceToNat, true_implies, implies_true, List.append_eq, y_cmp_Less_int]) (by simp -implicitDefEqProofs only [goW, goR, ↓upd_at, if_true, if_false, reduceCtorEq, ↓reduceIte, Nat.reduceEqDiff, Nat.reduceAdd, Nat.reduceSub, Nat.reduceMul, Nat.reduceBEq, Nat.reduceLT, Nat.reduceLeDiff, Int.reduceToNat, Int.reduceLE, Int.reduceLT, Int.reduceEq, Int.reduceNeg, ← List.map_drop, ← List.map_take, UInt8.reduceToNat, true_implies, implies_true, List.append_eq, y_cmp_Less_int]) (by simp -implicitDefEqProofs only [goW, goR, ↓upd_at, if_true, if_false, reduceCtorEq, ↓reduceIte, Nat.reduceEqDiff, Nat.reduceAdd, Nat.reduceSub, Nat.reduceMul, Nat.reduceBEq, Nat.reduceLT, Nat.reduceLeDiff, Int.reduceToNat, Int.reduceLE, Int.reduceLT, Int.reduceEq, Int.reduceNeg, ← List.map_drop, ← List.map_take, UInt8.reduceToNat, true_implies, implies_true, List.append_eq, y_cmp_Less_int])
    · try simp -implicitDefEqProofs only [goR, ↓upd_at, if_true, if_false, reduceCtorEq, ↓reduceIte, Nat.reduceEqDiff, Nat.reduceAdd, Nat.reduceSub, Nat.reduceMul, Nat.reduceBEq, Nat.reduceLT, Nat.reduceLeDiff, Int.reduceToNat, Int.reduceLE, Int.reduceLT, Int.reduceEq, Int.reduceNeg, ← List.map_drop, ← List.map_take, UInt8.reduceToNat, true_implies, implies_true, List.append_eq, y_cmp_Less_int] at hp1
      have hq1 := hp1
      try simp only [goT] at hq1
      refine w_region rfl (fun K hK => ?_)
      simp -implicitDefEqProofs only [goR, ↓upd_at, if_true, if_false, reduceCtorEq, ↓reduceIte, Nat.reduceEqDiff, Nat.reduceAdd, Nat.reduceSub, Nat.reduceMul, Nat.reduceBEq, Nat.reduceLT, Nat.reduceLeDiff, Int.reduceToNat, Int.reduceLE, Int.reduceLT, Int.reduceEq, Int.reduceNeg, ← List.map_drop, ← List.map_take, UInt8.reduceToNat, true_implies, implies_true, List.append_eq, y_cmp_Less_int, hc1.1, hc1.2, hp1]
      (repeat' (first | ((with_reducible refine hK _ _ ?_); clear hK K) | (with_reducible apply And.intro) | (exact trivial) | (clear hK K; assumption) | (clear hK K; omega)))
      refine cut_at H ?_
      exact wk_ren ⟨[], []⟩ rfl rfl rfl rfl rfl (by simp -implicitDefEqProofs only [goW, goR, ↓upd_at, if_true, if_false, reduceCtorEq, ↓reduceIte, Nat.reduceEqDiff, Nat.reduceAdd, Nat.reduceSub, Nat.reduceMul, Nat.reduceBEq, Nat.reduceLT, Nat.reduceLeDiff, Int.reduceToNat, Int.reduceLE, Int.reduceLT, Int.reduceEq, Int.reduceNeg, ← List.map_drop, ← List.map_take, UInt8.reduceToNat, true_implies, implies_true, List.append_eq, y_cmp_Less_int]) (by simp -implicitDefEqProofs only [goW, goR, ↓upd_at, if_true, if_false, reduceCtorEq, ↓reduceIte, Nat.reduceEqDiff, Nat.reduceAdd, Nat.reduceSub, Nat.reduceMul, Nat.reduceBEq, Nat.reduceLT, Nat.reduceLeDiff, Int.reduceToNat, Int.reduceLE, Int.reduceLT, Int.reduceEq, Int.reduceNeg, ← List.map_drop, ← List.map_take, UInt8.reduceToNat, true_implies, implies_true, List.append_eq, y_cmp_Less_int]) (by simp -implicitDefEqProofs only [goW, goR, ↓upd_at, if_true, if_false, reduceCtorEq, ↓reduceIte, Nat.reduceEqDiff, Nat.reduceAdd, Nat.reduceSub, Nat.reduceMul, Nat.reduceBEq, Nat.reduceLT, Nat.reduceLeDiff, Int.reduceToNat, Int.reduceLE, Int.reduceLT, Int.reduceEq, Int.reduceNeg, ← List.map_drop, ← List.map_take, UInt8.reduceToNat, true_implies, implies_true, List.append_eq, y_cmp_Less_int])
  · rintro x1 H
    rw [cmp_Less_int_j1] at H
    refine w_ret ?_
    obtain rfl := Option.some.inj H
    simp -implicitDefEqProofs only [goQ, Try.results77, goR, ↓upd_at, if_true, if_false, reduceCtorEq, ↓reduceIte, Nat.reduceEqDiff, Nat.reduceAdd, Nat.reduceSub, Nat.reduceMul, Nat.reduceBEq, Nat.reduceLT, Nat.reduceLeDiff, Int.reduceToNat, Int.reduceLE, Int.reduceLT, Int.reduceEq, Int.reduceNeg, ← List.map_drop, ← List.map_take, UInt8.reduceToNat, true_implies, implies_true, List.append_eq, y_cmp_Less_int]
theorem cmp_Less_int_c (a0 : Int) (a1 : Int) (r : Bool) (H : cmp_Less_int a0 a1 = some r) : pf_cmp_Less_int.pre [dI a0, dI a1] = True ∧ pf_cmp_Less_int.val [dI a0, dI a1] = dB r :=
  ⟨PF.of_pre (enc := c_cmp_Less_int) (f := fun a => cmp_Less_int a.1 a.2) (e := e_cmp_Less_int) (a := (a0, a1)) H, PF.of_val (enc := c_cmp_Less_int) (f := fun a => cmp_Less_int a.1 a.2) (e := e_cmp_Less_int) (a := (a0, a1)) c_cmp_Less_int_inj H⟩
noncomputable def slices_isNaN_int (a0 : Int) : Option Bool :=
  some (!eqI a0 a0)
def e_slices_isNaN_int : Bool → D := dB
def c_slices_isNaN_int : Int → List D := fun a => [dI a]
theorem c_slices_isNaN_int_inj : Inj c_slices_isNaN_int := by intro a b h; simp only [c_slices_isNaN_int, List.map_cons, List.map_nil, List.cons.injEq, and_true] at h; exact (dI_inj _ _) h
noncomputable def pf_slices_isNaN_int : PF := PF.of c_slices_isNaN_int (fun a => slices_isNaN_int a) e_slices_isNaN_int
noncomputable def t_slices_isNaN_int : Tab := tabOf Try.prog [] []
theorem t_slices_isNaN_int_ok : TabOk t_slices_isNaN_int := tabOf_ok (by exact trivial) trivial
theorem y_slices_isNaN_int : ((type_of% @t_slices_isNaN_int.eq_1) ∧ ((type_of% @c_slices_isNaN_int.eq_1) ∧ (type_of% @e_slices_isNaN_int.eq_1))) := ⟨@t_slices_isNaN_int.eq_1, ⟨@c_slices_isNaN_int.eq_1, @e_slices_isNaN_int.eq_1⟩⟩
set_option maxRecDepth 100000 in
set_option maxHeartbeats 4000000 in
theorem slices_isNaN_int_ok : PureOk Try.prog 78 pf_slices_isNaN_int := by
  refine pure_of (t := t_slices_isNaN_int) (pure := fun n => [].contains n) c_slices_isNaN_int_inj t_slices_isNaN_int_ok mixed (fun n hn => tabOf_pure rfl n hn) Try.func78 rfl (by kernel_rfl) (fun a => by simp [c_slices_isNaN_int, Try.ntmps78]) ?_
  rintro a0 out H
  simp only [slices_isNaN_int] at H
  show aC _ _ (sig0 (List.map (fun d => AV.c (C.d d)) (c_slices_isNaN_int a0))) _ _
  refine w_seq ?_
  refine w_region rfl (fun K hK => ?_)
  simp -implicitDefEqProofs only [goR, ↓upd_at, if_true, if_false, reduceCtorEq, ↓reduceIte, Nat.reduceEqDiff, Nat.reduceAdd, Nat.reduceSub, Nat.reduceMul, Nat.reduceBEq, Nat.reduceLT, Nat.reduceLeDiff, Int.reduceToNat, Int.reduceLE, Int.reduceLT, Int.reduceEq, Int.reduceNeg, ← List.map_drop, ← List.map_take, UInt8.reduceToNat, true_implies, implies_true, List.append_eq, y_slices_isNaN_int]
  (repeat' (first | ((with_reducible refine hK _ _ ?_); clear hK K) | (with_reducible apply And.intro) | (exact trivial) | (clear hK K; assumption) | (clear hK K; omega)))
  refine then_normal ?_
  refine w_seq ?_
  refine w_region rfl (fun K hK => ?_)
  simp -implicitDefEqProofs only [goR, ↓upd_at, if_true, if_false, reduceCtorEq, ↓reduceIte, Nat.reduceEqDiff, Nat.reduceAdd, Nat.reduceSub, Nat.reduceMul, Nat.reduceBEq, Nat.reduceLT, Nat.reduceLeDiff, Int.reduceToNat, Int.reduceLE, Int.reduceLT, Int.reduceEq, Int.reduceNeg, ← List.map_drop, ← List.map_take, UInt8.reduceToNat, true_implies, implies_true, List.append_eq, y_slices_isNaN_int]
  (repeat' (first | ((with_reducible refine hK _ _ ?_); clear hK K) | (with_reducible apply And.intro) | (exact trivial) | (clear hK K; assumption) | (clear hK K; omega)))
  refine then_normal ?_
  refine w_ret ?_
  obtain rfl := Option.some.inj H
  simp -implicitDefEqProofs only [goQ, Try.results78, goR, ↓upd_at, if_true, if_false, reduceCtorEq, ↓reduceIte, Nat.reduceEqDiff, Nat.reduceAdd, Nat.reduceSub, Nat.reduceMul, Nat.reduceBEq, Nat.reduceLT, Nat.reduceLeDiff, Int.reduceToNat, Int.reduceLE, Int.reduceLT, Int.reduceEq, Int.reduceNeg, ← List.map_drop, ← List.map_take, UInt8.reduceToNat, true_implies, implies_true, List.append_eq, y_slices_isNaN_int]
theorem slices_isNaN_int_c (a0 : Int) (r : Bool) (H : slices_isNaN_int a0 = some r) : pf_slices_isNaN_int.pre [dI a0] = True ∧ pf_slices_isNaN_int.val [dI a0] = dB r :=
  ⟨PF.of_pre (enc := c_slices_isNaN_int) (f := fun a => slices_isNaN_int a) (e := e_slices_isNaN_int) (a := a0) H, PF.of_val (enc := c_slices_isNaN_int) (f := fun a => slices_isNaN_int a) (e := e_slices_isNaN_int) (a := a0) c_slices_isNaN_int_inj H⟩
noncomputable def slices_BinarySearch_s_int_int_j2 (x2 : Int) : Bool → Option (Int × Bool)
  | x4 => some (x2, x4)
noncomputable def slices_BinarySearch_s_int_int_b1 (a0 : List Int) (a1 : Int) : (Int × Int × Int) → Option ((Int × Int × Int) ⊕ (Int × Bool))
  | (x1, x2, x3) => if (ltI x2 x3) = true then if (0 : Int) ≤ 1 then if (0 : Int) ≤ (IntKind.i64.wrap (Int.fdiv (IntKind.u64.wrap (IntKind.i64.wrap (x2 + x3))) (2 ^ (min 1 IntKind.u64.bits)))) ∧ (IntKind.i64.wrap (Int.fdiv (IntKind.u64.wrap (IntKind.i64.wrap (x2 + x3))) (2 ^ (min 1 IntKind.u64.bits)))).toNat < a0.length then (cmp_Less_int (a0.getD ((IntKind.i64.wrap (Int.fdiv (IntKind.u64.wrap (IntKind.i64.wrap (x2 + x3))) (2 ^ (min 1 IntKind.u64.bits)))).toNat) default) a1).bind fun r1 => if r1 = true then some (.inl (x1, IntKind.i64.wrap ((IntKind.i64.wrap (Int.fdiv (IntKind.u64.wrap (IntKind.i64.wrap (x2 + x3))) (2 ^ (min 1 IntKind.u64.bits)))) + 1), x3)) else some (.inl (x1, x2, IntKind.i64.wrap (Int.fdiv (IntKind.u64.wrap (IntKind.i64.wrap (x2 + x3))) (2 ^ (min 1 IntKind.u64.bits))))) else none else none else inrO (if (ltI x2 x1) = true then if (0 : Int) ≤ x2 ∧ x2.toNat < a0.length then if (eqI (a0.getD x2.toNat default) a1) = true then slices_BinarySearch_s_int_int_j2 x2 true else if (0 : Int) ≤ x2 ∧ x2.toNat < a0.length then (slices_isNaN_int (a0.getD x2.toNat default)).bind fun r2 => if r2 = true then (slices_isNaN_int a1).bind fun r3 => slices_BinarySearch_s_int_int_j2 x2 r3 else slices_BinarySearch_s_int_int_j2 x2 false else none else none else slices_BinarySearch_s_int_int_j2 x2 false)
noncomputable def slices_BinarySearch_s_int_int (a0 : List Int) (a1 : Int) : Option (Int × Bool) :=
  loopO (slices_BinarySearch_s_int_int_b1 a0 a1) ((a0.length : Int), 0, (a0.length : Int))
def e_slices_BinarySearch_s_int_int : Int × Bool → D := fun r => .tu [dI r.1, dB r.2]
def c_slices_BinarySearch_s_int_int : (List Int) × Int → List D := fun a => [(dL 1 dI) a.1, dI a.2]
theorem c_slices_BinarySearch_s_int_int_inj : Inj c_slices_BinarySearch_s_int_int := by rintro ⟨a0, a1⟩ ⟨b0, b1⟩ h; simp only [c_slices_BinarySearch_s_int_int, List.map_cons, List.map_nil, List.cons.injEq, and_true] at h; obtain ⟨h0, h1⟩ := h; obtain rfl := (dL_inj (sz := 0) dI_inj _ _) h0; obtain rfl := (dI_inj _ _) h1; rfl
noncomputable def pf_slices_BinarySearch_s_int_int : PF := PF.of c_slices_BinarySearch_s_int_int (fun a => slices_BinarySearch_s_int_int a.1 a.2) e_slices_BinarySearch_s_int_int
noncomputable def t_slices_BinarySearch_s_int_int : Tab := tabOf Try.prog [(77, pf_cmp_Less_int), (78, pf_slices_isNaN_int)] []
theorem t_slices_BinarySearch_s_int_int_ok : TabOk t_slices_BinarySearch_s_int_int := tabOf_ok (by exact ⟨⟨call_77, cmp_Less_int_ok⟩, ⟨call_78, slices_isNaN_int_ok⟩, trivial⟩) trivial
theorem y_slices_BinarySearch_s_int_int : ((((type_of% @Try.underlying118) ∧ ((type_of% @Try.underlying3) ∧ (type_of% @tAgg_3))) ∧ (((type_of% @tBytes_3) ∧ (type_of% @tCS_3)) ∧ ((type_of% @tElem_22) ∧ (type_of% @tKnown_3)))) ∧ (((type_of% @tSize_3) ∧ ((type_of% @tSlice_22) ∧ (type_of% @tZ_3))) ∧ (((type_of% @tZok_3) ∧ (type_of% @t_slices_BinarySearch_s_int_int.eq_1)) ∧ ((type_of% @c_slices_BinarySearch_s_int_int.eq_1) ∧ (type_of% @e_slices_BinarySearch_s_int_int.eq_1))))) := ⟨⟨⟨@Try.underlying118, ⟨@Try.underlying3, @tAgg_3⟩⟩, ⟨⟨@tBytes_3, @tCS_3⟩, ⟨@tElem_22, @tKnown_3⟩⟩⟩, ⟨⟨@tSize_3, ⟨@tSlice_22, @tZ_3⟩⟩, ⟨⟨@tZok_3, @t_slices_BinarySearch_s_int_int.eq_1⟩, ⟨@c_slices_BinarySearch_s_int_int.eq_1, @e_slices_BinarySearch_s_int_int.eq_1⟩⟩⟩⟩
set_option maxRecDepth 100000 in
set_option maxHeartbeats 4000000 in
theorem slices_BinarySearch_s_int_int_ok : PureOk Try.prog 59 pf_slices_BinarySearch_s_int_int := by
  refine pure_of (t := t_slices_BinarySearch_s_int_int) (pure := fun n => [77, 78].contains n) c_slices_BinarySearch_s_int_int_inj t_slices_BinarySearch_s_int_int_ok mixed (fun n hn => tabOf_pure rfl n hn) Try.func59 rfl (by kernel_rfl) (fun a => by simp [c_slices_BinarySearch_s_int_int, Try.ntmps59]) ?_
  rintro ⟨a0, a1⟩ out H
  simp only [slices_BinarySearch_s_int_int] at H
  show aC _ _ (sig0 (List.map (fun d => AV.c (C.d d)) (c_slices_BinarySearch_s_int_int (a0, a1)))) _ _
  refine w_seq ?_
  refine w_region rfl (fun K hK => ?_)
  simp -implicitDefEqProofs only [goR, ↓upd_at, if_true, if_false, reduceCtorEq, ↓reduceIte, Nat.reduceEqDiff, Nat.reduceAdd, Nat.reduceSub, Nat.reduceMul, Nat.reduceBEq, Nat.reduceLT, Nat.reduceLeDiff, Int.reduceToNat, Int.reduceLE, Int.reduceLT, Int.reduceEq, Int.reduceNeg, ← List.map_drop, ← List.map_take, UInt8.reduceToNat, true_implies, implies_true, List.append_eq, y_slices_BinarySearch_s_int_int]
  (repeat' (first | ((with_reducible refine hK _ _ ?_); clear hK K) | (with_reducible apply And.intro) | (exact trivial) | (clear hK K; assumption) | (clear hK K; omega)))
  refine then_normal ?_
  refine w_seq ?_
  refine w_region rfl (fun K hK => ?_)
  simp -implicitDefEqProofs only [goR, ↓upd_at, if_true, if_false, reduceCtorEq, ↓reduceIte, Nat.reduceEqDiff, Nat.reduceAdd, Nat.reduceSub, Nat.reduceMul, Nat.reduceBEq, Nat.reduceLT, Nat.reduceLeDiff, Int.reduceToNat, Int.reduceLE, Int.reduceLT, Int.reduceEq, Int.reduceNeg, ← List.map_drop, ← List.map_take, UInt8.reduceToNat, true_implies, implies_true, List.append_eq, y_slices_BinarySearch_s_int_int]
  (repeat' (first | ((with_reducible refine hK _ _ ?_); clear hK K) | (with_reducible apply And.intro) | (exact trivial) | (clear hK K; assumption) | (clear hK K; omega)))
  refine then_normal ?_
  refine w_seq ?_
  refine w_region rfl (fun K hK => ?_)
  simp -implicitDefEqProofs only [goR, ↓upd_at, if_true, if_false, reduceCtorEq, ↓reduceIte, Nat.reduceEqDiff, Nat.reduceAdd, Nat.reduceSub, Nat.reduceMul, Nat.reduceBEq, Nat.reduceLT, Nat.reduceLeDiff, Int.reduceToNat, Int.reduceLE, Int.reduceLT, Int.reduceEq, Int.reduceNeg, ← List.map_drop, ← List.map_take, UInt8.reduceToNat, true_implies, implies_true, List.append_eq, y_slices_BinarySearch_s_int_int]
  (repeat' (first | ((with_reducible refine hK _ _ ?_); clear hK K) | (with_reducible apply And.intro) | (exact trivial) | (clear hK K; assumption) | (clear hK K; omega)))
  refine then_normal ?_
  refine w_seq ?_
  refine w_block ?_
  refine w_loop (slices_BinarySearch_s_int_int_b1 a0 a1) (fun s => [(0, .c (.d (.sl 1 (List.map dI a0)))), (1, .c (.d (.v (.int .i64 a1)))), (6, .c (.d (.v (.int .i64 s.1)))), (7, .c (.d (.v (.int .i64 s.2.1)))), (8, .c (.d (.v (.int .i64 s.2.2))))]) (fun s => []) [] H ?_ ?_
  · exact wk_ren ⟨[], []⟩ rfl rfl rfl rfl rfl (by simp -implicitDefEqProofs only [goW, goR, ↓upd_at, if_true, if_false, reduceCtorEq, ↓reduceIte, Nat.reduceEqDiff, Nat.reduceAdd, Nat.reduceSub, Nat.reduceMul, Nat.reduceBEq, Nat.reduceLT, Nat.reduceLeDiff, Int.reduceToNat, Int.reduceLE, Int.reduceLT, Int.reduceEq, Int.reduceNeg, ← List.map_drop, ← List.map_take, UInt8.reduceToNat, true_implies, implies_true, List.append_eq, y_slices_BinarySearch_s_int_int]) (by simp -implicitDefEqProofs only [goW, goR, ↓upd_at, if_true, if_false, reduceCtorEq, ↓reduceIte, Nat.reduceEqDiff, Nat.reduceAdd, Nat.reduceSub, Nat.reduceMul, Nat.reduceBEq, Nat.reduceLT, Nat.reduceLeDiff, Int.reduceToNat, Int.reduceLE, Int.reduceLT, Int.reduceEq, Int.reduceNeg, ← List.map_drop, ← List.map_take, UInt8.reduceToNat, true_implies, implies_true, List.append_eq, y_slices_BinarySearch_s_int_int]) (by simp -implicitDefEqProofs only [goW, goR, ↓upd_at, if_true, if_false, reduceCtorEq, ↓reduceIte, Nat.reduceEqDiff, Nat.reduceAdd, Nat.reduceSub, Nat.reduceMul, Nat.reduceBEq, Nat.reduceLT, Nat.reduceLeDiff, Int.reduceToNat, Int.reduceLE, Int.reduceLT, Int.reduceEq, Int.reduceNeg, ← List.map_drop, ← List.map_take, UInt8.reduceToNat, true_implies, implies_true, List.append_eq, y_slices_BinarySearch_s_int_int])
  · rintro n1 ⟨x1, x2, x3⟩ o1 H hF1
    rw [slices_BinarySearch_s_int_int_b1] at H
    refine w_seq ?_
    refine w_seq ?_
    refine w_region rfl (fun K hK => ?_)
    simp -implicitDefEqProofs only [goR, ↓upd_at, if_true, if_false, reduceCtorEq, ↓reduceIte, Nat.reduceEqDiff, Nat.reduceAdd, Nat.reduceSub, Nat.reduceMul, Nat.reduceBEq, Nat.reduceLT, Nat.reduceLeDiff, Int.reduceToNat, Int.reduceLE, Int.reduceLT, Int.reduceEq, Int.reduceNeg, ← List.map_drop, ← List.map_take, UInt8.reduceToNat, true_implies, implies_true, List.append_eq, y_slices_BinarySearch_s_int_int]
    (repeat' (first | ((with_reducible refine hK _ _ ?_); clear hK K) | (with_reducible apply And.intro) | (exact trivial) | (clear hK K; assumption) | (clear hK K; omega)))
    refine then_normal ?_
    rcases bsplit H with ⟨hp1, H⟩ | ⟨hp1, H⟩
    · try simp -implicitDefEqProofs only [goR, ↓upd_at, if_true, if_false, reduceCtorEq, ↓reduceIte, Nat.reduceEqDiff, Nat.reduceAdd, Nat.reduceSub, Nat.reduceMul, Nat.reduceBEq, Nat.reduceLT, Nat.reduceLeDiff, Int.reduceToNat, Int.reduceLE, Int.reduceLT, Int.reduceEq, Int.reduceNeg, ← List.map_drop, ← List.map_take, UInt8.reduceToNat, true_implies, implies_true, List.append_eq, y_slices_BinarySearch_s_int_int] at hp1
      have hq1 := hp1
      try simp only [goT] at hq1
      refine w_condT (by simp -implicitDefEqProofs only [goR, ↓upd_at, if_true, if_false, reduceCtorEq, ↓reduceIte, Nat.reduceEqDiff, Nat.reduceAdd, Nat.reduceSub, Nat.reduceMul, Nat.reduceBEq, Nat.reduceLT, Nat.reduceLeDiff, Int.reduceToNat, Int.reduceLE, Int.reduceLT, Int.reduceEq, Int.reduceNeg, ← List.map_drop, ← List.map_take, UInt8.reduceToNat, true_implies, implies_true, List.append_eq, y_slices_BinarySearch_s_int_int, hp1]) ?_
      refine w_skip ?_
      refine then_normal ?_
      refine w_block ?_
      refine w_seq ?_
      obtain ⟨hg1, H⟩ := gsplit H
      refine w_region rfl (fun K hK => ?_)
      simp -implicitDefEqProofs only [goR, ↓upd_at, if_true, if_false, reduceCtorEq, ↓reduceIte, Nat.reduceEqDiff, Nat.reduceAdd, Nat.reduceSub, Nat.reduceMul, Nat.reduceBEq, Nat.reduceLT, Nat.reduceLeDiff, Int.reduceToNat, Int.reduceLE, Int.reduceLT, Int.reduceEq, Int.reduceNeg, ← List.map_drop, ← List.map_take, UInt8.reduceToNat, true_implies, implies_true, List.append_eq, y_slices_BinarySearch_s_int_int]
      (repeat' (first | ((with_reducible refine hK _ _ ?_); clear hK K) | (with_reducible apply And.intro) | (exact trivial) | (clear hK K; assumption) | (clear hK K; omega)))
      refine then_normal ?_
      refine w_seq ?_
      obtain ⟨hg2, H⟩ := gsplit H
      have g1 := map_getD dI a0 ((IntKind.i64.wrap (Int.fdiv (IntKind.u64.wrap (IntKind.i64.wrap (x2 + x3))) (2 ^ (min 1 IntKind.u64.bits)))).toNat) default default (by omega)
      obtain ⟨r1, hr1, H⟩ := osplit H
      have hc1 := cmp_Less_int_c (a0.getD ((IntKind.i64.wrap (Int.fdiv (IntKind.u64.wrap (IntKind.i64.wrap (x2 + x3))) (2 ^ (min 1 IntKind.u64.bits)))).toNat) default) a1 r1 hr1
      simp -implicitDefEqProofs only [goR, ↓upd_at, if_true, if_false, reduceCtorEq, ↓reduceIte, Nat.reduceEqDiff, Nat.reduceAdd, Nat.reduceSub, Nat.reduceMul, Nat.reduceBEq, Nat.reduceLT, Nat.reduceLeDiff, Int.reduceToNat, Int.reduceLE, Int.reduceLT, Int.reduceEq, Int.reduceNeg, ← List.map_drop, ← List.map_take, UInt8.reduceToNat, true_implies, implies_true, List.append_eq, y_slices_BinarySearch_s_int_int] at hc1
      refine w_region rfl (fun K hK => ?_)
      simp -implicitDefEqProofs only [goR, ↓upd_at, if_true, if_false, reduceCtorEq, ↓reduceIte, Nat.reduceEqDiff, Nat.reduceAdd, Nat.reduceSub, Nat.reduceMul, Nat.reduceBEq, Nat.reduceLT, Nat.reduceLeDiff, Int.reduceToNat, Int.reduceLE, Int.reduceLT, Int.reduceEq, Int.reduceNeg, ← List.map_drop, ← List.map_take, UInt8.reduceToNat, true_implies, implies_true, List.append_eq, y_slices_BinarySearch_s_int_int, g1, hc1.1, hc1.2]
      (repeat' (first | ((with_reducible refine hK _ _ ?_); clear hK K) | (with_reducible apply And.intro) | (exact trivial) | (clear hK K; assumption) | (clear hK K; omega)))
      refine then_normal ?_
      rcases bsplit H with ⟨hp2, H⟩ | ⟨hp2, H⟩
      · try simp -implicitDefEqProofs only [goR, ↓upd_at, if_true, if_false, reduceCtorEq, ↓reduceIte, Nat.reduceEqDiff, Nat.reduceAdd, Nat.reduceSub, Nat.reduceMul, Nat.reduceBEq, Nat.reduceLT, Nat.reduceLeDiff, Int.reduceToNat, Int.reduceLE, Int.reduceLT, Int.reduceEq, Int.reduceNeg, ← List.map_drop, ← List.map_take, UInt8.reduceToNat, true_implies, implies_true, List.append_eq, y_slices_BinarySearch_s_int_int] at hp2
        have hq2 := hp2
        try simp only [goT] at hq2
        refine w_condT (by simp -implicitDefEqProofs only [goR, ↓upd_at, if_true, if_false, reduceCtorEq, ↓reduceIte, Nat.reduceEqDiff, Nat.reduceAdd, Nat.reduceSub, Nat.reduceMul, Nat.reduceBEq, Nat.reduceLT, Nat.reduceLeDiff, Int.reduceToNat, Int.reduceLE, Int.reduceLT, Int.reduceEq, Int.reduceNeg, ← List.map_drop, ← List.map_take, UInt8.reduceToNat, true_implies, implies_true, List.append_eq, y_slices_BinarySearch_s_int_int, hp2]) ?_
        refine w_region rfl (fun K hK => ?_)
        simp -implicitDefEqProofs only [goR, ↓upd_at, if_true, if_false, reduceCtorEq, ↓reduceIte, Nat.reduceEqDiff, Nat.reduceAdd, Nat.reduceSub, Nat.reduceMul, Nat.reduceBEq, Nat.reduceLT, Nat.reduceLeDiff, Int.reduceToNat, Int.reduceLE, Int.reduceLT, Int.reduceEq, Int.reduceNeg, ← List.map_drop, ← List.map_take, UInt8.reduceToNat, true_implies, implies_true, List.append_eq, y_slices_BinarySearch_s_int_int]
        (repeat' (first | ((with_reducible refine hK _ _ ?_); clear hK K) | (with_reducible apply And.intro) | (exact trivial) | (clear hK K; assumption) | (clear hK K; omega)))
        refine block_normal ?_
        refine round_at (inl_fin H hF1) ?_
        exact wk_ren ⟨[], []⟩ rfl rfl rfl rfl rfl (by simp -implicitDefEqProofs only [goW, goR, ↓upd_at, if_true, if_false, reduceCtorEq, ↓reduceIte, Nat.reduceEqDiff, Nat.reduceAdd, Nat.reduceSub, Nat.reduceMul, Nat.reduceBEq, Nat.reduceLT, Nat.reduceLeDiff, Int.reduceToNat, Int.reduceLE, Int.reduceLT, Int.reduceEq, Int.reduceNeg, ← List.map_drop, ← List.map_take, UInt8.reduceToNat, true_implies, implies_true, List.append_eq, y_slices_BinarySearch_s_int_int]) (by simp -implicitDefEqProofs only [goW, goR, ↓upd_at, if_true, if_false, reduceCtorEq, ↓reduceIte, Nat.reduceEqDiff, Nat.reduceAdd, Nat.reduceSub, Nat.reduceMul, Nat.reduceBEq, Nat.reduceLT, Nat.reduceLeDiff, Int.reduceToNat, Int.reduceLE, Int.reduceLT, Int.reduceEq, Int.reduceNeg, ← List.map_drop, ← List.map_take, UInt8.reduceToNat, true_implies, implies_true, List.append_eq, y_slices_BinarySearch_s_int_int]) (by simp -implicitDefEqProofs only [goW, goR, ↓upd_at, if_true, if_false, reduceCtorEq, ↓reduceIte, Nat.reduceEqDiff, Nat.reduceAdd, Nat.reduceSub, Nat.reduceMul, Nat.reduceBEq, Nat.reduceLT, Nat.reduceLeDiff, Int.reduceToNat, Int.reduceLE, Int.reduceLT, Int.reduceEq, Int.reduceNeg, ← List.map_drop, ← List.map_take, UInt8.reduceToNat, true_implies, implies_true, List.append_eq, y_slices_BinarySearch_s_int_int])
      · try simp -implicitDefEqProofs only [goR, ↓upd_at, if_true, if_false, reduceCtorEq, ↓reduceIte, Nat.reduceEqDiff, Nat.reduceAdd, Nat.reduceSub, Nat.reduceMul, Nat.reduceBEq, Nat.reduceLT, Nat.reduceLeDiff, Int.reduceToNat, Int.reduceLE, Int.reduceLT, Int.reduceEq, Int.reduceNeg, ← List.map_drop, ← List.map_take, UInt8.reduceToNat, true_implies, implies_true, List.append_eq, y_slices_BinarySearch_s_int_int] at hp2
        have hq2 := hp2
        try simp only [goT] at hq2
        refine w_condF (by simp -implicitDefEqProofs only [goR, ↓upd_at, if_true, if_false, reduceCtorEq, ↓reduceIte, Nat.reduceEqDiff, Nat.reduceAdd, Nat.reduceSub, Nat.reduceMul, Nat.reduceBEq, Nat.reduceLT, Nat.reduceLeDiff, Int.reduceToNat, Int.reduceLE, Int.reduceLT, Int.reduceEq, Int.reduceNeg, ← List.map_drop, ← List.map_take, UInt8.reduceToNat, true_implies, implies_true, List.append_eq, y_slices_BinarySearch_s_int_int, hp2]) ?_
        refine w_region rfl (fun K hK => ?_)
        simp -implicitDefEqProofs only [goR, ↓upd_at, if_true, if_false, reduceCtorEq, ↓reduceIte, Nat.reduceEqDiff, Nat.reduceAdd, Nat.reduceSub, Nat.reduceMul, Nat.reduceBEq, Nat.reduceLT, Nat.reduceLeDiff, Int.reduceToNat, Int.reduceLE, Int.reduceLT, Int.reduceEq, Int.reduceNeg, ← List.map_drop, ← List.map_take, UInt8.reduceToNat, true_implies, implies_true, List.append_eq, y_slices_BinarySearch_s_int_int]
        (repeat' (first | ((with_reducible refine hK _ _ ?_); clear hK K) | (with_reducible apply And.intro) | (exact trivial) | (clear hK K; assumption) | (clear hK K; omega)))
        refine block_normal ?_
        refine round_at (inl_fin H hF1) ?_
        exact wk_ren ⟨[], []⟩ rfl rfl rfl rfl rfl (by simp -implicitDefEqProofs only [goW, goR, ↓upd_at, if_true, if_false, reduceCtorEq, ↓reduceIte, Nat.reduceEqDiff, Nat.reduceAdd, Nat.reduceSub, Nat.reduceMul, Nat.reduceBEq, Nat.reduceLT, Nat.reduceLeDiff, Int.reduceToNat, Int.reduceLE, Int.reduceLT, Int.reduceEq, Int.reduceNeg, ← List.map_drop, ← List.map_take, UInt8.reduceToNat, true_implies, implies_true, List.append_eq, y_slices_BinarySearch_s_int_int]) (by simp -implicitDefEqProofs only [goW, goR, ↓upd_at, if_true, if_false, reduceCtorEq, ↓reduceIte, Nat.reduceEqDiff, Nat.reduceAdd, Nat.reduceSub, Nat.reduceMul, Nat.reduceBEq, Nat.reduceLT, Nat.reduceLeDiff, Int.reduceToNat, Int.reduceLE, Int.reduceLT, Int.reduceEq, Int.reduceNeg, ← List.map_drop, ← List.map_take, UInt8.reduceToNat, true_implies, implies_true, List.append_eq, y_slices_BinarySearch_s_int_int]) (by simp -implicitDefEqProofs only [goW, goR, ↓upd_at, if_true, if_false, reduceCtorEq, ↓reduceIte, Nat.reduceEqDiff, Nat.reduceAdd, Nat.reduceSub, Nat.reduceMul, Nat.reduceBEq, Nat.reduceLT, Nat.reduceLeDiff, Int.reduceToNat, Int.reduceLE, Int.reduceLT, Int.reduceEq, Int.reduceNeg, ← List.map_drop, ← List.map_take, UInt8.reduceToNat, true_implies, implies_true, List.append_eq, y_slices_BinarySearch_s_int_int])
    · try simp -implicitDefEqProofs only [goR, ↓upd_at, if_true, if_false, reduceCtorEq, ↓reduceIte, Nat.reduceEqDiff, Nat.reduceAdd, Nat.reduceSub, Nat.reduceMul, Nat.reduceBEq, Nat.reduceLT, Nat.reduceLeDiff, Int.reduceToNat, Int.reduceLE, Int.reduceLT, Int.reduceEq, Int.reduceNeg, ← List.map_drop, ← List.map_take, UInt8.reduceToNat, true_implies, implies_true, List.append_eq, y_slices_BinarySearch_s_int_int] at hp1
      have hq1 := hp1
      try simp only [goT] at hq1
      refine w_condF (by simp -implicitDefEqProofs only [goR, ↓upd_at, if_true, if_false, reduceCtorEq, ↓reduceIte, Nat.reduceEqDiff, Nat.reduceAdd, Nat.reduceSub, Nat.reduceMul, Nat.reduceBEq, Nat.reduceLT, Nat.reduceLeDiff, Int.reduceToNat, Int.reduceLE, Int.reduceLT, Int.reduceEq, Int.reduceNeg, ← List.map_drop, ← List.map_take, UInt8.reduceToNat, true_implies, implies_true, List.append_eq, y_slices_BinarySearch_s_int_int, hp1]) ?_
      refine w_exit ?_
      refine then_exit ?_
      replace H := inrO_fin H hF1
      refine round_exit ?_
      refine block_exit ?_
      refine then_normal ?_
      refine w_cut (slices_BinarySearch_s_int_int_j2 x2) (fun s => [(4, .c (.d (.v (.int .i64 x2)))), (5, .c (.d (.v (.bool s))))]) (fun s => []) [] out ?_ ?_
      · rcases bsplit H with ⟨hp3, H⟩ | ⟨hp3, H⟩
        · try simp -implicitDefEqProofs only [goR, ↓upd_at, if_true, if_false, reduceCtorEq, ↓reduceIte, Nat.reduceEqDiff, Nat.reduceAdd, Nat.reduceSub, Nat.reduceMul, Nat.reduceBEq, Nat.reduceLT, Nat.reduceLeDiff, Int.reduceToNat, Int.reduceLE, Int.reduceLT, Int.reduceEq, Int.reduceNeg, ← List.map_drop, ← List.map_take, UInt8.reduceToNat, true_implies, implies_true, List.append_eq, y_slices_BinarySearch_s_int_int] at hp3
          have hq3 := hp3
          try simp only [goT] at hq3
          obtain ⟨hg3, H⟩ := gsplit H
          have g2 := map_getD dI a0 x2.toNat default default (by omega)
          rcases bsplit H with ⟨hp4, H⟩ | ⟨hp4, H⟩
          · try simp -implicitDefEqProofs only [goR, ↓upd_at, if_true, if_false, reduceCtorEq, ↓reduceIte, Nat.reduceEqDiff, Nat.reduceAdd, Nat.reduceSub, Nat.reduceMul, Nat.reduceBEq, Nat.reduceLT, Nat.reduceLeDiff, Int.reduceToNat, Int.reduceLE, Int.reduceLT, Int.reduceEq, Int.reduceNeg, ← List.map_drop, ← List.map_take, UInt8.reduceToNat, true_implies, implies_true, List.append_eq, y_slices_BinarySearch_s_int_int] at hp4
            have hq4 := hp4
            try simp only [goT] at hq4
            refine w_region rfl (fun K hK => ?_)
            simp -implicitDefEqProofs only [goR, ↓upd_at, if_true, if_false, reduceCtorEq, ↓reduceIte, Nat.reduceEqDiff, Nat.reduceAdd, Nat.reduceSub, Nat.reduceMul, Nat.reduceBEq, Nat.reduceLT, Nat.reduceLeDiff, Int.reduceToNat, Int.reduceLE, Int.reduceLT, Int.reduceEq, Int.reduceNeg, ← List.map_drop, ← List.map_take, UInt8.reduceToNat, true_implies, implies_true, List.append_eq, y_slices_BinarySearch_s_int_int, hp3, g2, hp4]
            (repeat' (first | ((with_reducible refine hK _ _ ?_); clear hK K) | (with_reducible apply And.intro) | (exact trivial) | (clear hK K; assumption) | (clear hK K; omega)))
            refine cut_at H ?_
            exact wk_ren ⟨[], []⟩ rfl rfl rfl rfl rfl (by simp -implicitDefEqProofs only [goW, goR, ↓upd_at, if_true, if_false, reduceCtorEq, ↓reduceIte, Nat.reduceEqDiff, Nat.reduceAdd, Nat.reduceSub, Nat.reduceMul, Nat.reduceBEq, Nat.reduceLT, Nat.reduceLeDiff, Int.reduceToNat, Int.reduceLE, Int.reduceLT, Int.reduceEq, Int.reduceNeg, ← List.map_drop, ← List.map_take, UInt8.reduceToNat, true_implies, implies_true, List.append_eq, y_slices_BinarySearch_s_int_int]) (by simp -implicitDefEqProofs only [goW, goR, ↓upd_at, if_true, if_false, reduceCtorEq, ↓reduceIte, Nat.reduceEqDiff, Nat.reduceAdd, Nat.reduceSub, Nat.reduceMul, Nat.reduceBEq, Nat.reduceLT, Nat.reduceLeDiff, Int.reduceToNat, Int.reduceLE, Int.reduceLT, Int.reduceEq, Int.reduceNeg, ← List.map_drop, ← List.map_take, UInt8.reduceToNat, true_implies, implies_true, List.append_eq, y_slices_BinarySearch_s_int_int]) (by simp -implicitDefEqProofs only [goW, goR, ↓upd_at, if_true, if_false, reduceCtorEq, ↓reduceIte, Nat.reduceEqDiff, Nat.reduceAdd, Nat.reduceSub, Nat.reduceMul, Nat.reduceBEq, Nat.reduceLT, Nat.reduceLeDiff, Int.reduceToNat, Int.reduceLE, Int.reduceLT, Int.reduceEq, Int.reduceNeg, ← List.map_drop, ← List.map_take, UInt8.reduceToNat, true_implies, implies_true, List.append_eq, y_slices_BinarySearch_s_int_int])
          · try simp -implicitDefEqProofs only [goR, ↓upd_at, if_true, if_false, reduceCtorEq, ↓reduceIte, Nat.reduceEqDiff, Nat.reduceAdd, Nat.reduceSub, Nat.reduceMul, Nat.reduceBEq, Nat.reduceLT, Nat.reduceLeDiff, Int.reduceToNat, Int.reduceLE, Int.reduceLT, Int.reduceEq, Int.reduceNeg, ← List.map_drop, ← List.map_take, UInt8.reduceToNat, true_implies, implies_true, List.append_eq, y_slices_BinarySearch_s_int_int] at hp4
            have hq4 := hp4
            try simp only [goT] at hq4
            obtain ⟨hg4, H⟩ := gsplit H
            have g3 := map_getD dI a0 x2.toNat default default (by omega)
            obtain ⟨r2, hr2, H⟩ := osplit H
            have hc2 := slices_isNaN_int_c (a0.getD x2.toNat default) r2 hr2
            simp -implicitDefEqProofs only [goR, ↓upd_at, if_true, if_false, reduceCtorEq, ↓reduceIte, Nat.reduceEqDiff, Nat.reduceAdd, Nat.reduceSub, Nat.reduceMul, Nat.reduceBEq, Nat.reduceLT, Nat.reduceLeDiff, Int.reduceToNat, Int.reduceLE, Int.reduceLT, Int.reduceEq, Int.reduceNeg, ← List.map_drop, ← List.map_take, UInt8.reduceToNat, true_implies, implies_true, List.append_eq, y_slices_BinarySearch_s_int_int] at hc2
            rcases bsplit H with ⟨hp5, H⟩ | ⟨hp5, H⟩
            · try simp -implicitDefEqProofs only [goR, ↓upd_at, if_true, if_false, reduceCtorEq, ↓reduceIte, Nat.reduceEqDiff, Nat.reduceAdd, Nat.reduceSub, Nat.reduceMul, Nat.reduceBEq, Nat.reduceLT, Nat.reduceLeDiff, Int.reduceToNat, Int.reduceLE, Int.reduceLT, Int.reduceEq, Int.reduceNeg, ← List.map_drop, ← List.map_take, UInt8.reduceToNat, true_implies, implies_true, List.append_eq, y_slices_BinarySearch_s_int_int] at hp5
              have hq5 := hp5
              try simp only [goT] at hq5
              obtain ⟨r3, hr3, H⟩ := osplit H
              have hc3 := slices_isNaN_int_c a1 r3 hr3
              simp -implicitDefEqProofs only [goR, ↓upd_at, if_true, if_false, reduceCtorEq, ↓reduceIte, Nat.reduceEqDiff, Nat.reduceAdd, Nat.reduceSub, Nat.reduceMul, Nat.reduceBEq, Nat.reduceLT, Nat.reduceLeDiff, Int.reduceToNat, Int.reduceLE, Int.reduceLT, Int.reduceEq, Int.reduceNeg, ← List.map_drop, ← List.map_take, UInt8.reduceToNat, true_implies, implies_true, List.append_eq, y_slices_BinarySearch_s_int_int] at hc3
              refine w_region rfl (fun K hK => ?_)
              simp -implicitDefEqProofs only [goR, ↓upd_at, if_true, if_false, reduceCtorEq, ↓reduceIte, Nat.reduceEqDiff, Nat.reduceAdd, Nat.reduceSub, Nat.reduceMul, Nat.reduceBEq, Nat.reduceLT, Nat.reduceLeDiff, Int.reduceToNat, Int.reduceLE, Int.reduceLT, Int.reduceEq, Int.reduceNeg, ← List.map_drop, ← List.map_take, UInt8.reduceToNat, true_implies, implies_true, List.append_eq, y_slices_BinarySearch_s_int_int, hp3, g2, hp4, g3, hc2.1, hc2.2, hp5, hc3.1, hc3.2]
              (repeat' (first | ((with_reducible refine hK _ _ ?_); clear hK K) | (with_reducible apply And.intro) | (exact trivial) | (clear hK K; assumption) | (clear hK K; omega)))
              refine cut_at H ?_
              exact wk_ren ⟨[], []⟩ rfl rfl rfl rfl rfl (by simp -implicitDefEqProofs only [goW, goR, ↓upd_at, if_true, if_false, reduceCtorEq, ↓reduceIte, Nat.reduceEqDiff, Nat.reduceAdd, Nat.reduceSub, Nat.reduceMul, Nat.reduceBEq, Nat.reduceLT, Nat.reduceLeDiff, Int.reduceToNat, Int.reduceLE, Int.reduceLT, Int.reduceEq, Int.reduceNeg, ← List.map_drop, ← List.map_take, UInt8.reduceToNat, true_implies, implies_true, List.append_eq, y_slices_BinarySearch_s_int_int]) (by simp -implicitDefEqProofs only [goW, goR, ↓upd_at, if_true, if_false, reduceCtorEq, ↓reduceIte, Nat.reduceEqDiff, Nat.reduceAdd, Nat.reduceSub, Nat.reduceMul, Nat.reduceBEq, Nat.reduceLT, Nat.reduceLeDiff, Int.reduceToNat, Int.reduceLE, Int.reduceLT, Int.reduceEq, Int.reduceNeg, ← List.map_drop, ← List.map_take, UInt8.reduceToNat, true_implies, implies_true, List.append_eq, y_slices_BinarySearch_s_int_int]) (by simp -implicitDefEqProofs only [goW, goR, ↓upd_at, if_true, if_false, reduceCtorEq, ↓reduceIte, Nat.reduceEqDiff, Nat.reduceAdd, Nat.reduceSub, Nat.reduceMul, Nat.reduceBEq, Nat.reduceLT, Nat.reduceLeDiff, Int.reduceToNat, Int.reduceLE, Int.reduceLT, Int.reduceEq, Int.reduceNeg, ← List.map_drop, ← List.map_take, UInt8.reduceToNat, true_implies, implies_true, List.append_eq, y_slices_BinarySearch_s_int_int])
            · try simp -implicitDefEqProofs only [goR, ↓upd_at, if_true, if_false, reduceCtorEq, ↓reduceIte, Nat.reduceEqDiff, Nat.reduceAdd, Nat.reduceSub, Nat.reduceMul, Nat.reduceBEq, Nat.reduceLT, Nat.reduceLeDiff, Int.reduceToNat, Int.reduceLE, Int.reduceLT, Int.reduceEq, Int.reduceNeg, ← List.map_drop, ← List.map_take, UInt8.reduceToNat, true_implies, implies_true, List.append_eq, y_slices_BinarySearch_s_int_int] at hp5
              have hq5 := hp5
              try simp only [goT] at hq5
              refine w_region rfl (fun K hK => ?_)
              simp -implicitDefEqProofs only [goR, ↓upd_at, if_true, if_false, reduceCtorEq, ↓reduceIte, Nat.reduceEqDiff, Nat.reduceAdd, Nat.reduceSub, Nat.reduceMul, Nat.reduceBEq, Nat.reduceLT, Nat.reduceLeDiff, Int.reduceToNat, Int.reduceLE, Int.reduceLT, Int.reduceEq, Int.reduceNeg, ← List.map_drop, ← List.map_take, UInt8.reduceToNat, true_implies, implies_true, List.append_eq, y_slices_BinarySearch_s_int_int, hp3, g2, hp4, g3, hc2.1, hc2.2, hp5]
              (repeat' (first | ((with_reducible refine hK _ _ ?_); clear hK K) | (with_reducible apply And.intro) | (exact trivial) | (clear hK K; assumption) | (clear hK K; omega)))
              refine cut_at H ?_
              exact wk_ren ⟨[], []⟩ rfl rfl rfl rfl rfl (by simp -implicitDefEqProofs only [goW, goR, ↓upd_at, if_true, if_false, reduceCtorEq, ↓reduceIte, Nat.reduceEqDiff, Nat.reduceAdd, Nat.reduceSub, Nat.reduceMul, Nat.reduceBEq, Nat.reduceLT, Nat.reduceLeDiff, Int.reduceToNat, Int.reduceLE, Int.reduceLT, Int.reduceEq, Int.reduceNeg, ← List.map_drop, ← List.map_take, UInt8.reduceToNat, true_implies, implies_true, List.append_eq, y_slices_BinarySearch_s_int_int]) (by simp -implicitDefEqProofs only [goW, goR, ↓upd_at, if_true, if_false, reduceCtorEq, ↓reduceIte, Nat.reduceEqDiff, Nat.reduceAdd, Nat.reduceSub, Nat.reduceMul, Nat.reduceBEq, Nat.reduceLT, Nat.reduceLeDiff, Int.reduceToNat, Int.reduceLE, Int.reduceLT, Int.reduceEq, Int.reduceNeg, ← List.map_drop, ← List.map_take, UInt8.reduceToNat, true_implies, implies_true, List.append_eq, y_slices_BinarySearch_s_int_int]) (by simp -implicitDefEqProofs only [goW, goR, ↓upd_at, if_true, if_false, reduceCtorEq, ↓reduceIte, Nat.reduceEqDiff, Nat.reduceAdd, Nat.reduceSub, Nat.reduceMul, Nat.reduceBEq, Nat.reduceLT, Nat.reduceLeDiff, Int.reduceToNat, Int.reduceLE, Int.reduceLT, Int.reduceEq, Int.reduceNeg, ← List.map_drop, ← List.map_take, UInt8.reduceToNat, true_implies, implies_true, List.append_eq, y_slices_BinarySearch_s_int_int])
        · try simp -implicitDefEqProofs only [goR, ↓upd_at, if_true, if_false, reduceCtorEq, ↓reduceIte, Nat.reduceEqDiff, Nat.reduceAdd, Nat.reduceSub, Nat.reduceMul, Nat.reduceBEq, Nat.reduceLT, Nat.reduceLeDiff, Int.reduceToNat, Int.reduceLE, Int.reduceLT, Int.reduceEq, Int.reduceNeg, ← List.map_drop, ← List.map_take, UInt8.reduceToNat, true_implies, implies_true, List.append_eq, y_slices_BinarySearch_s_int_int] at hp3
          have hq3 := hp3
          try simp only [goT] at hq3
          refine w_region rfl (fun K hK => ?_)
          simp -implicitDefEqProofs only [goR, ↓upd_at, if_true, if_false, reduceCtorEq, ↓reduceIte, Nat.reduceEqDiff, Nat.reduceAdd, Nat.reduceSub, Nat.reduceMul, Nat.reduceBEq, Nat.reduceLT, Nat.reduceLeDiff, Int.reduceToNat, Int.reduceLE, Int.reduceLT, Int.reduceEq, Int.reduceNeg, ← List.map_drop, ← List.map_take, UInt8.reduceToNat, true_implies, implies_true, List.append_eq, y_slices_BinarySearch_s_int_int, hp3]
          (repeat' (first | ((with_reducible refine hK _ _ ?_); clear hK K) | (with_reducible apply And.intro) | (exact trivial) | (clear hK K; assumption) | (clear hK K; omega)))
          refine cut_at H ?_
          exact wk_ren ⟨[], []⟩ rfl rfl rfl rfl rfl (by simp -implicitDefEqProofs only [goW, goR, ↓upd_at, if_true, if_false, reduceCtorEq, ↓reduceIte, Nat.reduceEqDiff, Nat.reduceAdd, Nat.reduceSub, Nat.reduceMul, Nat.reduceBEq, Nat.reduceLT, Nat.reduceLeDiff, Int.reduceToNat, Int.reduceLE, Int.reduceLT, Int.reduceEq, Int.reduceNeg, ← List.map_drop, ← List.map_take, UInt8.reduceToNat, true_implies, implies_true, List.append_eq, y_slices_BinarySearch_s_int_int]) (by simp -implicitDefEqProofs only [goW, goR, ↓upd_at, if_true, if_false, reduceCtorEq, ↓reduceIte, Nat.reduceEqDiff, Nat.reduceAdd, Nat.reduceSub, Nat.reduceMul, Nat.reduceBEq, Nat.reduceLT, Nat.reduceLeDiff, Int.reduceToNat, Int.reduceLE, Int.reduceLT, Int.reduceEq, Int.reduceNeg, ← List.map_drop, ← List.map_take, UInt8.reduceToNat, true_implies, implies_true, List.append_eq, y_slices_BinarySearch_s_int_int]) (by simp -implicitDefEqProofs only [goW, goR, ↓upd_at, if_true, if_false, reduceCtorEq, ↓reduceIte, Nat.reduceEqDiff, Nat.reduceAdd, Nat.reduceSub, Nat.reduceMul, Nat.reduceBEq, Nat.reduceLT, Nat.reduceLeDiff, Int.reduceToNat, Int.reduceLE, Int.reduceLT, Int.reduceEq, Int.reduceNeg, ← List.map_drop, ← List.map_take, UInt8.reduceToNat, true_implies, implies_true, List.append_eq, y_slices_BinarySearch_s_int_int])
      · rintro x4 H
        rw [slices_BinarySearch_s_int_int_j2] at H
        refine w_ret ?_
        obtain rfl := Option.some.inj H
        simp -implicitDefEqProofs only [goQ, Try.results59, goR, ↓upd_at, if_true, if_false, reduceCtorEq, ↓reduceIte, Nat.reduceEqDiff, Nat.reduceAdd, Nat.reduceSub, Nat.reduceMul, Nat.reduceBEq, Nat.reduceLT, Nat.reduceLeDiff, Int.reduceToNat, Int.reduceLE, Int.reduceLT, Int.reduceEq, Int.reduceNeg, ← List.map_drop, ← List.map_take, UInt8.reduceToNat, true_implies, implies_true, List.append_eq, y_slices_BinarySearch_s_int_int]
theorem slices_BinarySearch_s_int_int_c (a0 : List Int) (a1 : Int) (r : Int × Bool) (H : slices_BinarySearch_s_int_int a0 a1 = some r) : pf_slices_BinarySearch_s_int_int.pre [(dL 1 dI) a0, dI a1] = True ∧ pf_slices_BinarySearch_s_int_int.val [(dL 1 dI) a0, dI a1] = (fun r => .tu [dI r.1, dB r.2]) r :=
  ⟨PF.of_pre (enc := c_slices_BinarySearch_s_int_int) (f := fun a => slices_BinarySearch_s_int_int a.1 a.2) (e := e_slices_BinarySearch_s_int_int) (a := (a0, a1)) H, PF.of_val (enc := c_slices_BinarySearch_s_int_int) (f := fun a => slices_BinarySearch_s_int_int a.1 a.2) (e := e_slices_BinarySearch_s_int_int) (a := (a0, a1)) c_slices_BinarySearch_s_int_int_inj H⟩
theorem slices_BinarySearch_s_int_int_cl (l : List D) (a0 : List Int) (a1 : Int) (r : Int × Bool) (hl : les1 l (c_slices_BinarySearch_s_int_int (a0, a1))) (H : slices_BinarySearch_s_int_int a0 a1 = some r) : pf_slices_BinarySearch_s_int_int.pre l = True ∧ pf_slices_BinarySearch_s_int_int.val l = (fun r => .tu [dI r.1, dB r.2]) r :=
  ⟨PF.of_prel (enc := c_slices_BinarySearch_s_int_int) (f := fun a => slices_BinarySearch_s_int_int a.1 a.2) (e := e_slices_BinarySearch_s_int_int) (a := (a0, a1)) hl H, PF.of_vall (enc := c_slices_BinarySearch_s_int_int) (f := fun a => slices_BinarySearch_s_int_int a.1 a.2) (e := e_slices_BinarySearch_s_int_int) (a := (a0, a1)) c_slices_BinarySearch_s_int_int_inj hl H⟩
end Go.Proofs.Ytgkacglpjmndbaa
