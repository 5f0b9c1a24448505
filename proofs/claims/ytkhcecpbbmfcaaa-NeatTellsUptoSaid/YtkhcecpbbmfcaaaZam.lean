/- Functions of data for functions of the program. Written by dec3.py. -/
import Derived.Test.YtkhcecpbbmfcaaaZaj
set_option linter.unusedVariables false
set_option linter.unusedSimpArgs false
namespace Go.Proofs.Ytkhcecpbbmfcaaa
open Go.RowKit
noncomputable def preref1_Letter_j1 : Bool → Option Bool
  | x1 => some x1
noncomputable def preref1_Letter (a0 : UInt8) : Option Bool :=
  if (leI 97 (a0.toNat : Int)) = true then if (leI (a0.toNat : Int) 122) = true then preref1_Letter_j1 true else if (leI 65 (a0.toNat : Int)) = true then if (leI (a0.toNat : Int) 90) = true then preref1_Letter_j1 true else preref1_Letter_j1 (eqI (a0.toNat : Int) 95) else preref1_Letter_j1 (eqI (a0.toNat : Int) 95) else if (leI 65 (a0.toNat : Int)) = true then if (leI (a0.toNat : Int) 90) = true then preref1_Letter_j1 true else preref1_Letter_j1 (eqI (a0.toNat : Int) 95) else preref1_Letter_j1 (eqI (a0.toNat : Int) 95)
noncomputable def pf_preref1_Letter : PF := PF.of (E1 dU) (fun a => preref1_Letter a) dB
set_option maxRecDepth 100000 in
set_option maxHeartbeats 4000000 in
theorem preref1_Letter_ok : PureOk Try.prog 73 pf_preref1_Letter := by
  refine xF mixed [] [] trivial trivial Try.func73 ?_
  rintro a0 out H
  have G := True.intro
  have Y := Try.results73
  simp only [preref1_Letter] at H
  refine xS ?_
  refine xr0 ?_
  refine then_normal ?_
  refine w_cut preref1_Letter_j1 (fun s => [(2, .c (.d (.v (.bool s))))]) (fun s => []) [] out ?_ ?_
  · rcases bsplit H with ⟨hp1, H⟩ | ⟨hp1, H⟩
    · obtain ⟨F, G, hq1⟩ := xH Y G hp1
      rcases bsplit H with ⟨hp2, H⟩ | ⟨hp2, H⟩
      · obtain ⟨F, G, hq2⟩ := xH F G hp2
        refine xR ?_
        exact cut_at H (xK ⟨[], []⟩)
      · obtain ⟨F, G, hq2⟩ := xH F G hp2
        rcases bsplit H with ⟨hp3, H⟩ | ⟨hp3, H⟩
        · obtain ⟨F, G, hq3⟩ := xH F G hp3
          rcases bsplit H with ⟨hp4, H⟩ | ⟨hp4, H⟩
          · obtain ⟨F, G, hq4⟩ := xH F G hp4
            refine xR ?_
            exact cut_at H (xK ⟨[], []⟩)
          · obtain ⟨F, G, hq4⟩ := xH F G hp4
            refine xR ?_
            exact cut_at H (xK ⟨[], []⟩)
        · obtain ⟨F, G, hq3⟩ := xH F G hp3
          refine xR ?_
          exact cut_at H (xK ⟨[], []⟩)
    · obtain ⟨F, G, hq1⟩ := xH Y G hp1
      rcases bsplit H with ⟨hp5, H⟩ | ⟨hp5, H⟩
      · obtain ⟨F, G, hq5⟩ := xH F G hp5
        rcases bsplit H with ⟨hp6, H⟩ | ⟨hp6, H⟩
        · obtain ⟨F, G, hq6⟩ := xH F G hp6
          refine xR ?_
          exact cut_at H (xK ⟨[], []⟩)
        · obtain ⟨F, G, hq6⟩ := xH F G hp6
          refine xR ?_
          exact cut_at H (xK ⟨[], []⟩)
      · obtain ⟨F, G, hq5⟩ := xH F G hp5
        refine xR ?_
        exact cut_at H (xK ⟨[], []⟩)
  · rintro x1 H
    rw [preref1_Letter_j1] at H
    replace H := Option.some.inj H
    refine xS ?_
    subst H
    exact xN
theorem preref1_Letter_c (a0 : UInt8) (r : Bool) (H : preref1_Letter a0 = some r) : PC pf_preref1_Letter [dU a0] (dB r) := PF.c (a := a0) H
noncomputable def preref1_Digit_j1 : Bool → Option Bool
  | x1 => some x1
noncomputable def preref1_Digit (a0 : UInt8) : Option Bool :=
  if (leI 48 (a0.toNat : Int)) = true then preref1_Digit_j1 (leI (a0.toNat : Int) 57) else preref1_Digit_j1 false
noncomputable def pf_preref1_Digit : PF := PF.of (E1 dU) (fun a => preref1_Digit a) dB
set_option maxRecDepth 100000 in
set_option maxHeartbeats 4000000 in
theorem preref1_Digit_ok : PureOk Try.prog 74 pf_preref1_Digit := by
  refine xF mixed [] [] trivial trivial Try.func74 ?_
  rintro a0 out H
  have G := True.intro
  have Y := Try.results74
  simp only [preref1_Digit] at H
  refine xS ?_
  refine xr0 ?_
  refine then_normal ?_
  refine w_cut preref1_Digit_j1 (fun s => [(2, .c (.d (.v (.bool s))))]) (fun s => []) [] out ?_ ?_
  · rcases bsplit H with ⟨hp1, H⟩ | ⟨hp1, H⟩
    · obtain ⟨F, G, hq1⟩ := xH Y G hp1
      refine xR ?_
      exact cut_at H (xK ⟨[], []⟩)
    · obtain ⟨F, G, hq1⟩ := xH Y G hp1
      refine xR ?_
      exact cut_at H (xK ⟨[], []⟩)
  · rintro x1 H
    rw [preref1_Digit_j1] at H
    replace H := Option.some.inj H
    refine xS ?_
    subst H
    exact xN
theorem preref1_Digit_c (a0 : UInt8) (r : Bool) (H : preref1_Digit a0 = some r) : PC pf_preref1_Digit [dU a0] (dB r) := PF.c (a := a0) H
noncomputable def preref1_Number_j1 (a0 : List UInt8) : Int → Option (List UInt8)
  | x1 => if (0 : Int) ≤ 0 ∧ 0 ≤ x1 ∧ x1 ≤ (a0.length : Int) then some (List.take x1.toNat a0) else none
noncomputable def preref1_Number_j4 (a0 : List UInt8) (x2 : Int) : Bool → Option (Int ⊕ (List UInt8))
  | x5 => if x5 = true then inrO (preref1_Number_j1 a0 x2) else some (.inl (IntKind.i64.wrap (x2 + 1)))
noncomputable def preref1_Number_j3 (a0 : List UInt8) (x2 : Int) : (UInt8 × Bool) → Option (Int ⊕ (List UInt8))
  | (x3, x4) => if (!x4) = true then if (!eqI (x3.toNat : Int) 46) = true then (preref1_Letter x3).bind fun r1 => if (!r1) = true then (preref1_Digit x3).bind fun r2 => preref1_Number_j4 a0 x2 (!r2) else preref1_Number_j4 a0 x2 false else preref1_Number_j4 a0 x2 false else preref1_Number_j4 a0 x2 false
noncomputable def preref1_Number_b2 (a0 : List UInt8) : Int → Option (Int ⊕ (List UInt8))
  | x2 => if (ltI x2 (a0.length : Int)) = true then if (0 : Int) ≤ x2 ∧ x2.toNat < a0.length then if (eqI ((a0.getD x2.toNat 0).toNat : Int) 43) = true then if (ltI 0 x2) = true then if (0 : Int) ≤ (IntKind.i64.wrap (x2 - 1)) ∧ (IntKind.i64.wrap (x2 - 1)).toNat < a0.length then if (eqI ((a0.getD ((IntKind.i64.wrap (x2 - 1)).toNat) 0).toNat : Int) 101) = true then preref1_Number_j3 a0 x2 ((a0.getD x2.toNat 0), true) else if (0 : Int) ≤ (IntKind.i64.wrap (x2 - 1)) ∧ (IntKind.i64.wrap (x2 - 1)).toNat < a0.length then preref1_Number_j3 a0 x2 ((a0.getD x2.toNat 0), eqI ((a0.getD ((IntKind.i64.wrap (x2 - 1)).toNat) 0).toNat : Int) 69) else none else none else preref1_Number_j3 a0 x2 ((a0.getD x2.toNat 0), false) else if (eqI ((a0.getD x2.toNat 0).toNat : Int) 45) = true then if (ltI 0 x2) = true then if (0 : Int) ≤ (IntKind.i64.wrap (x2 - 1)) ∧ (IntKind.i64.wrap (x2 - 1)).toNat < a0.length then if (eqI ((a0.getD ((IntKind.i64.wrap (x2 - 1)).toNat) 0).toNat : Int) 101) = true then preref1_Number_j3 a0 x2 ((a0.getD x2.toNat 0), true) else if (0 : Int) ≤ (IntKind.i64.wrap (x2 - 1)) ∧ (IntKind.i64.wrap (x2 - 1)).toNat < a0.length then preref1_Number_j3 a0 x2 ((a0.getD x2.toNat 0), eqI ((a0.getD ((IntKind.i64.wrap (x2 - 1)).toNat) 0).toNat : Int) 69) else none else none else preref1_Number_j3 a0 x2 ((a0.getD x2.toNat 0), false) else preref1_Number_j3 a0 x2 ((a0.getD x2.toNat 0), false) else none else inrO (preref1_Number_j1 a0 x2)
noncomputable def preref1_Number (a0 : List UInt8) : Option (List UInt8) :=
  loopO (preref1_Number_b2 a0) 0
noncomputable def pf_preref1_Number : PF := PF.of (E1 dS) (fun a => preref1_Number a) dS
set_option maxRecDepth 100000 in
set_option maxHeartbeats 4000000 in
theorem preref1_Number_ok : PureOk Try.prog 75 pf_preref1_Number := by
  refine xF mixed [(73, pf_preref1_Letter), (74, pf_preref1_Digit)] [] ⟨⟨call_73, preref1_Letter_ok⟩, ⟨call_74, preref1_Digit_ok⟩, trivial⟩ trivial Try.func75 ?_
  rintro a0 out H
  have G := True.intro
  have Y := xZ y_9 <| Try.results75
  simp only [preref1_Number] at H
  refine xS ?_
  refine xr ?_
  refine xr0 ?_
  refine then_normal ?_
  refine w_cut (preref1_Number_j1 a0) (fun s => [(0, .c (.d (.v (str a0)))), (3, .c (.d (.v (.int .i64 s))))]) (fun s => []) [] out ?_ ?_
  · refine xS ?_
    refine w_loop (preref1_Number_b2 a0) (fun s => [(0, .c (.d (.v (str a0)))), (3, .c (.d (.v (.int .i64 s))))]) (fun s => []) [] H (xK ⟨[], []⟩) ?_
    rintro n1 x2 o1 H hF1
    rw [preref1_Number_b2] at H
    refine xS ?_
    refine xr ?_
    rcases bsplit H with ⟨hp1, H⟩ | ⟨hp1, H⟩
    · obtain ⟨F, G, hq1⟩ := xH Y G hp1
      refine xT ?_
      obtain ⟨hg2, H⟩ := gsplit H
      refine xr0 ?_
      refine then_normal ?_
      refine w_cut (preref1_Number_j3 a0 x2) (fun s => [(0, .c (.d (.v (str a0)))), (3, .c (.d (.v (.int .i64 x2)))), (4, .c (.d (.v (.int .u8 (s.1.toNat : Int))))), (5, .c (.d (.v (.bool s.2))))]) (fun s => []) [] o1 ?_ ?_
      · rcases bsplit H with ⟨hp6, H⟩ | ⟨hp6, H⟩
        · obtain ⟨F, G, hq6⟩ := xH Y G hp6
          rcases bsplit H with ⟨hp7, H⟩ | ⟨hp7, H⟩
          · obtain ⟨F, G, hq7⟩ := xH F G hp7
            obtain ⟨hg3, H⟩ := gsplit H
            rcases bsplit H with ⟨hp8, H⟩ | ⟨hp8, H⟩
            · obtain ⟨F, G, hq8⟩ := xH F G hp8
              refine xR ?_
              exact cut_at H (xK ⟨[], []⟩)
            · obtain ⟨F, G, hq8⟩ := xH F G hp8
              obtain ⟨hg4, H⟩ := gsplit H
              refine xR ?_
              exact cut_at H (xK ⟨[], []⟩)
          · obtain ⟨F, G, hq7⟩ := xH F G hp7
            refine xR ?_
            exact cut_at H (xK ⟨[], []⟩)
        · obtain ⟨F, G, hq6⟩ := xH Y G hp6
          rcases bsplit H with ⟨hp9, H⟩ | ⟨hp9, H⟩
          · obtain ⟨F, G, hq9⟩ := xH F G hp9
            rcases bsplit H with ⟨hp10, H⟩ | ⟨hp10, H⟩
            · obtain ⟨F, G, hq10⟩ := xH F G hp10
              obtain ⟨hg5, H⟩ := gsplit H
              rcases bsplit H with ⟨hp11, H⟩ | ⟨hp11, H⟩
              · obtain ⟨F, G, hq11⟩ := xH F G hp11
                refine xR ?_
                exact cut_at H (xK ⟨[], []⟩)
              · obtain ⟨F, G, hq11⟩ := xH F G hp11
                obtain ⟨hg6, H⟩ := gsplit H
                refine xR ?_
                exact cut_at H (xK ⟨[], []⟩)
            · obtain ⟨F, G, hq10⟩ := xH F G hp10
              refine xR ?_
              exact cut_at H (xK ⟨[], []⟩)
          · obtain ⟨F, G, hq9⟩ := xH F G hp9
            refine xR ?_
            exact cut_at H (xK ⟨[], []⟩)
      · rintro ⟨x3, x4⟩ H
        rw [preref1_Number_j3] at H
        refine w_seq ?_
        refine w_cut (preref1_Number_j4 a0 x2) (fun s => [(0, .c (.d (.v (str a0)))), (3, .c (.d (.v (.int .i64 x2)))), (52, .c (.d (.v (.bool s))))]) (fun s => []) [] o1 ?_ ?_
        · rcases bsplit H with ⟨hp3, H⟩ | ⟨hp3, H⟩
          · obtain ⟨F, G, hq3⟩ := xH Y G hp3
            rcases bsplit H with ⟨hp4, H⟩ | ⟨hp4, H⟩
            · obtain ⟨F, G, hq4⟩ := xH F G hp4
              obtain ⟨r1, hr1, H⟩ := osplit H
              have F := xCf F (preref1_Letter_c x3 r1 hr1)
              rcases bsplit H with ⟨hp5, H⟩ | ⟨hp5, H⟩
              · obtain ⟨F, G, hq5⟩ := xH F G hp5
                obtain ⟨r2, hr2, H⟩ := osplit H
                have F := xCf F (preref1_Digit_c x3 r2 hr2)
                refine xR ?_
                exact cut_at H (xK ⟨[], []⟩)
              · obtain ⟨F, G, hq5⟩ := xH F G hp5
                refine xR ?_
                exact cut_at H (xK ⟨[], []⟩)
            · obtain ⟨F, G, hq4⟩ := xH F G hp4
              refine xR ?_
              exact cut_at H (xK ⟨[], []⟩)
          · obtain ⟨F, G, hq3⟩ := xH Y G hp3
            refine xR ?_
            exact cut_at H (xK ⟨[], []⟩)
        · rintro x5 H
          rw [preref1_Number_j4] at H
          rcases bsplit H with ⟨hp2, H⟩ | ⟨hp2, H⟩
          · obtain ⟨F, G, hq2⟩ := xH Y G hp2
            replace H := inrO_fin H hF1
            refine xT ?_
            exact cut_at H (xK ⟨[], []⟩)
          · obtain ⟨F, G, hq2⟩ := xH Y G hp2
            refine xE ?_
            refine xr ?_
            exact round_at (inl_fin H hF1) (xK ⟨[], []⟩)
    · obtain ⟨F, G, hq1⟩ := xH Y G hp1
      replace H := inrO_fin H hF1
      refine xE ?_
      exact cut_at H (xK ⟨[], []⟩)
  · rintro x1 H
    rw [preref1_Number_j1] at H
    refine xS ?_
    obtain ⟨hg1, H⟩ := gsplit H
    replace H := Option.some.inj H
    refine xr ?_
    subst H
    exact xN
theorem preref1_Number_c (a0 : List UInt8) (r : (List UInt8)) (H : preref1_Number a0 = some r) : PC pf_preref1_Number [dS a0] (dS r) := PF.c (a := a0) H
noncomputable def preref1_Quoted_j2 : Int → Option (Int ⊕ (List UInt8))
  | x2 => some (.inl (IntKind.i64.wrap (x2 + 1)))
noncomputable def preref1_Quoted_j3 (x1 : Int) : Bool → Option (Int ⊕ (List UInt8))
  | x3 => if x3 = true then preref1_Quoted_j2 (IntKind.i64.wrap (x1 + 1)) else preref1_Quoted_j2 x1
noncomputable def preref1_Quoted_b1 (a0 : List UInt8) : Int → Option (Int ⊕ (List UInt8))
  | x1 => if (ltI x1 (a0.length : Int)) = true then if (0 : Int) ≤ x1 ∧ x1.toNat < a0.length then if (eqI ((a0.getD x1.toNat 0).toNat : Int) 10) = true then inrO (some []) else if (0 : Int) ≤ x1 ∧ x1.toNat < a0.length then if 0 < a0.length then if (eqI ((a0.getD x1.toNat 0).toNat : Int) ((a0.getD 0 0).toNat : Int)) = true then if (0 : Int) ≤ 0 ∧ 0 ≤ (IntKind.i64.wrap (x1 + 1)) ∧ (IntKind.i64.wrap (x1 + 1)) ≤ (a0.length : Int) then inrO (some (List.take ((IntKind.i64.wrap (x1 + 1)).toNat) a0)) else none else if (0 : Int) ≤ x1 ∧ x1.toNat < a0.length then if (eqI ((a0.getD x1.toNat 0).toNat : Int) 92) = true then if (ltI (IntKind.i64.wrap (x1 + 1)) (a0.length : Int)) = true then if (0 : Int) ≤ (IntKind.i64.wrap (x1 + 1)) ∧ (IntKind.i64.wrap (x1 + 1)).toNat < a0.length then preref1_Quoted_j3 x1 (!eqI ((a0.getD ((IntKind.i64.wrap (x1 + 1)).toNat) 0).toNat : Int) 10) else none else preref1_Quoted_j3 x1 false else preref1_Quoted_j3 x1 false else none else none else none else none else inrO (some [])
noncomputable def preref1_Quoted (a0 : List UInt8) : Option (List UInt8) :=
  loopO (preref1_Quoted_b1 a0) 1
noncomputable def pf_preref1_Quoted : PF := PF.of (E1 dS) (fun a => preref1_Quoted a) dS
set_option maxRecDepth 100000 in
set_option maxHeartbeats 4000000 in
theorem preref1_Quoted_ok : PureOk Try.prog 76 pf_preref1_Quoted := by
  refine xF mixed [] [] trivial trivial Try.func76 ?_
  rintro a0 out H
  have G := True.intro
  have Y := xZ y_9 <| Try.results76
  simp only [preref1_Quoted] at H
  refine xS ?_
  refine xr ?_
  refine xr ?_
  refine w_loop (preref1_Quoted_b1 a0) (fun s => [(0, .c (.d (.v (str a0)))), (3, .c (.d (.v (.int .i64 s))))]) (fun s => []) [] H (xK ⟨[], []⟩) ?_
  rintro n1 x1 o1 H hF1
  rw [preref1_Quoted_b1] at H
  refine xS ?_
  refine xr ?_
  rcases bsplit H with ⟨hp1, H⟩ | ⟨hp1, H⟩
  · obtain ⟨F, G, hq1⟩ := xH Y G hp1
    refine xT0 ?_
    refine w_skip ?_
    refine then_normal ?_
    refine w_cut preref1_Quoted_j2 (fun s => [(0, .c (.d (.v (str a0)))), (3, .c (.d (.v (.int .i64 s))))]) (fun s => []) [] o1 ?_ ?_
    · refine xS ?_
      obtain ⟨hg1, H⟩ := gsplit H
      refine xr ?_
      rcases bsplit H with ⟨hp2, H⟩ | ⟨hp2, H⟩
      · obtain ⟨F, G, hq2⟩ := xH Y G hp2
        refine xT ?_
        replace H := inrO_fin H hF1
        replace H := Option.some.inj H
        refine xr ?_
        subst H
        exact xN
      · obtain ⟨F, G, hq2⟩ := xH Y G hp2
        refine xE ?_
        obtain ⟨hg2, H⟩ := gsplit H
        obtain ⟨hg3, H⟩ := gsplit H
        refine xr ?_
        rcases bsplit H with ⟨hp3, H⟩ | ⟨hp3, H⟩
        · obtain ⟨F, G, hq3⟩ := xH Y G hp3
          refine xT ?_
          obtain ⟨hg4, H⟩ := gsplit H
          replace H := inrO_fin H hF1
          replace H := Option.some.inj H
          refine xr ?_
          subst H
          exact xN
        · obtain ⟨F, G, hq3⟩ := xH Y G hp3
          refine xE0 ?_
          refine w_skip ?_
          refine then_normal ?_
          refine w_cut (preref1_Quoted_j3 x1) (fun s => [(0, .c (.d (.v (str a0)))), (3, .c (.d (.v (.int .i64 x1)))), (41, .c (.d (.v (.bool s))))]) (fun s => []) [] o1 ?_ ?_
          · obtain ⟨hg5, H⟩ := gsplit H
            rcases bsplit H with ⟨hp5, H⟩ | ⟨hp5, H⟩
            · obtain ⟨F, G, hq5⟩ := xH Y G hp5
              rcases bsplit H with ⟨hp6, H⟩ | ⟨hp6, H⟩
              · obtain ⟨F, G, hq6⟩ := xH F G hp6
                obtain ⟨hg6, H⟩ := gsplit H
                refine xR ?_
                exact cut_at H (xK ⟨[], []⟩)
              · obtain ⟨F, G, hq6⟩ := xH F G hp6
                refine xR ?_
                exact cut_at H (xK ⟨[], []⟩)
            · obtain ⟨F, G, hq5⟩ := xH Y G hp5
              refine xR ?_
              exact cut_at H (xK ⟨[], []⟩)
          · rintro x3 H
            rw [preref1_Quoted_j3] at H
            rcases bsplit H with ⟨hp4, H⟩ | ⟨hp4, H⟩
            · obtain ⟨F, G, hq4⟩ := xH Y G hp4
              refine xT ?_
              refine xr ?_
              exact cut_at H (xK ⟨[], []⟩)
            · obtain ⟨F, G, hq4⟩ := xH Y G hp4
              refine xE ?_
              exact cut_at H (xK ⟨[], []⟩)
    · rintro x2 H
      rw [preref1_Quoted_j2] at H
      refine xr ?_
      exact round_at (inl_fin H hF1) (xK ⟨[], []⟩)
  · obtain ⟨F, G, hq1⟩ := xH Y G hp1
    replace H := inrO_fin H hF1
    refine xE ?_
    replace H := Option.some.inj H
    refine xr ?_
    subst H
    exact xN
theorem preref1_Quoted_c (a0 : List UInt8) (r : (List UInt8)) (H : preref1_Quoted a0 = some r) : PC pf_preref1_Quoted [dS a0] (dS r) := PF.c (a := a0) H
noncomputable def preref1_Signs  : Option (List (List UInt8)) :=
  some [[46, 46, 46], [60, 60, 61], [62, 62, 61], [45, 62], [43, 43], [45, 45], [60, 60], [62, 62], [60, 61], [62, 61], [61, 61], [33, 61], [38, 38], [124, 124], [43, 61], [45, 61], [42, 61], [47, 61], [37, 61], [38, 61], [124, 61], [94, 61], [35, 35], [91], [93], [40], [41], [123], [125], [46], [38], [42], [43], [45], [126], [33], [47], [37], [60], [62], [94], [124], [63], [58], [59], [61], [44], [35]]
noncomputable def pf_preref1_Signs : PF := PF.of E0 (fun _ => preref1_Signs) (dL 1 dS)
set_option maxRecDepth 100000 in
set_option maxHeartbeats 4000000 in
theorem preref1_Signs_ok : PureOk Try.prog 94 pf_preref1_Signs := by
  refine xF mixed [] [] trivial trivial Try.func94 ?_
  rintro _ out H
  have G := True.intro
  have Y := xZ y_9 <| xZ y_28 <| Try.results94
  simp only [preref1_Signs] at H
  refine xS ?_
  refine xr ?_
  replace H := Option.some.inj H
  refine xr ?_
  subst H
  exact xN
theorem preref1_Signs_c  (r : (List (List UInt8))) (H : preref1_Signs  = some r) : PC pf_preref1_Signs [] ((dL 1 dS) r) := PF.c (a := ()) H
noncomputable def preref1_Sign_j4 (x5 : Int) (x6 : Int) : (List UInt8) → Option (((List UInt8) × Int × Int) ⊕ (((List UInt8) × Int) ⊕ (List UInt8)))
  | x7 => some (.inl (x7, x5, IntKind.i64.wrap (x6 + 1)))
noncomputable def preref1_Sign_b3 (a0 : List UInt8) (x2 : Int) (r1 : (List (List UInt8))) : ((List UInt8) × Int × Int) → Option (((List UInt8) × Int × Int) ⊕ (((List UInt8) × Int) ⊕ (List UInt8)))
  | (x4, x5, x6) => if (ltI x6 x5) = true then if (0 : Int) ≤ x6 ∧ x6.toNat < r1.length then if (0 : Int) ≤ 0 ∧ 0 ≤ x2 ∧ x2 ≤ (a0.length : Int) then if (eqS (r1.getD x6.toNat default) (List.take x2.toNat a0)) = true then preref1_Sign_j4 x5 x6 (r1.getD x6.toNat default) else preref1_Sign_j4 x5 x6 x4 else none else none else inrO (some (.inl (x4, IntKind.i64.wrap (x2 + 1))))
noncomputable def preref1_Sign_j2 (a0 : List UInt8) (x1 : List UInt8) (x2 : Int) : Bool → Option (((List UInt8) × Int) ⊕ (List UInt8))
  | x3 => if x3 = true then (preref1_Signs).bind fun r1 => loopO (preref1_Sign_b3 a0 x2 r1) (x1, (r1.length : Int), 0) else inrO (some x1)
noncomputable def preref1_Sign_b1 (a0 : List UInt8) : ((List UInt8) × Int) → Option (((List UInt8) × Int) ⊕ (List UInt8))
  | (x1, x2) => if (leI x2 3) = true then preref1_Sign_j2 a0 x1 x2 (leI x2 (a0.length : Int)) else preref1_Sign_j2 a0 x1 x2 false
noncomputable def preref1_Sign (a0 : List UInt8) : Option (List UInt8) :=
  loopO (preref1_Sign_b1 a0) ([], 1)
noncomputable def pf_preref1_Sign : PF := PF.of (E1 dS) (fun a => preref1_Sign a) dS
set_option maxRecDepth 100000 in
set_option maxHeartbeats 4000000 in
theorem preref1_Sign_ok : PureOk Try.prog 77 pf_preref1_Sign := by
  refine xF mixed [(94, pf_preref1_Signs)] [] ⟨⟨call_94, preref1_Signs_ok⟩, trivial⟩ trivial Try.func77 ?_
  rintro a0 out H
  have G := True.intro
  have Y := xZ y_9 <| xZ y_28 <| Try.results77
  simp only [preref1_Sign] at H
  refine xS ?_
  refine xr ?_
  refine xr ?_
  refine xr ?_
  refine w_loop (preref1_Sign_b1 a0) (fun s => [(0, .c (.d (.v (str a0)))), (3, .c (.d (.v (str s.1)))), (4, .c (.d (.v (.int .i64 s.2))))]) (fun s => []) [] H (xK ⟨[], []⟩) ?_
  rintro n1 ⟨x1, x2⟩ o1 H hF1
  rw [preref1_Sign_b1] at H
  refine w_seq ?_
  refine w_cut (preref1_Sign_j2 a0 x1 x2) (fun s => [(0, .c (.d (.v (str a0)))), (3, .c (.d (.v (str x1)))), (4, .c (.d (.v (.int .i64 x2)))), (14, .c (.d (.v (.bool s))))]) (fun s => []) [] o1 ?_ ?_
  · rcases bsplit H with ⟨hp4, H⟩ | ⟨hp4, H⟩
    · obtain ⟨F, G, hq4⟩ := xH Y G hp4
      refine xR ?_
      exact cut_at H (xK ⟨[], []⟩)
    · obtain ⟨F, G, hq4⟩ := xH Y G hp4
      refine xR ?_
      exact cut_at H (xK ⟨[], []⟩)
  · rintro x3 H
    rw [preref1_Sign_j2] at H
    rcases bsplit H with ⟨hp1, H⟩ | ⟨hp1, H⟩
    · obtain ⟨F, G, hq1⟩ := xH Y G hp1
      refine xT ?_
      obtain ⟨r1, hr1, H⟩ := osplit H
      have F := xC Y (preref1_Signs_c  r1 hr1)
      refine xR ?_
      refine w_loop (preref1_Sign_b3 a0 x2 r1) (fun s => [(0, .c (.d (.v (str a0)))), (3, .c (.d (.v (str s.1)))), (4, .c (.d (.v (.int .i64 x2)))), (17, .c (.d (.sl 1 (List.map dS r1)))), (18, .c (.d (.v (.int .i64 s.2.1)))), (19, .c (.d (.v (.int .i64 s.2.2))))]) (fun s => []) [] H (xK ⟨[], []⟩) ?_
      rintro n2 ⟨x4, x5, x6⟩ o2 H hF2
      rw [preref1_Sign_b3] at H
      refine xS ?_
      refine xr ?_
      rcases bsplit H with ⟨hp2, H⟩ | ⟨hp2, H⟩
      · obtain ⟨F, G, hq2⟩ := xH Y G hp2
        refine xT0 ?_
        refine w_skip ?_
        refine then_normal ?_
        refine w_cut (preref1_Sign_j4 x5 x6) (fun s => [(0, .c (.d (.v (str a0)))), (3, .c (.d (.v (str s)))), (4, .c (.d (.v (.int .i64 x2)))), (17, .c (.d (.sl 1 (List.map dS r1)))), (18, .c (.d (.v (.int .i64 x5)))), (19, .c (.d (.v (.int .i64 x6))))]) (fun s => []) [] o2 ?_ ?_
        · refine xS ?_
          obtain ⟨hg1, H⟩ := gsplit H
          have F := xZ Y (map_getD dS r1 x6.toNat default default (by omega))
          refine xR ?_
          obtain ⟨hg2, H⟩ := gsplit H
          refine xr ?_
          rcases bsplit H with ⟨hp3, H⟩ | ⟨hp3, H⟩
          · obtain ⟨F, G, hq3⟩ := xH Y G hp3
            refine xT ?_
            refine xr ?_
            exact cut_at H (xK ⟨[], []⟩)
          · obtain ⟨F, G, hq3⟩ := xH Y G hp3
            refine xE ?_
            exact cut_at H (xK ⟨[], []⟩)
        · rintro x7 H
          rw [preref1_Sign_j4] at H
          refine xr ?_
          exact round_at (inl_fin H hF2) (xK ⟨[], []⟩)
      · obtain ⟨F, G, hq2⟩ := xH Y G hp2
        replace H := inrO_fin H hF2
        refine xE ?_
        refine xr ?_
        exact round_at (inl_fin H hF1) (xK ⟨[], []⟩)
    · obtain ⟨F, G, hq1⟩ := xH Y G hp1
      replace H := inrO_fin H hF1
      refine xE ?_
      replace H := Option.some.inj H
      refine xr ?_
      subst H
      exact xN
theorem preref1_Sign_c (a0 : List UInt8) (r : (List UInt8)) (H : preref1_Sign a0 = some r) : PC pf_preref1_Sign [dS a0] (dS r) := PF.c (a := a0) H
noncomputable def preref1_Piece_j1 (a0 : List UInt8) : Unit → Option (Int × (List UInt8))
  | () => (preref1_Sign a0).bind fun r1 => if (!eqS r1 []) = true then some (5, r1) else if (0 : Int) ≤ 0 ∧ 0 ≤ 1 ∧ 1 ≤ (a0.length : Int) then some (6, List.take 1 a0) else none
noncomputable def preref1_Piece_j3 (a0 : List UInt8) (x1 : Int) : Bool → Option (Int ⊕ (Int × (List UInt8)))
  | x2 => if x2 = true then some (.inl (IntKind.i64.wrap (x1 + 1))) else inrO (if (0 : Int) ≤ 0 ∧ 0 ≤ x1 ∧ x1 ≤ (a0.length : Int) then some (1, List.take x1.toNat a0) else none)
noncomputable def preref1_Piece_b2 (a0 : List UInt8) : Int → Option (Int ⊕ (Int × (List UInt8)))
  | x1 => if (ltI x1 (a0.length : Int)) = true then if (0 : Int) ≤ x1 ∧ x1.toNat < a0.length then (preref1_Letter (a0.getD x1.toNat 0)).bind fun r3 => if r3 = true then preref1_Piece_j3 a0 x1 true else if (0 : Int) ≤ x1 ∧ x1.toNat < a0.length then (preref1_Digit (a0.getD x1.toNat 0)).bind fun r4 => preref1_Piece_j3 a0 x1 r4 else none else none else preref1_Piece_j3 a0 x1 false
noncomputable def preref1_Piece_j7 (a0 : List UInt8) (x6 : Int) : Bool → Option (Int ⊕ (Int × (List UInt8)))
  | x7 => if x7 = true then if (0 : Int) ≤ x6 ∧ x6.toNat < a0.length then if (eqI ((a0.getD x6.toNat 0).toNat : Int) 62) = true then if (0 : Int) ≤ 0 ∧ 0 ≤ (IntKind.i64.wrap (x6 + 1)) ∧ (IntKind.i64.wrap (x6 + 1)) ≤ (a0.length : Int) then inrO (some (7, List.take ((IntKind.i64.wrap (x6 + 1)).toNat) a0)) else none else some (.inl (IntKind.i64.wrap (x6 + 1))) else none else inrO (preref1_Piece_j1 a0 ())
noncomputable def preref1_Piece_b6 (a0 : List UInt8) : Int → Option (Int ⊕ (Int × (List UInt8)))
  | x6 => if (ltI x6 (a0.length : Int)) = true then if (0 : Int) ≤ x6 ∧ x6.toNat < a0.length then preref1_Piece_j7 a0 x6 (!eqI ((a0.getD x6.toNat 0).toNat : Int) 10) else none else preref1_Piece_j7 a0 x6 false
noncomputable def preref1_Piece_j5 (a0 : List UInt8) : Bool → Option (Int × (List UInt8))
  | x5 => if x5 = true then loopO (preref1_Piece_b6 a0) 1 else preref1_Piece_j1 a0 ()
noncomputable def preref1_Piece_j4 (a0 : List UInt8) (a1 : Bool) : (UInt8 × Bool) → Option (Int × (List UInt8))
  | (x3, x4) => if x4 = true then (preref1_Number a0).bind fun r5 => some (2, r5) else if (eqI (x3.toNat : Int) 34) = true then (preref1_Quoted a0).bind fun r6 => some (4, r6) else if (eqI (x3.toNat : Int) 39) = true then (preref1_Quoted a0).bind fun r7 => some (3, r7) else if (eqI (x3.toNat : Int) 60) = true then preref1_Piece_j5 a0 a1 else preref1_Piece_j5 a0 false
noncomputable def preref1_Piece (a0 : List UInt8) (a1 : Bool) : Option (Int × (List UInt8)) :=
  if 0 < a0.length then (preref1_Letter (a0.getD 0 0)).bind fun r2 => if r2 = true then loopO (preref1_Piece_b2 a0) 0 else (preref1_Digit (a0.getD 0 0)).bind fun r8 => if r8 = true then preref1_Piece_j4 a0 a1 ((a0.getD 0 0), true) else if (eqI ((a0.getD 0 0).toNat : Int) 46) = true then if (ltI 1 (a0.length : Int)) = true then if 1 < a0.length then (preref1_Digit (a0.getD 1 0)).bind fun r9 => preref1_Piece_j4 a0 a1 ((a0.getD 0 0), r9) else none else preref1_Piece_j4 a0 a1 ((a0.getD 0 0), false) else preref1_Piece_j4 a0 a1 ((a0.getD 0 0), false) else none
noncomputable def pf_preref1_Piece : PF := PF.of (E2 dS dB) (fun a => preref1_Piece a.1 a.2) (T2 dI dS)
set_option maxRecDepth 100000 in
set_option maxHeartbeats 4000000 in
theorem preref1_Piece_ok : PureOk Try.prog 59 pf_preref1_Piece := by
  refine xF mixed [(77, pf_preref1_Sign), (73, pf_preref1_Letter), (74, pf_preref1_Digit), (75, pf_preref1_Number), (76, pf_preref1_Quoted)] [] ⟨⟨call_77, preref1_Sign_ok⟩, ⟨call_73, preref1_Letter_ok⟩, ⟨call_74, preref1_Digit_ok⟩, ⟨call_75, preref1_Number_ok⟩, ⟨call_76, preref1_Quoted_ok⟩, trivial⟩ trivial Try.func59 ?_
  rintro ⟨a0, a1⟩ out H
  have G := True.intro
  have Y := xZ y_9 <| Try.results59
  simp only [preref1_Piece] at H
  refine xS ?_
  refine xr0 ?_
  refine then_normal ?_
  refine w_cut (preref1_Piece_j1 a0) (fun s => [(0, .c (.d (.v (str a0))))]) (fun s => []) [] out ?_ ?_
  · refine xS ?_
    obtain ⟨hg2, H⟩ := gsplit H
    refine xr ?_
    obtain ⟨r2, hr2, H⟩ := osplit H
    have F := xC Y (preref1_Letter_c (a0.getD 0 0) r2 hr2)
    refine xR ?_
    rcases bsplit H with ⟨hp2, H⟩ | ⟨hp2, H⟩
    · obtain ⟨F, G, hq2⟩ := xH Y G hp2
      refine xT ?_
      refine xr ?_
      refine w_loop (preref1_Piece_b2 a0) (fun s => [(0, .c (.d (.v (str a0)))), (7, .c (.d (.v (.int .i64 s))))]) (fun s => []) [] H (xK ⟨[], []⟩) ?_
      rintro n1 x1 o1 H hF1
      rw [preref1_Piece_b2] at H
      refine w_seq ?_
      refine w_cut (preref1_Piece_j3 a0 x1) (fun s => [(0, .c (.d (.v (str a0)))), (7, .c (.d (.v (.int .i64 x1)))), (30, .c (.d (.v (.bool s))))]) (fun s => []) [] o1 ?_ ?_
      · rcases bsplit H with ⟨hp4, H⟩ | ⟨hp4, H⟩
        · obtain ⟨F, G, hq4⟩ := xH Y G hp4
          obtain ⟨hg4, H⟩ := gsplit H
          obtain ⟨r3, hr3, H⟩ := osplit H
          have F := xCf F (preref1_Letter_c (a0.getD x1.toNat 0) r3 hr3)
          rcases bsplit H with ⟨hp5, H⟩ | ⟨hp5, H⟩
          · obtain ⟨F, G, hq5⟩ := xH F G hp5
            refine xR ?_
            exact cut_at H (xK ⟨[], []⟩)
          · obtain ⟨F, G, hq5⟩ := xH F G hp5
            obtain ⟨hg5, H⟩ := gsplit H
            obtain ⟨r4, hr4, H⟩ := osplit H
            have F := xCf F (preref1_Digit_c (a0.getD x1.toNat 0) r4 hr4)
            refine xR ?_
            exact cut_at H (xK ⟨[], []⟩)
        · obtain ⟨F, G, hq4⟩ := xH Y G hp4
          refine xR ?_
          exact cut_at H (xK ⟨[], []⟩)
      · rintro x2 H
        rw [preref1_Piece_j3] at H
        rcases bsplit H with ⟨hp3, H⟩ | ⟨hp3, H⟩
        · obtain ⟨F, G, hq3⟩ := xH Y G hp3
          refine xT ?_
          refine xr ?_
          exact round_at (inl_fin H hF1) (xK ⟨[], []⟩)
        · obtain ⟨F, G, hq3⟩ := xH Y G hp3
          replace H := inrO_fin H hF1
          refine xE ?_
          obtain ⟨hg3, H⟩ := gsplit H
          replace H := Option.some.inj H
          refine xr ?_
          subst H
          exact xN
    · obtain ⟨F, G, hq2⟩ := xH Y G hp2
      refine xE0 ?_
      refine w_cut (preref1_Piece_j4 a0 a1) (fun s => [(0, .c (.d (.v (str a0)))), (1, .c (.d (.v (.bool a1)))), (6, .c (.d (.v (.int .u8 (s.1.toNat : Int))))), (36, .c (.d (.v (.bool s.2))))]) (fun s => []) [] out ?_ ?_
      · obtain ⟨r8, hr8, H⟩ := osplit H
        have F := xC Y (preref1_Digit_c (a0.getD 0 0) r8 hr8)
        rcases bsplit H with ⟨hp14, H⟩ | ⟨hp14, H⟩
        · obtain ⟨F, G, hq14⟩ := xH F G hp14
          refine xR ?_
          exact cut_at H (xK ⟨[], []⟩)
        · obtain ⟨F, G, hq14⟩ := xH F G hp14
          rcases bsplit H with ⟨hp15, H⟩ | ⟨hp15, H⟩
          · obtain ⟨F, G, hq15⟩ := xH F G hp15
            rcases bsplit H with ⟨hp16, H⟩ | ⟨hp16, H⟩
            · obtain ⟨F, G, hq16⟩ := xH F G hp16
              obtain ⟨hg9, H⟩ := gsplit H
              obtain ⟨r9, hr9, H⟩ := osplit H
              have F := xCf F (preref1_Digit_c (a0.getD 1 0) r9 hr9)
              refine xR ?_
              exact cut_at H (xK ⟨[], []⟩)
            · obtain ⟨F, G, hq16⟩ := xH F G hp16
              refine xR ?_
              exact cut_at H (xK ⟨[], []⟩)
          · obtain ⟨F, G, hq15⟩ := xH F G hp15
            refine xR ?_
            exact cut_at H (xK ⟨[], []⟩)
      · rintro ⟨x3, x4⟩ H
        rw [preref1_Piece_j4] at H
        rcases bsplit H with ⟨hp6, H⟩ | ⟨hp6, H⟩
        · obtain ⟨F, G, hq6⟩ := xH Y G hp6
          refine xT ?_
          obtain ⟨r5, hr5, H⟩ := osplit H
          have F := xC Y (preref1_Number_c a0 r5 hr5)
          replace H := Option.some.inj H
          refine xR ?_
          subst H
          exact xN
        · obtain ⟨F, G, hq6⟩ := xH Y G hp6
          refine xE ?_
          refine xr ?_
          rcases bsplit H with ⟨hp7, H⟩ | ⟨hp7, H⟩
          · obtain ⟨F, G, hq7⟩ := xH Y G hp7
            refine xT ?_
            obtain ⟨r6, hr6, H⟩ := osplit H
            have F := xC Y (preref1_Quoted_c a0 r6 hr6)
            replace H := Option.some.inj H
            refine xR ?_
            subst H
            exact xN
          · obtain ⟨F, G, hq7⟩ := xH Y G hp7
            refine xE ?_
            refine xr ?_
            rcases bsplit H with ⟨hp8, H⟩ | ⟨hp8, H⟩
            · obtain ⟨F, G, hq8⟩ := xH Y G hp8
              refine xT ?_
              obtain ⟨r7, hr7, H⟩ := osplit H
              have F := xC Y (preref1_Quoted_c a0 r7 hr7)
              replace H := Option.some.inj H
              refine xR ?_
              subst H
              exact xN
            · obtain ⟨F, G, hq8⟩ := xH Y G hp8
              refine xE0 ?_
              refine w_cut (preref1_Piece_j5 a0) (fun s => [(0, .c (.d (.v (str a0)))), (65, .c (.d (.v (.bool s))))]) (fun s => []) [] out ?_ ?_
              · rcases bsplit H with ⟨hp13, H⟩ | ⟨hp13, H⟩
                · obtain ⟨F, G, hq13⟩ := xH Y G hp13
                  refine xR ?_
                  exact cut_at H (xK ⟨[], []⟩)
                · obtain ⟨F, G, hq13⟩ := xH Y G hp13
                  refine xR ?_
                  exact cut_at H (xK ⟨[], []⟩)
              · rintro x5 H
                rw [preref1_Piece_j5] at H
                rcases bsplit H with ⟨hp9, H⟩ | ⟨hp9, H⟩
                · obtain ⟨F, G, hq9⟩ := xH Y G hp9
                  refine xT ?_
                  refine xr ?_
                  refine w_loop (preref1_Piece_b6 a0) (fun s => [(0, .c (.d (.v (str a0)))), (8, .c (.d (.v (.int .i64 s))))]) (fun s => []) [] H (xK ⟨[], []⟩) ?_
                  rintro n2 x6 o2 H hF2
                  rw [preref1_Piece_b6] at H
                  refine w_seq ?_
                  refine w_cut (preref1_Piece_j7 a0 x6) (fun s => [(0, .c (.d (.v (str a0)))), (8, .c (.d (.v (.int .i64 x6)))), (80, .c (.d (.v (.bool s))))]) (fun s => []) [] o2 ?_ ?_
                  · rcases bsplit H with ⟨hp12, H⟩ | ⟨hp12, H⟩
                    · obtain ⟨F, G, hq12⟩ := xH Y G hp12
                      obtain ⟨hg8, H⟩ := gsplit H
                      refine xR ?_
                      exact cut_at H (xK ⟨[], []⟩)
                    · obtain ⟨F, G, hq12⟩ := xH Y G hp12
                      refine xR ?_
                      exact cut_at H (xK ⟨[], []⟩)
                  · rintro x7 H
                    rw [preref1_Piece_j7] at H
                    rcases bsplit H with ⟨hp10, H⟩ | ⟨hp10, H⟩
                    · obtain ⟨F, G, hq10⟩ := xH Y G hp10
                      refine xT ?_
                      obtain ⟨hg6, H⟩ := gsplit H
                      refine xr ?_
                      rcases bsplit H with ⟨hp11, H⟩ | ⟨hp11, H⟩
                      · obtain ⟨F, G, hq11⟩ := xH Y G hp11
                        refine xT ?_
                        obtain ⟨hg7, H⟩ := gsplit H
                        replace H := inrO_fin H hF2
                        replace H := Option.some.inj H
                        refine xr ?_
                        subst H
                        exact xN
                      · obtain ⟨F, G, hq11⟩ := xH Y G hp11
                        refine xE ?_
                        refine xr ?_
                        exact round_at (inl_fin H hF2) (xK ⟨[], []⟩)
                    · obtain ⟨F, G, hq10⟩ := xH Y G hp10
                      replace H := inrO_fin H hF2
                      refine xE ?_
                      exact cut_at H (xK ⟨[], []⟩)
                · obtain ⟨F, G, hq9⟩ := xH Y G hp9
                  refine xE ?_
                  exact cut_at H (xK ⟨[], []⟩)
  · rintro ⟨⟩ H
    rw [preref1_Piece_j1] at H
    refine xS ?_
    obtain ⟨r1, hr1, H⟩ := osplit H
    have F := xC Y (preref1_Sign_c a0 r1 hr1)
    refine xR ?_
    refine xr ?_
    rcases bsplit H with ⟨hp1, H⟩ | ⟨hp1, H⟩
    · obtain ⟨F, G, hq1⟩ := xH Y G hp1
      refine xT ?_
      replace H := Option.some.inj H
      refine xr ?_
      subst H
      exact xN
    · obtain ⟨F, G, hq1⟩ := xH Y G hp1
      refine xE ?_
      obtain ⟨hg1, H⟩ := gsplit H
      replace H := Option.some.inj H
      refine xr ?_
      subst H
      exact xN
theorem preref1_Piece_c (a0 : List UInt8) (a1 : Bool) (r : Int × (List UInt8)) (H : preref1_Piece a0 a1 = some r) : PC pf_preref1_Piece [dS a0, dB a1] (T2 dI dS r) := PF.c (a := (a0, a1)) H
noncomputable def preref1_Tokens_j3 (a0 : Int) (a1 : List UInt8) (r1 : Spliced) (x1 : List Token) (r2 : Int × Bool) (x3 : Int) (x4 : Bool) : Bool → Option (((List Token) × Int) ⊕ ((List Token) × Fault))
  | x5 => if (0 : Int) ≤ x3 ∧ x3 ≤ (r1.Text.length : Int) ∧ (r1.Text.length : Int) ≤ (r1.Text.length : Int) then (preref1_Piece (List.drop x3.toNat r1.Text) x5).bind fun r3 => if (eqS r3.2 []) = true then if (0 : Int) ≤ x3 ∧ x3.toNat < r1.At.length then inrO (some (([] : List Token), (⟨9, a0, (r1.At.getD x3.toNat default)⟩ : Fault))) else none else if (0 : Int) ≤ x3 ∧ x3.toNat < r1.At.length then if (0 : Int) ≤ (IntKind.i64.wrap ((IntKind.i64.wrap (x3 + (r3.2.length : Int))) - 1)) ∧ (IntKind.i64.wrap ((IntKind.i64.wrap (x3 + (r3.2.length : Int))) - 1)).toNat < r1.At.length then if (0 : Int) ≤ x3 ∧ x3.toNat < r1.At.length then (preref1_Line a1 (r1.At.getD x3.toNat default)).bind fun r4 => if (x1.length + [(⟨r3.1, r3.2, ltI 0 r2.1, x4, a0, (r1.At.getD x3.toNat default), IntKind.i64.wrap ((r1.At.getD ((IntKind.i64.wrap ((IntKind.i64.wrap (x3 + (r3.2.length : Int))) - 1)).toNat) default) + 1), r4, ([] : List (List UInt8)), ([] : List Call), 0⟩ : Token)].length) * 120 ≤ 140737488355328 then some (.inl (x1 ++ [(⟨r3.1, r3.2, ltI 0 r2.1, x4, a0, (r1.At.getD x3.toNat default), IntKind.i64.wrap ((r1.At.getD ((IntKind.i64.wrap ((IntKind.i64.wrap (x3 + (r3.2.length : Int))) - 1)).toNat) default) + 1), r4, ([] : List (List UInt8)), ([] : List Call), 0⟩ : Token)], IntKind.i64.wrap (x3 + (r3.2.length : Int)))) else none else none else none else none else none
noncomputable def preref1_Tokens_j2 (a0 : Int) (a1 : List UInt8) (r1 : Spliced) (x1 : List Token) (r2 : Int × Bool) : (Int × Bool) → Option (((List Token) × Int) ⊕ ((List Token) × Fault))
  | (x3, x4) => if (!x4) = true then if (leI 2 (x1.length : Int)) = true then if (0 : Int) ≤ (IntKind.i64.wrap ((x1.length : Int) - 1)) ∧ (IntKind.i64.wrap ((x1.length : Int) - 1)).toNat < x1.length then if (eqS ((x1.getD ((IntKind.i64.wrap ((x1.length : Int) - 1)).toNat) default).Text) [105, 110, 99, 108, 117, 100, 101]) = true then if (0 : Int) ≤ (IntKind.i64.wrap ((x1.length : Int) - 1)) ∧ (IntKind.i64.wrap ((x1.length : Int) - 1)).toNat < x1.length then if (!((x1.getD ((IntKind.i64.wrap ((x1.length : Int) - 1)).toNat) default).First)) = true then if (0 : Int) ≤ (IntKind.i64.wrap ((x1.length : Int) - 2)) ∧ (IntKind.i64.wrap ((x1.length : Int) - 2)).toNat < x1.length then if (eqS ((x1.getD ((IntKind.i64.wrap ((x1.length : Int) - 2)).toNat) default).Text) [35]) = true then if (0 : Int) ≤ (IntKind.i64.wrap ((x1.length : Int) - 2)) ∧ (IntKind.i64.wrap ((x1.length : Int) - 2)).toNat < x1.length then preref1_Tokens_j3 a0 a1 r1 x1 r2 x3 x4 ((x1.getD ((IntKind.i64.wrap ((x1.length : Int) - 2)).toNat) default).First) else none else preref1_Tokens_j3 a0 a1 r1 x1 r2 x3 x4 false else none else preref1_Tokens_j3 a0 a1 r1 x1 r2 x3 x4 false else none else preref1_Tokens_j3 a0 a1 r1 x1 r2 x3 x4 false else none else preref1_Tokens_j3 a0 a1 r1 x1 r2 x3 x4 false else preref1_Tokens_j3 a0 a1 r1 x1 r2 x3 x4 false
noncomputable def preref1_Tokens_b1 (a0 : Int) (a1 : List UInt8) (r1 : Spliced) : ((List Token) × Int) → Option (((List Token) × Int) ⊕ ((List Token) × Fault))
  | (x1, x2) => if (0 : Int) ≤ x2 ∧ x2 ≤ (r1.Text.length : Int) ∧ (r1.Text.length : Int) ≤ (r1.Text.length : Int) then (preref1_Skip (List.drop x2.toNat r1.Text)).bind fun r2 => if (ltI r2.1 0) = true then if (0 : Int) ≤ (IntKind.i64.wrap ((IntKind.i64.wrap (x2 - 1)) - r2.1)) ∧ (IntKind.i64.wrap ((IntKind.i64.wrap (x2 - 1)) - r2.1)).toNat < r1.At.length then inrO (some (([] : List Token), (⟨9, a0, (r1.At.getD ((IntKind.i64.wrap ((IntKind.i64.wrap (x2 - 1)) - r2.1)).toNat) default)⟩ : Fault))) else none else if (leI (r1.Text.length : Int) (IntKind.i64.wrap (x2 + r2.1))) = true then inrO (some (x1, (⟨0, (-1), 0⟩ : Fault))) else if r2.2 = true then preref1_Tokens_j2 a0 a1 r1 x1 r2 (IntKind.i64.wrap (x2 + r2.1), true) else preref1_Tokens_j2 a0 a1 r1 x1 r2 (IntKind.i64.wrap (x2 + r2.1), eqI (x1.length : Int) 0) else none
noncomputable def preref1_Tokens (a0 : Int) (a1 : List UInt8) : Option ((List Token) × Fault) :=
  if (ltI 3000 (a1.length : Int)) = true then some (([] : List Token), (⟨4, a0, 0⟩ : Fault)) else (preref1_Splice a1).bind fun r1 => loopO (preref1_Tokens_b1 a0 a1 r1) (([] : List Token), 0)
noncomputable def pf_preref1_Tokens : PF := PF.of (E2 dI dS) (fun a => preref1_Tokens a.1 a.2) (T2 (dL 11 d_Token) d_Fault)
set_option maxRecDepth 100000 in
set_option maxHeartbeats 4000000 in
theorem preref1_Tokens_ok : PureOk Try.prog 31 pf_preref1_Tokens := by
  refine xF mixed [(57, pf_preref1_Splice), (58, pf_preref1_Skip), (59, pf_preref1_Piece), (60, pf_preref1_Line)] [] ⟨⟨call_57, preref1_Splice_ok⟩, ⟨call_58, preref1_Skip_ok⟩, ⟨call_59, preref1_Piece_ok⟩, ⟨call_60, preref1_Line_ok⟩, trivial⟩ trivial Try.func31 ?_
  rintro ⟨a0, a1⟩ out H
  have G := True.intro
  have Y := xZ y_3 <| xZ y_4 <| xZ y_9 <| xZ y_22 <| xZ y_24 <| xZ y_28 <| xZ y_30 <| xZ y_43 <| xZ y_45 <| xZ y_88 <| xZ y_90 <| xZ Try.results31 <| xZ d_Call.eq_1 <| xZ d_Token.eq_1 <| xZ d_Spliced.eq_1 <| d_Fault.eq_1
  simp only [preref1_Tokens] at H
  refine xS ?_
  refine xr ?_
  refine xr ?_
  rcases bsplit H with ⟨hp1, H⟩ | ⟨hp1, H⟩
  · obtain ⟨F, G, hq1⟩ := xH Y G hp1
    refine xT ?_
    replace H := Option.some.inj H
    refine xr ?_
    subst H
    exact xN
  · obtain ⟨F, G, hq1⟩ := xH Y G hp1
    refine xE ?_
    obtain ⟨r1, hr1, H⟩ := osplit H
    have F := xC Y (preref1_Splice_c a1 r1 hr1)
    refine xR ?_
    refine xr ?_
    refine xr ?_
    refine w_loop (preref1_Tokens_b1 a0 a1 r1) (fun s => [(0, .c (.d (.v (.int .i64 a0)))), (1, .c (.d (.v (str a1)))), (5, .c (.pt 1 0)), (6, .c (.pt 2 0)), (7, .c (.sl 11 (List.map d_Token s.1) 3)), (8, .c (.d (.v (.int .i64 s.2))))]) (fun s => [[.d (.v (.int .i64 0)), .d (.v (.int .i64 0)), .d (.v (.int .i64 0))], [.d (.v (str r1.Text)), .d (.sl 1 (List.map dI r1.At))]]) [45] H (xK ⟨[1,2], [0]⟩) ?_
    rintro n1 ⟨x1, x2⟩ o1 H hF1
    rw [preref1_Tokens_b1] at H
    refine xS ?_
    obtain ⟨hg1, H⟩ := gsplit H
    obtain ⟨r2, hr2, H⟩ := osplit H
    have F := xC Y (preref1_Skip_c (List.drop x2.toNat r1.Text) r2 hr2)
    refine xR ?_
    refine xr ?_
    rcases bsplit H with ⟨hp2, H⟩ | ⟨hp2, H⟩
    · obtain ⟨F, G, hq2⟩ := xH Y G hp2
      refine xT ?_
      obtain ⟨hg2, H⟩ := gsplit H
      have F := xZ Y (map_getD dI r1.At ((IntKind.i64.wrap ((IntKind.i64.wrap (x2 - 1)) - r2.1)).toNat) default default (by omega))
      replace H := inrO_fin H hF1
      replace H := Option.some.inj H
      refine xR ?_
      subst H
      exact xN
    · obtain ⟨F, G, hq2⟩ := xH Y G hp2
      refine xE ?_
      refine xr ?_
      refine xr ?_
      rcases bsplit H with ⟨hp3, H⟩ | ⟨hp3, H⟩
      · obtain ⟨F, G, hq3⟩ := xH Y G hp3
        refine xT ?_
        replace H := inrO_fin H hF1
        replace H := Option.some.inj H
        refine xr ?_
        subst H
        exact xN
      · obtain ⟨F, G, hq3⟩ := xH Y G hp3
        refine xE0 ?_
        refine w_skip ?_
        refine then_normal ?_
        refine w_cut (preref1_Tokens_j2 a0 a1 r1 x1 r2) (fun s => [(0, .c (.d (.v (.int .i64 a0)))), (1, .c (.d (.v (str a1)))), (5, .c (.pt 1 0)), (6, .c (.pt 2 0)), (7, .c (.sl 11 (List.map d_Token x1) 3)), (8, .c (.d (.v (.int .i64 s.1)))), (9, .c (.d (.v (.int .i64 r2.1)))), (11, .c (.d (.v (.bool s.2))))]) (fun s => [[.d (.v (.int .i64 0)), .d (.v (.int .i64 0)), .d (.v (.int .i64 0))], [.d (.v (str r1.Text)), .d (.sl 1 (List.map dI r1.At))]]) [45] o1 ?_ ?_
        · rcases bsplit H with ⟨hp10, H⟩ | ⟨hp10, H⟩
          · obtain ⟨F, G, hq10⟩ := xH Y G hp10
            refine xR ?_
            exact cut_at H (xK ⟨[1,2], [3]⟩)
          · obtain ⟨F, G, hq10⟩ := xH Y G hp10
            refine xR ?_
            exact cut_at H (xK ⟨[1,2], [3]⟩)
        · rintro ⟨x3, x4⟩ H
          rw [preref1_Tokens_j2] at H
          refine xS ?_
          refine xr0 ?_
          refine then_normal ?_
          refine w_cut (preref1_Tokens_j3 a0 a1 r1 x1 r2 x3 x4) (fun s => [(0, .c (.d (.v (.int .i64 a0)))), (1, .c (.d (.v (str a1)))), (5, .c (.pt 1 0)), (6, .c (.pt 2 0)), (7, .c (.sl 11 (List.map d_Token x1) 3)), (8, .c (.d (.v (.int .i64 x3)))), (9, .c (.d (.v (.int .i64 r2.1)))), (11, .c (.d (.v (.bool x4)))), (13, .c (.d (.v (.bool s))))]) (fun s => [[.d (.v (.int .i64 0)), .d (.v (.int .i64 0)), .d (.v (.int .i64 0))], [.d (.v (str r1.Text)), .d (.sl 1 (List.map dI r1.At))]]) [45] o1 ?_ ?_
          · rcases bsplit H with ⟨hp5, H⟩ | ⟨hp5, H⟩
            · obtain ⟨F, G, hq5⟩ := xH Y G hp5
              rcases bsplit H with ⟨hp6, H⟩ | ⟨hp6, H⟩
              · obtain ⟨F, G, hq6⟩ := xH F G hp6
                obtain ⟨hg9, H⟩ := gsplit H
                have F := xZ F (map_getD d_Token x1 ((IntKind.i64.wrap ((x1.length : Int) - 1)).toNat) default default (by omega))
                rcases bsplit H with ⟨hp7, H⟩ | ⟨hp7, H⟩
                · obtain ⟨F, G, hq7⟩ := xH F G hp7
                  obtain ⟨hg10, H⟩ := gsplit H
                  have F := xZ F (map_getD d_Token x1 ((IntKind.i64.wrap ((x1.length : Int) - 1)).toNat) default default (by omega))
                  rcases bsplit H with ⟨hp8, H⟩ | ⟨hp8, H⟩
                  · obtain ⟨F, G, hq8⟩ := xH F G hp8
                    obtain ⟨hg11, H⟩ := gsplit H
                    have F := xZ F (map_getD d_Token x1 ((IntKind.i64.wrap ((x1.length : Int) - 2)).toNat) default default (by omega))
                    rcases bsplit H with ⟨hp9, H⟩ | ⟨hp9, H⟩
                    · obtain ⟨F, G, hq9⟩ := xH F G hp9
                      obtain ⟨hg12, H⟩ := gsplit H
                      have F := xZ F (map_getD d_Token x1 ((IntKind.i64.wrap ((x1.length : Int) - 2)).toNat) default default (by omega))
                      refine xR ?_
                      exact cut_at H (xK ⟨[1,2], [3]⟩)
                    · obtain ⟨F, G, hq9⟩ := xH F G hp9
                      refine xR ?_
                      exact cut_at H (xK ⟨[1,2], [3]⟩)
                  · obtain ⟨F, G, hq8⟩ := xH F G hp8
                    refine xR ?_
                    exact cut_at H (xK ⟨[1,2], [3]⟩)
                · obtain ⟨F, G, hq7⟩ := xH F G hp7
                  refine xR ?_
                  exact cut_at H (xK ⟨[1,2], [3]⟩)
              · obtain ⟨F, G, hq6⟩ := xH F G hp6
                refine xR ?_
                exact cut_at H (xK ⟨[1,2], [3]⟩)
            · obtain ⟨F, G, hq5⟩ := xH Y G hp5
              refine xR ?_
              exact cut_at H (xK ⟨[1,2], [3]⟩)
          · rintro x5 H
            rw [preref1_Tokens_j3] at H
            refine xS ?_
            obtain ⟨hg3, H⟩ := gsplit H
            obtain ⟨r3, hr3, H⟩ := osplit H
            have F := xC Y (preref1_Piece_c (List.drop x3.toNat r1.Text) x5 r3 hr3)
            refine xR ?_
            refine xr ?_
            rcases bsplit H with ⟨hp4, H⟩ | ⟨hp4, H⟩
            · obtain ⟨F, G, hq4⟩ := xH Y G hp4
              refine xT ?_
              obtain ⟨hg4, H⟩ := gsplit H
              have F := xZ Y (map_getD dI r1.At x3.toNat default default (by omega))
              replace H := inrO_fin H hF1
              replace H := Option.some.inj H
              refine xR ?_
              subst H
              exact xN
            · obtain ⟨F, G, hq4⟩ := xH Y G hp4
              refine xE ?_
              obtain ⟨hg5, H⟩ := gsplit H
              have F := xZ Y (map_getD dI r1.At x3.toNat default default (by omega))
              obtain ⟨hg6, H⟩ := gsplit H
              have F := xZ F (map_getD dI r1.At ((IntKind.i64.wrap ((IntKind.i64.wrap (x3 + (r3.2.length : Int))) - 1)).toNat) default default (by omega))
              obtain ⟨hg7, H⟩ := gsplit H
              have F := xZ F (map_getD dI r1.At x3.toNat default default (by omega))
              obtain ⟨r4, hr4, H⟩ := osplit H
              have F := xCf F (preref1_Line_c a1 (r1.At.getD x3.toNat default) r4 hr4)
              obtain ⟨hg8, H⟩ := gsplit H
              have F := xZ F (all_map one_Token [(⟨r3.1, r3.2, ltI 0 r2.1, x4, a0, (r1.At.getD x3.toNat default), IntKind.i64.wrap ((r1.At.getD ((IntKind.i64.wrap ((IntKind.i64.wrap (x3 + (r3.2.length : Int))) - 1)).toNat) default) + 1), r4, ([] : List (List UInt8)), ([] : List Call), 0⟩ : Token)])
              refine xR ?_
              refine xr ?_
              exact round_at (inl_fin H hF1) (xK ⟨[1,2], [4]⟩)
theorem preref1_Tokens_c (a0 : Int) (a1 : List UInt8) (r : (List Token) × Fault) (H : preref1_Tokens a0 a1 = some r) : PC pf_preref1_Tokens [dI a0, dS a1] (T2 (dL 11 d_Token) d_Fault r) := PF.c (a := (a0, a1)) H
noncomputable def splice_Text_j2 (a0 : List UInt8) (x1 : List UInt8) (x2 : List Int) (x3 : Int) (x4 : List UInt8) : Bool → Option (((List UInt8) × (List Int) × Int × (List UInt8)) ⊕ Spliced)
  | x5 => if x5 = true then some (.inl (x1, x2, IntKind.i64.wrap (x3 + 1), x4)) else if (0 : Int) ≤ x3 ∧ x3.toNat < a0.length then if (x1.length + [(a0.getD x3.toNat 0)].length) * 1 ≤ 140737488355328 then if (x2.length + [x3].length) * 8 ≤ 140737488355328 then some (.inl (x1 ++ [(a0.getD x3.toNat 0)], x2 ++ [x3], IntKind.i64.wrap (x3 + 1), x4)) else none else none else none
noncomputable def splice_Text_b1 (a0 : List UInt8) : ((List UInt8) × (List Int) × Int × (List UInt8)) → Option (((List UInt8) × (List Int) × Int × (List UInt8)) ⊕ Spliced)
  | (x1, x2, x3, x4) => if (ltI x3 (a0.length : Int)) = true then if (0 : Int) ≤ x3 ∧ x3 ≤ (a0.length : Int) ∧ (a0.length : Int) ≤ (a0.length : Int) then (splice_joins (List.drop x3.toNat a0)).bind fun r1 => if (ltI 0 r1) = true then if (0 : Int) ≤ x3 ∧ x3 ≤ (a0.length : Int) ∧ (a0.length : Int) ≤ (a0.length : Int) then (splice_joins (List.drop x3.toNat a0)).bind fun r2 => some (.inl (x1, x2, IntKind.i64.wrap (x3 + r2), x4)) else none else if (0 : Int) ≤ x3 ∧ x3.toNat < a0.length then if (eqI ((a0.getD x3.toNat 0).toNat : Int) 13) = true then if (ltI (IntKind.i64.wrap (x3 + 1)) (a0.length : Int)) = true then if (0 : Int) ≤ (IntKind.i64.wrap (x3 + 1)) ∧ (IntKind.i64.wrap (x3 + 1)).toNat < a0.length then splice_Text_j2 a0 x1 x2 x3 x4 (eqI ((a0.getD ((IntKind.i64.wrap (x3 + 1)).toNat) 0).toNat : Int) 10) else none else splice_Text_j2 a0 x1 x2 x3 x4 false else splice_Text_j2 a0 x1 x2 x3 x4 false else none else none else inrO (if (x2.length + [(a0.length : Int)].length) * 8 ≤ 140737488355328 then some (⟨x1, x2 ++ [(a0.length : Int)]⟩ : Spliced) else none)
noncomputable def splice_Text (a0 : List UInt8) : Option Spliced :=
  loopO (splice_Text_b1 a0) (([] : List UInt8), ([] : List Int), 0, [])
noncomputable def pf_splice_Text : PF := PF.of (E1 dS) (fun a => splice_Text a) d_Spliced
set_option maxRecDepth 100000 in
set_option maxHeartbeats 4000000 in
theorem splice_Text_ok : PureOk Try.prog 61 pf_splice_Text := by
  refine xF mixed [(78, pf_splice_joins)] [] ⟨⟨call_78, splice_joins_ok⟩, trivial⟩ trivial Try.func61 ?_
  rintro a0 out H
  have G := True.intro
  have Y := xZ y_3 <| xZ y_5 <| xZ y_9 <| xZ y_57 <| xZ y_88 <| xZ y_90 <| xZ Try.results61 <| d_Spliced.eq_1
  simp only [splice_Text] at H
  refine xS ?_
  refine xr ?_
  refine xr ?_
  refine xr ?_
  refine xr ?_
  refine w_loop (splice_Text_b1 a0) (fun s => [(0, .c (.d (.v (str a0)))), (2, .c (.pt 1 0)), (3, .c (.sl 1 (List.map dU s.1) 2)), (4, .c (.sl 1 (List.map dI s.2.1) 3)), (5, .c (.d (.v (.int .i64 s.2.2.1))))]) (fun s => [[.d (.v (str s.2.2.2)), .sl 1 [] 0]]) [5, 3] H (xK ⟨[1], [0,0]⟩) ?_
  rintro n1 ⟨x1, x2, x3, x4⟩ o1 H hF1
  rw [splice_Text_b1] at H
  refine xS ?_
  refine xr ?_
  rcases bsplit H with ⟨hp1, H⟩ | ⟨hp1, H⟩
  · obtain ⟨F, G, hq1⟩ := xH Y G hp1
    refine xT ?_
    obtain ⟨hg1, H⟩ := gsplit H
    obtain ⟨r1, hr1, H⟩ := osplit H
    have F := xC Y (splice_joins_c (List.drop x3.toNat a0) r1 hr1)
    refine xR ?_
    rcases bsplit H with ⟨hp2, H⟩ | ⟨hp2, H⟩
    · obtain ⟨F, G, hq2⟩ := xH Y G hp2
      refine xT ?_
      obtain ⟨hg2, H⟩ := gsplit H
      obtain ⟨r2, hr2, H⟩ := osplit H
      have F := xC Y (splice_joins_c (List.drop x3.toNat a0) r2 hr2)
      refine xR ?_
      exact round_at (inl_fin H hF1) (xK ⟨[1], [2,3]⟩)
    · obtain ⟨F, G, hq2⟩ := xH Y G hp2
      refine xE0 ?_
      refine w_cut (splice_Text_j2 a0 x1 x2 x3 x4) (fun s => [(0, .c (.d (.v (str a0)))), (2, .c (.pt 1 0)), (3, .c (.sl 1 (List.map dU x1) 2)), (4, .c (.sl 1 (List.map dI x2) 3)), (5, .c (.d (.v (.int .i64 x3)))), (22, .c (.d (.v (.bool s))))]) (fun s => [[.d (.v (str x4)), .sl 1 [] 0]]) [5, 3] o1 ?_ ?_
      · obtain ⟨hg6, H⟩ := gsplit H
        rcases bsplit H with ⟨hp4, H⟩ | ⟨hp4, H⟩
        · obtain ⟨F, G, hq4⟩ := xH Y G hp4
          rcases bsplit H with ⟨hp5, H⟩ | ⟨hp5, H⟩
          · obtain ⟨F, G, hq5⟩ := xH F G hp5
            obtain ⟨hg7, H⟩ := gsplit H
            refine xR ?_
            exact cut_at H (xK ⟨[1], [2,3]⟩)
          · obtain ⟨F, G, hq5⟩ := xH F G hp5
            refine xR ?_
            exact cut_at H (xK ⟨[1], [2,3]⟩)
        · obtain ⟨F, G, hq4⟩ := xH Y G hp4
          refine xR ?_
          exact cut_at H (xK ⟨[1], [2,3]⟩)
      · rintro x5 H
        rw [splice_Text_j2] at H
        rcases bsplit H with ⟨hp3, H⟩ | ⟨hp3, H⟩
        · obtain ⟨F, G, hq3⟩ := xH Y G hp3
          refine xT ?_
          refine xr ?_
          exact round_at (inl_fin H hF1) (xK ⟨[1], [2,3]⟩)
        · obtain ⟨F, G, hq3⟩ := xH Y G hp3
          refine xE ?_
          obtain ⟨hg3, H⟩ := gsplit H
          obtain ⟨hg4, H⟩ := gsplit H
          have F := xZ Y (all_map one_dU [(a0.getD x3.toNat 0)])
          obtain ⟨hg5, H⟩ := gsplit H
          have F := xZ F (all_map one_dI [x3])
          refine xR ?_
          refine xr ?_
          exact round_at (inl_fin H hF1) (xK ⟨[1], [4,5]⟩)
  · obtain ⟨F, G, hq1⟩ := xH Y G hp1
    replace H := inrO_fin H hF1
    refine xE ?_
    obtain ⟨hg8, H⟩ := gsplit H
    have F := xZ Y (all_map one_dI [(a0.length : Int)])
    replace H := Option.some.inj H
    refine xR ?_
    subst H
    exact xN
theorem splice_Text_c (a0 : List UInt8) (r : Spliced) (H : splice_Text a0 = some r) : PC pf_splice_Text [dS a0] (d_Spliced r) := PF.c (a := a0) H
noncomputable def lex_lexer_blank_1 (a0 : UInt8) : Option Bool :=
  some (!eqI (a0.toNat : Int) 10)
noncomputable def pf_lex_lexer_blank_1 : PF := PF.of (E1 dU) (fun a => lex_lexer_blank_1 a) dB
set_option maxRecDepth 100000 in
set_option maxHeartbeats 4000000 in
theorem lex_lexer_blank_1_ok : PureOk Try.prog 80 pf_lex_lexer_blank_1 := by
  refine xF mixed [] [] trivial trivial Try.func80 ?_
  rintro a0 out H
  have G := True.intro
  have Y := Try.results80
  simp only [lex_lexer_blank_1] at H
  refine xS ?_
  refine xr ?_
  replace H := Option.some.inj H
  refine xr ?_
  subst H
  exact xN
theorem lex_lexer_blank_1_c (a0 : UInt8) (r : Bool) (H : lex_lexer_blank_1 a0 = some r) : PC pf_lex_lexer_blank_1 [dU a0] (dB r) := PF.c (a := a0) H
noncomputable def lex_lexer_while_j2 (x1 : Int) : Bool → Option (Int ⊕ Int)
  | x2 => if x2 = true then some (.inl (IntKind.i64.wrap (x1 + 1))) else inrO (some x1)
noncomputable def lex_lexer_while_b1 (a1 : List UInt8) : Int → Option (Int ⊕ Int)
  | x1 => if (ltI x1 (a1.length : Int)) = true then if (0 : Int) ≤ x1 ∧ x1.toNat < a1.length then (lex_lexer_blank_1 (a1.getD x1.toNat 0)).bind fun r1 => lex_lexer_while_j2 x1 r1 else none else lex_lexer_while_j2 x1 false
noncomputable def lex_lexer_while (a0 : Int) (a1 : List UInt8) (a2 : List Int) (a3 : List UInt8) (a4 : Int) (a5 : Int) (a6 : List Token) : Option Int :=
  loopO (lex_lexer_while_b1 a1) a0
def g_lex_lexer_while (a0 : Int) (a1 : List UInt8) (a2 : List Int) (a3 : List UInt8) (a4 : Int) (a5 : Int) (a6 : List Token) (r : Int) : GI :=
  ⟨[.c (.pt 1 0), .c (.d (.v (.int .i64 a0))), .c (.d (.v (.func (.func 80) #[] #[])))], [[.d (.v (str a1)), .d (.sl 1 (List.map dI a2)), .d (.v (str a3)), .d (.v (.int .i64 a4)), .d (.v (.int .i64 a5)), .sl 11 (List.map d_Token a6) 2]], [45], .ret (.c (.d (.v (.int .i64 r)))) [[.d (.v (str a1)), .d (.sl 1 (List.map dI a2)), .d (.v (str a3)), .d (.v (.int .i64 a4)), .d (.v (.int .i64 a5)), .sl 11 (List.map d_Token a6) 2]] [45]⟩
def S_lex_lexer_while : GI → Prop := fun g => ∃ (a0 : Int) (a1 : List UInt8) (a2 : List Int) (a3 : List UInt8) (a4 : Int) (a5 : Int) (a6 : List Token) (r : Int), lex_lexer_while a0 a1 a2 a3 a4 a5 a6 = some r ∧ g = g_lex_lexer_while a0 a1 a2 a3 a4 a5 a6 r
theorem lex_lexer_while_c (a0 : Int) (a1 : List UInt8) (a2 : List Int) (a3 : List UInt8) (a4 : Int) (a5 : Int) (a6 : List Token) (r : Int) (H : lex_lexer_while a0 a1 a2 a3 a4 a5 a6 = some r) : S_lex_lexer_while (g_lex_lexer_while a0 a1 a2 a3 a4 a5 a6 r) := ⟨a0, a1, a2, a3, a4, a5, a6, r, H, rfl⟩
set_option maxRecDepth 100000 in
set_option maxHeartbeats 4000000 in
theorem lex_lexer_while_ok : ∀ g, S_lex_lexer_while g → GenOk Try.prog 79 g := by
  rintro _ ⟨a0, a1, a2, a3, a4, a5, a6, r, H, rfl⟩
  refine xGn mixed [(80, pf_lex_lexer_blank_1)] [] [] ⟨⟨call_80, lex_lexer_blank_1_ok⟩, trivial⟩ trivial trivial Try.func79 _ ?_
  have G := True.intro
  have Y := xZ y_9 <| xZ y_90 <| xZ y_99 <| xZ Try.results79 <| xZ d_Call.eq_1 <| xZ d_Token.eq_1 <| xZ d_Spliced.eq_1 <| g_lex_lexer_while.eq_1
  dsimp only [g_lex_lexer_while]
  simp only [lex_lexer_while] at H
  refine xS ?_
  refine xr ?_
  refine w_loop (lex_lexer_while_b1 a1) (fun s => [(0, .c (.pt 1 0)), (1, .c (.d (.v (.int .i64 s)))), (2, .c (.d (.v (.func (.func 80) #[] #[]))))]) (fun s => [[.d (.v (str a1)), .d (.sl 1 (List.map dI a2)), .d (.v (str a3)), .d (.v (.int .i64 a4)), .d (.v (.int .i64 a5)), .sl 11 (List.map d_Token a6) 2]]) [45] H (xK ⟨[1], [2]⟩) ?_
  rintro n1 x1 o1 H hF1
  rw [lex_lexer_while_b1] at H
  refine w_seq ?_
  refine w_cut (lex_lexer_while_j2 x1) (fun s => [(0, .c (.pt 1 0)), (1, .c (.d (.v (.int .i64 x1)))), (2, .c (.d (.v (.func (.func 80) #[] #[])))), (25, .c (.d (.v (.bool s))))]) (fun s => [[.d (.v (str a1)), .d (.sl 1 (List.map dI a2)), .d (.v (str a3)), .d (.v (.int .i64 a4)), .d (.v (.int .i64 a5)), .sl 11 (List.map d_Token a6) 2]]) [45] o1 ?_ ?_
  · rcases bsplit H with ⟨hp2, H⟩ | ⟨hp2, H⟩
    · obtain ⟨F, G, hq2⟩ := xH Y G hp2
      obtain ⟨hg1, H⟩ := gsplit H
      obtain ⟨r1, hr1, H⟩ := osplit H
      have F := xCf F (lex_lexer_blank_1_c (a1.getD x1.toNat 0) r1 hr1)
      refine xR ?_
      exact cut_at H (xK ⟨[1], [2]⟩)
    · obtain ⟨F, G, hq2⟩ := xH Y G hp2
      refine xR ?_
      exact cut_at H (xK ⟨[1], [2]⟩)
  · rintro x2 H
    rw [lex_lexer_while_j2] at H
    rcases bsplit H with ⟨hp1, H⟩ | ⟨hp1, H⟩
    · obtain ⟨F, G, hq1⟩ := xH Y G hp1
      refine xT ?_
      refine xr ?_
      exact round_at (inl_fin H hF1) (xK ⟨[1], [2]⟩)
    · obtain ⟨F, G, hq1⟩ := xH Y G hp1
      replace H := inrO_fin H hF1
      refine xE ?_
      replace H := Option.some.inj H
      refine xr ?_
      subst H
      refine xOr ?_
      refine qDf [] ?_
      exact xO ⟨[1], [2]⟩
theorem lex_lexer_while_k : Callable Try.prog 79 ∧ (∀ g, S_lex_lexer_while g → GenOk Try.prog 79 g) ∧ (true = true → ∀ g, S_lex_lexer_while g → ∃ val bs ts, g.out = .ret val bs ts) :=
  ⟨call_79, lex_lexer_while_ok, fun _ => by rintro _ ⟨_, _, _, _, _, _, _, _, _, rfl⟩; exact ⟨_, _, _, rfl⟩⟩
noncomputable def lex_lexer_blank_j2 : (Bool × Int) → Option ((Bool × Bool × Int) ⊕ (Bool × Bool × Bool × Int))
  | (x4, x5) => some (.inl (true, x4, x5))
noncomputable def lex_lexer_blank_j4 (x3 : Int) : Bool → Option ((Bool × Bool × Int) ⊕ (Bool × Bool × Bool × Int))
  | x8 => lex_lexer_blank_j2 (x8, IntKind.i64.wrap (x3 + 1))
noncomputable def lex_lexer_blank_j8 (a0 : List UInt8) (x1 : Bool) (x2 : Bool) (x3 : Int) (x12 : Int) : Bool → Option (Int ⊕ ((Bool × Bool × Int) ⊕ (Bool × Bool × Bool × Int)))
  | x13 => if x13 = true then some (.inl (IntKind.i64.wrap (x12 + 1))) else inrO (if (leI (a0.length : Int) (IntKind.i64.wrap (x12 + 1))) = true then inrO (some (x1, x2, false, x3)) else lex_lexer_blank_j2 (x2, IntKind.i64.wrap (x12 + 2)))
noncomputable def lex_lexer_blank_b7 (a0 : List UInt8) (x1 : Bool) (x2 : Bool) (x3 : Int) : Int → Option (Int ⊕ ((Bool × Bool × Int) ⊕ (Bool × Bool × Bool × Int)))
  | x12 => if (ltI (IntKind.i64.wrap (x12 + 1)) (a0.length : Int)) = true then if (0 : Int) ≤ x12 ∧ x12 ≤ (IntKind.i64.wrap (x12 + 2)) ∧ (IntKind.i64.wrap (x12 + 2)) ≤ (a0.length : Int) then lex_lexer_blank_j8 a0 x1 x2 x3 x12 (!eqS (List.take ((IntKind.i64.wrap (x12 + 2)).toNat - x12.toNat) (List.drop x12.toNat a0)) [42, 47]) else none else lex_lexer_blank_j8 a0 x1 x2 x3 x12 false
noncomputable def lex_lexer_blank_j6 (a0 : List UInt8) (x1 : Bool) (x2 : Bool) (x3 : Int) : Bool → Option ((Bool × Bool × Int) ⊕ (Bool × Bool × Bool × Int))
  | x11 => if x11 = true then loopO (lex_lexer_blank_b7 a0 x1 x2 x3) (IntKind.i64.wrap (x3 + 2)) else inrO (some (x1, x2, true, x3))
noncomputable def lex_lexer_blank_j5 (a0 : List UInt8) (a1 : List Int) (a2 : List UInt8) (a3 : Int) (a5 : List Token) (x1 : Bool) (x2 : Bool) (x3 : Int) : (UInt8 × Bool) → Option ((Bool × Bool × Int) ⊕ (Bool × Bool × Bool × Int))
  | (x9, x10) => if x10 = true then (lex_lexer_while x3 a0 a1 a2 a3 x3 a5).bind fun r1 => lex_lexer_blank_j2 (x2, r1) else if (eqI (x9.toNat : Int) 47) = true then if (ltI (IntKind.i64.wrap (x3 + 1)) (a0.length : Int)) = true then if (0 : Int) ≤ (IntKind.i64.wrap (x3 + 1)) ∧ (IntKind.i64.wrap (x3 + 1)).toNat < a0.length then lex_lexer_blank_j6 a0 x1 x2 x3 (eqI ((a0.getD ((IntKind.i64.wrap (x3 + 1)).toNat) 0).toNat : Int) 42) else none else lex_lexer_blank_j6 a0 x1 x2 x3 false else lex_lexer_blank_j6 a0 x1 x2 x3 false
noncomputable def lex_lexer_blank_j3 (a0 : List UInt8) (a1 : List Int) (a2 : List UInt8) (a3 : Int) (a5 : List Token) (x1 : Bool) (x2 : Bool) (x3 : Int) : (UInt8 × Bool) → Option ((Bool × Bool × Int) ⊕ (Bool × Bool × Bool × Int))
  | (x6, x7) => if x7 = true then if x2 = true then lex_lexer_blank_j4 x3 true else lex_lexer_blank_j4 x3 (eqI (x6.toNat : Int) 10) else if (eqI (x6.toNat : Int) 47) = true then if (ltI (IntKind.i64.wrap (x3 + 1)) (a0.length : Int)) = true then if (0 : Int) ≤ (IntKind.i64.wrap (x3 + 1)) ∧ (IntKind.i64.wrap (x3 + 1)).toNat < a0.length then lex_lexer_blank_j5 a0 a1 a2 a3 a5 x1 x2 x3 (x6, eqI ((a0.getD ((IntKind.i64.wrap (x3 + 1)).toNat) 0).toNat : Int) 47) else none else lex_lexer_blank_j5 a0 a1 a2 a3 a5 x1 x2 x3 (x6, false) else lex_lexer_blank_j5 a0 a1 a2 a3 a5 x1 x2 x3 (x6, false)
noncomputable def lex_lexer_blank_b1 (a0 : List UInt8) (a1 : List Int) (a2 : List UInt8) (a3 : Int) (a5 : List Token) : (Bool × Bool × Int) → Option ((Bool × Bool × Int) ⊕ (Bool × Bool × Bool × Int))
  | (x1, x2, x3) => if (ltI x3 (a0.length : Int)) = true then if (0 : Int) ≤ x3 ∧ x3.toNat < a0.length then if (eqI ((a0.getD x3.toNat 0).toNat : Int) 32) = true then lex_lexer_blank_j3 a0 a1 a2 a3 a5 x1 x2 x3 ((a0.getD x3.toNat 0), true) else if (eqI ((a0.getD x3.toNat 0).toNat : Int) 9) = true then lex_lexer_blank_j3 a0 a1 a2 a3 a5 x1 x2 x3 ((a0.getD x3.toNat 0), true) else if (eqI ((a0.getD x3.toNat 0).toNat : Int) 10) = true then lex_lexer_blank_j3 a0 a1 a2 a3 a5 x1 x2 x3 ((a0.getD x3.toNat 0), true) else lex_lexer_blank_j3 a0 a1 a2 a3 a5 x1 x2 x3 ((a0.getD x3.toNat 0), eqI ((a0.getD x3.toNat 0).toNat : Int) 13) else none else inrO (some (x1, x2, true, x3))
noncomputable def lex_lexer_blank (a0 : List UInt8) (a1 : List Int) (a2 : List UInt8) (a3 : Int) (a4 : Int) (a5 : List Token) : Option (Bool × Bool × Bool × Int) :=
  loopO (lex_lexer_blank_b1 a0 a1 a2 a3 a5) (false, false, a4)
def g_lex_lexer_blank (a0 : List UInt8) (a1 : List Int) (a2 : List UInt8) (a3 : Int) (a4 : Int) (a5 : List Token) (r : (Bool × Bool × Bool × Int)) : GI :=
  ⟨[.c (.pt 1 0)], [[.d (.v (str a0)), .d (.sl 1 (List.map dI a1)), .d (.v (str a2)), .d (.v (.int .i64 a3)), .d (.v (.int .i64 a4)), .sl 11 (List.map d_Token a5) 2]], [45], .ret (.tu [(false, [.d (.v (.bool r.1))]), (false, [.d (.v (.bool r.2.1))]), (false, [.d (.v (.bool r.2.2.1))])]) [[.d (.v (str a0)), .d (.sl 1 (List.map dI a1)), .d (.v (str a2)), .d (.v (.int .i64 a3)), .d (.v (.int .i64 r.2.2.2)), .sl 11 (List.map d_Token a5) 2]] [45]⟩
def S_lex_lexer_blank : GI → Prop := fun g => ∃ (a0 : List UInt8) (a1 : List Int) (a2 : List UInt8) (a3 : Int) (a4 : Int) (a5 : List Token) (r : (Bool × Bool × Bool × Int)), lex_lexer_blank a0 a1 a2 a3 a4 a5 = some r ∧ g = g_lex_lexer_blank a0 a1 a2 a3 a4 a5 r
theorem lex_lexer_blank_c (a0 : List UInt8) (a1 : List Int) (a2 : List UInt8) (a3 : Int) (a4 : Int) (a5 : List Token) (r : (Bool × Bool × Bool × Int)) (H : lex_lexer_blank a0 a1 a2 a3 a4 a5 = some r) : S_lex_lexer_blank (g_lex_lexer_blank a0 a1 a2 a3 a4 a5 r) := ⟨a0, a1, a2, a3, a4, a5, r, H, rfl⟩
set_option maxRecDepth 100000 in
set_option maxHeartbeats 4000000 in
theorem lex_lexer_blank_ok : ∀ g, S_lex_lexer_blank g → GenOk Try.prog 62 g := by
  rintro _ ⟨a0, a1, a2, a3, a4, a5, r, H, rfl⟩
  refine xGn mixed [] [(79, true, S_lex_lexer_while)] [] trivial ⟨lex_lexer_while_k, trivial⟩ trivial Try.func62 _ ?_
  have G := True.intro
  have Y := xZ y_3 <| xZ y_9 <| xZ y_90 <| xZ y_99 <| xZ Try.results62 <| xZ d_Call.eq_1 <| xZ d_Token.eq_1 <| xZ d_Spliced.eq_1 <| xZ g_lex_lexer_while.eq_1 <| g_lex_lexer_blank.eq_1
  dsimp only [g_lex_lexer_blank]
  simp only [lex_lexer_blank] at H
  refine xS ?_
  refine xr ?_
  refine xr ?_
  refine w_loop (lex_lexer_blank_b1 a0 a1 a2 a3 a5) (fun s => [(0, .c (.pt 1 0)), (2, .c (.d (.v (.bool s.1)))), (3, .c (.d (.v (.bool s.2.1)))), (5, .c (.d (.v (str a0))))]) (fun s => [[.d (.v (str a0)), .d (.sl 1 (List.map dI a1)), .d (.v (str a2)), .d (.v (.int .i64 a3)), .d (.v (.int .i64 s.2.2)), .sl 11 (List.map d_Token a5) 2]]) [45] H (xK ⟨[1], [2]⟩) ?_
  rintro n1 ⟨x1, x2, x3⟩ o1 H hF1
  rw [lex_lexer_blank_b1] at H
  refine xS ?_
  refine xr ?_
  rcases bsplit H with ⟨hp1, H⟩ | ⟨hp1, H⟩
  · obtain ⟨F, G, hq1⟩ := xH Y G hp1
    refine xT0 ?_
    refine w_skip ?_
    refine then_normal ?_
    refine w_block ?_
    refine w_cut lex_lexer_blank_j2 (fun s => [(0, .c (.pt 1 0)), (3, .c (.d (.v (.bool s.1)))), (5, .c (.d (.v (str a0))))]) (fun s => [[.d (.v (str a0)), .d (.sl 1 (List.map dI a1)), .d (.v (str a2)), .d (.v (.int .i64 a3)), .d (.v (.int .i64 s.2)), .sl 11 (List.map d_Token a5) 2]]) [45] o1 ?_ ?_
    · refine xS ?_
      obtain ⟨hg1, H⟩ := gsplit H
      refine xr0 ?_
      refine then_normal ?_
      refine w_block ?_
      refine w_cut (lex_lexer_blank_j3 a0 a1 a2 a3 a5 x1 x2 x3) (fun s => [(0, .c (.pt 1 0)), (2, .c (.d (.v (.bool x1)))), (3, .c (.d (.v (.bool x2)))), (5, .c (.d (.v (str a0)))), (6, .c (.d (.v (.int .u8 (s.1.toNat : Int))))), (28, .c (.d (.v (.bool s.2))))]) (fun s => [[.d (.v (str a0)), .d (.sl 1 (List.map dI a1)), .d (.v (str a2)), .d (.v (.int .i64 a3)), .d (.v (.int .i64 x3)), .sl 11 (List.map d_Token a5) 2]]) [45] o1 ?_ ?_
      · rcases bsplit H with ⟨hp13, H⟩ | ⟨hp13, H⟩
        · obtain ⟨F, G, hq13⟩ := xH Y G hp13
          refine xR ?_
          exact cut_at H (xK ⟨[1], [2]⟩)
        · obtain ⟨F, G, hq13⟩ := xH Y G hp13
          rcases bsplit H with ⟨hp14, H⟩ | ⟨hp14, H⟩
          · obtain ⟨F, G, hq14⟩ := xH F G hp14
            refine xR ?_
            exact cut_at H (xK ⟨[1], [2]⟩)
          · obtain ⟨F, G, hq14⟩ := xH F G hp14
            rcases bsplit H with ⟨hp15, H⟩ | ⟨hp15, H⟩
            · obtain ⟨F, G, hq15⟩ := xH F G hp15
              refine xR ?_
              exact cut_at H (xK ⟨[1], [2]⟩)
            · obtain ⟨F, G, hq15⟩ := xH F G hp15
              refine xR ?_
              exact cut_at H (xK ⟨[1], [2]⟩)
      · rintro ⟨x6, x7⟩ H
        rw [lex_lexer_blank_j3] at H
        rcases bsplit H with ⟨hp2, H⟩ | ⟨hp2, H⟩
        · obtain ⟨F, G, hq2⟩ := xH Y G hp2
          refine xT0 ?_
          refine w_cut (lex_lexer_blank_j4 x3) (fun s => [(0, .c (.pt 1 0)), (3, .c (.d (.v (.bool s)))), (5, .c (.d (.v (str a0))))]) (fun s => [[.d (.v (str a0)), .d (.sl 1 (List.map dI a1)), .d (.v (str a2)), .d (.v (.int .i64 a3)), .d (.v (.int .i64 x3)), .sl 11 (List.map d_Token a5) 2]]) [45] o1 ?_ ?_
          · rcases bsplit H with ⟨hp3, H⟩ | ⟨hp3, H⟩
            · obtain ⟨F, G, hq3⟩ := xH Y G hp3
              refine xR ?_
              exact cut_at H (xK ⟨[1], [2]⟩)
            · obtain ⟨F, G, hq3⟩ := xH Y G hp3
              refine xR ?_
              exact cut_at H (xK ⟨[1], [2]⟩)
          · rintro x8 H
            rw [lex_lexer_blank_j4] at H
            refine xr ?_
            exact cut_at H (xK ⟨[1], [2]⟩)
        · obtain ⟨F, G, hq2⟩ := xH Y G hp2
          refine xE0 ?_
          refine w_cut (lex_lexer_blank_j5 a0 a1 a2 a3 a5 x1 x2 x3) (fun s => [(0, .c (.pt 1 0)), (2, .c (.d (.v (.bool x1)))), (3, .c (.d (.v (.bool x2)))), (5, .c (.d (.v (str a0)))), (6, .c (.d (.v (.int .u8 (s.1.toNat : Int))))), (55, .c (.d (.v (.bool s.2))))]) (fun s => [[.d (.v (str a0)), .d (.sl 1 (List.map dI a1)), .d (.v (str a2)), .d (.v (.int .i64 a3)), .d (.v (.int .i64 x3)), .sl 11 (List.map d_Token a5) 2]]) [45] o1 ?_ ?_
          · rcases bsplit H with ⟨hp11, H⟩ | ⟨hp11, H⟩
            · obtain ⟨F, G, hq11⟩ := xH Y G hp11
              rcases bsplit H with ⟨hp12, H⟩ | ⟨hp12, H⟩
              · obtain ⟨F, G, hq12⟩ := xH F G hp12
                obtain ⟨hg4, H⟩ := gsplit H
                refine xR ?_
                exact cut_at H (xK ⟨[1], [2]⟩)
              · obtain ⟨F, G, hq12⟩ := xH F G hp12
                refine xR ?_
                exact cut_at H (xK ⟨[1], [2]⟩)
            · obtain ⟨F, G, hq11⟩ := xH Y G hp11
              refine xR ?_
              exact cut_at H (xK ⟨[1], [2]⟩)
          · rintro ⟨x9, x10⟩ H
            rw [lex_lexer_blank_j5] at H
            rcases bsplit H with ⟨hp4, H⟩ | ⟨hp4, H⟩
            · obtain ⟨F, G, hq4⟩ := xH Y G hp4
              refine xT ?_
              obtain ⟨r1, hr1, H⟩ := osplit H
              have F := Y
              refine xQ ?_
              refine xs 6 ?_
              refine xc ⟨[1], [2]⟩ (tabG 0 (lex_lexer_while_c x3 a0 a1 a2 a3 x3 a5 r1 hr1)) ?_
              refine xs 3 ?_
              refine xl ?_
              refine xS ?_
              exact cut_at H (xK ⟨[1], [4]⟩)
            · obtain ⟨F, G, hq4⟩ := xH Y G hp4
              refine xE0 ?_
              refine w_cut (lex_lexer_blank_j6 a0 x1 x2 x3) (fun s => [(0, .c (.pt 1 0)), (2, .c (.d (.v (.bool x1)))), (3, .c (.d (.v (.bool x2)))), (5, .c (.d (.v (str a0)))), (87, .c (.d (.v (.bool s))))]) (fun s => [[.d (.v (str a0)), .d (.sl 1 (List.map dI a1)), .d (.v (str a2)), .d (.v (.int .i64 a3)), .d (.v (.int .i64 x3)), .sl 11 (List.map d_Token a5) 2]]) [45] o1 ?_ ?_
              · rcases bsplit H with ⟨hp9, H⟩ | ⟨hp9, H⟩
                · obtain ⟨F, G, hq9⟩ := xH Y G hp9
                  rcases bsplit H with ⟨hp10, H⟩ | ⟨hp10, H⟩
                  · obtain ⟨F, G, hq10⟩ := xH F G hp10
                    obtain ⟨hg3, H⟩ := gsplit H
                    refine xR ?_
                    exact cut_at H (xK ⟨[1], [2]⟩)
                  · obtain ⟨F, G, hq10⟩ := xH F G hp10
                    refine xR ?_
                    exact cut_at H (xK ⟨[1], [2]⟩)
                · obtain ⟨F, G, hq9⟩ := xH Y G hp9
                  refine xR ?_
                  exact cut_at H (xK ⟨[1], [2]⟩)
              · rintro x11 H
                rw [lex_lexer_blank_j6] at H
                rcases bsplit H with ⟨hp5, H⟩ | ⟨hp5, H⟩
                · obtain ⟨F, G, hq5⟩ := xH Y G hp5
                  refine xT ?_
                  refine xr ?_
                  refine w_loop (lex_lexer_blank_b7 a0 x1 x2 x3) (fun s => [(0, .c (.pt 1 0)), (2, .c (.d (.v (.bool x1)))), (3, .c (.d (.v (.bool x2)))), (5, .c (.d (.v (str a0)))), (7, .c (.d (.v (.int .i64 s))))]) (fun s => [[.d (.v (str a0)), .d (.sl 1 (List.map dI a1)), .d (.v (str a2)), .d (.v (.int .i64 a3)), .d (.v (.int .i64 x3)), .sl 11 (List.map d_Token a5) 2]]) [45] H (xK ⟨[1], [2]⟩) ?_
                  rintro n2 x12 o2 H hF2
                  rw [lex_lexer_blank_b7] at H
                  refine w_seq ?_
                  refine w_cut (lex_lexer_blank_j8 a0 x1 x2 x3 x12) (fun s => [(0, .c (.pt 1 0)), (2, .c (.d (.v (.bool x1)))), (3, .c (.d (.v (.bool x2)))), (5, .c (.d (.v (str a0)))), (7, .c (.d (.v (.int .i64 x12)))), (127, .c (.d (.v (.bool s))))]) (fun s => [[.d (.v (str a0)), .d (.sl 1 (List.map dI a1)), .d (.v (str a2)), .d (.v (.int .i64 a3)), .d (.v (.int .i64 x3)), .sl 11 (List.map d_Token a5) 2]]) [45] o2 ?_ ?_
                  · rcases bsplit H with ⟨hp8, H⟩ | ⟨hp8, H⟩
                    · obtain ⟨F, G, hq8⟩ := xH Y G hp8
                      obtain ⟨hg2, H⟩ := gsplit H
                      refine xR ?_
                      exact cut_at H (xK ⟨[1], [2]⟩)
                    · obtain ⟨F, G, hq8⟩ := xH Y G hp8
                      refine xR ?_
                      exact cut_at H (xK ⟨[1], [2]⟩)
                  · rintro x13 H
                    rw [lex_lexer_blank_j8] at H
                    rcases bsplit H with ⟨hp6, H⟩ | ⟨hp6, H⟩
                    · obtain ⟨F, G, hq6⟩ := xH Y G hp6
                      refine xT ?_
                      refine xr ?_
                      exact round_at (inl_fin H hF2) (xK ⟨[1], [2]⟩)
                    · obtain ⟨F, G, hq6⟩ := xH Y G hp6
                      replace H := inrO_fin H hF2
                      refine xE ?_
                      refine xr ?_
                      rcases bsplit H with ⟨hp7, H⟩ | ⟨hp7, H⟩
                      · obtain ⟨F, G, hq7⟩ := xH Y G hp7
                        refine xT ?_
                        replace H := inrO_fin H hF1
                        replace H := Option.some.inj H
                        refine xr ?_
                        subst H
                        refine xOr ?_
                        refine qDf [] ?_
                        exact xO ⟨[1], [2]⟩
                      · obtain ⟨F, G, hq7⟩ := xH Y G hp7
                        refine xE ?_
                        refine xr ?_
                        exact cut_at H (xK ⟨[1], [2]⟩)
                · obtain ⟨F, G, hq5⟩ := xH Y G hp5
                  refine xE ?_
                  replace H := inrO_fin H hF1
                  replace H := Option.some.inj H
                  refine xr ?_
                  subst H
                  refine xOr ?_
                  refine qDf [] ?_
                  exact xO ⟨[1], [2]⟩
    · rintro ⟨x4, x5⟩ H
      rw [lex_lexer_blank_j2] at H
      refine xr ?_
      exact round_at (inl_fin H hF1) (xK ⟨[1], [2]⟩)
  · obtain ⟨F, G, hq1⟩ := xH Y G hp1
    replace H := inrO_fin H hF1
    refine xE ?_
    replace H := Option.some.inj H
    refine xr ?_
    subst H
    refine xOr ?_
    refine qDf [] ?_
    exact xO ⟨[1], [2]⟩
theorem lex_lexer_blank_k : Callable Try.prog 62 ∧ (∀ g, S_lex_lexer_blank g → GenOk Try.prog 62 g) ∧ (true = true → ∀ g, S_lex_lexer_blank g → ∃ val bs ts, g.out = .ret val bs ts) :=
  ⟨call_62, lex_lexer_blank_ok, fun _ => by rintro _ ⟨_, _, _, _, _, _, _, _, rfl⟩; exact ⟨_, _, _, rfl⟩⟩
noncomputable def splice_Where_j1 (a0 : Spliced) (a1 : Int) : Bool → Option Int
  | x1 => if x1 = true then some (-1) else if (0 : Int) ≤ a1 ∧ a1.toNat < a0.At.length then some (a0.At.getD a1.toNat default) else none
noncomputable def splice_Where (a0 : Spliced) (a1 : Int) : Option Int :=
  if (ltI a1 0) = true then splice_Where_j1 a0 a1 true else splice_Where_j1 a0 a1 (leI (a0.At.length : Int) a1)
noncomputable def pf_splice_Where : PF := PF.of (E2 d_Spliced dI) (fun a => splice_Where a.1 a.2) dI
set_option maxRecDepth 100000 in
set_option maxHeartbeats 4000000 in
theorem splice_Where_ok : PureOk Try.prog 63 pf_splice_Where := by
  refine xF mixed [] [] trivial trivial Try.func63 ?_
  rintro ⟨a0, a1⟩ out H
  have G := True.intro
  have Y := xZ y_3 <| xZ y_88 <| xZ y_90 <| xZ Try.results63 <| d_Spliced.eq_1
  simp only [splice_Where] at H
  refine xS ?_
  refine xr0 ?_
  refine then_normal ?_
  refine w_seq ?_
  refine w_cut (splice_Where_j1 a0 a1) (fun s => [(1, .c (.d (.v (.int .i64 a1)))), (2, .c (.pt 1 0)), (13, .c (.d (.v (.bool s))))]) (fun s => [[.d (.v (str a0.Text)), .d (.sl 1 (List.map dI a0.At))]]) [] out ?_ ?_
  · rcases bsplit H with ⟨hp2, H⟩ | ⟨hp2, H⟩
    · obtain ⟨F, G, hq2⟩ := xH Y G hp2
      refine xR ?_
      exact cut_at H (xK ⟨[1], []⟩)
    · obtain ⟨F, G, hq2⟩ := xH Y G hp2
      refine xR ?_
      exact cut_at H (xK ⟨[1], []⟩)
  · rintro x1 H
    rw [splice_Where_j1] at H
    rcases bsplit H with ⟨hp1, H⟩ | ⟨hp1, H⟩
    · obtain ⟨F, G, hq1⟩ := xH Y G hp1
      refine xT ?_
      replace H := Option.some.inj H
      refine xr ?_
      subst H
      exact xN
    · obtain ⟨F, G, hq1⟩ := xH Y G hp1
      refine xE ?_
      obtain ⟨hg1, H⟩ := gsplit H
      have F := xZ Y (map_getD dI a0.At a1.toNat default default (by omega))
      replace H := Option.some.inj H
      refine xR ?_
      subst H
      exact xN
theorem splice_Where_c (a0 : Spliced) (a1 : Int) (r : Int) (H : splice_Where a0 a1 = some r) : PC pf_splice_Where [d_Spliced a0, dI a1] (dI r) := PF.c (a := (a0, a1)) H
noncomputable def lex_Letter_j1 : Bool → Option Bool
  | x1 => some x1
noncomputable def lex_Letter (a0 : UInt8) : Option Bool :=
  if (leI 97 (a0.toNat : Int)) = true then if (leI (a0.toNat : Int) 122) = true then lex_Letter_j1 true else if (leI 65 (a0.toNat : Int)) = true then if (leI (a0.toNat : Int) 90) = true then lex_Letter_j1 true else lex_Letter_j1 (eqI (a0.toNat : Int) 95) else lex_Letter_j1 (eqI (a0.toNat : Int) 95) else if (leI 65 (a0.toNat : Int)) = true then if (leI (a0.toNat : Int) 90) = true then lex_Letter_j1 true else lex_Letter_j1 (eqI (a0.toNat : Int) 95) else lex_Letter_j1 (eqI (a0.toNat : Int) 95)
noncomputable def pf_lex_Letter : PF := PF.of (E1 dU) (fun a => lex_Letter a) dB
set_option maxRecDepth 100000 in
set_option maxHeartbeats 4000000 in
theorem lex_Letter_ok : PureOk Try.prog 81 pf_lex_Letter := by
  refine xF mixed [] [] trivial trivial Try.func81 ?_
  rintro a0 out H
  have G := True.intro
  have Y := Try.results81
  simp only [lex_Letter] at H
  refine xS ?_
  refine xr0 ?_
  refine then_normal ?_
  refine w_cut lex_Letter_j1 (fun s => [(2, .c (.d (.v (.bool s))))]) (fun s => []) [] out ?_ ?_
  · rcases bsplit H with ⟨hp1, H⟩ | ⟨hp1, H⟩
    · obtain ⟨F, G, hq1⟩ := xH Y G hp1
      rcases bsplit H with ⟨hp2, H⟩ | ⟨hp2, H⟩
      · obtain ⟨F, G, hq2⟩ := xH F G hp2
        refine xR ?_
        exact cut_at H (xK ⟨[], []⟩)
      · obtain ⟨F, G, hq2⟩ := xH F G hp2
        rcases bsplit H with ⟨hp3, H⟩ | ⟨hp3, H⟩
        · obtain ⟨F, G, hq3⟩ := xH F G hp3
          rcases bsplit H with ⟨hp4, H⟩ | ⟨hp4, H⟩
          · obtain ⟨F, G, hq4⟩ := xH F G hp4
            refine xR ?_
            exact cut_at H (xK ⟨[], []⟩)
          · obtain ⟨F, G, hq4⟩ := xH F G hp4
            refine xR ?_
            exact cut_at H (xK ⟨[], []⟩)
        · obtain ⟨F, G, hq3⟩ := xH F G hp3
          refine xR ?_
          exact cut_at H (xK ⟨[], []⟩)
    · obtain ⟨F, G, hq1⟩ := xH Y G hp1
      rcases bsplit H with ⟨hp5, H⟩ | ⟨hp5, H⟩
      · obtain ⟨F, G, hq5⟩ := xH F G hp5
        rcases bsplit H with ⟨hp6, H⟩ | ⟨hp6, H⟩
        · obtain ⟨F, G, hq6⟩ := xH F G hp6
          refine xR ?_
          exact cut_at H (xK ⟨[], []⟩)
        · obtain ⟨F, G, hq6⟩ := xH F G hp6
          refine xR ?_
          exact cut_at H (xK ⟨[], []⟩)
      · obtain ⟨F, G, hq5⟩ := xH F G hp5
        refine xR ?_
        exact cut_at H (xK ⟨[], []⟩)
  · rintro x1 H
    rw [lex_Letter_j1] at H
    replace H := Option.some.inj H
    refine xS ?_
    subst H
    exact xN
theorem lex_Letter_c (a0 : UInt8) (r : Bool) (H : lex_Letter a0 = some r) : PC pf_lex_Letter [dU a0] (dB r) := PF.c (a := a0) H
noncomputable def lex_Digit_j1 : Bool → Option Bool
  | x1 => some x1
noncomputable def lex_Digit (a0 : UInt8) : Option Bool :=
  if (leI 48 (a0.toNat : Int)) = true then lex_Digit_j1 (leI (a0.toNat : Int) 57) else lex_Digit_j1 false
noncomputable def pf_lex_Digit : PF := PF.of (E1 dU) (fun a => lex_Digit a) dB
set_option maxRecDepth 100000 in
set_option maxHeartbeats 4000000 in
theorem lex_Digit_ok : PureOk Try.prog 83 pf_lex_Digit := by
  refine xF mixed [] [] trivial trivial Try.func83 ?_
  rintro a0 out H
  have G := True.intro
  have Y := Try.results83
  simp only [lex_Digit] at H
  refine xS ?_
  refine xr0 ?_
  refine then_normal ?_
  refine w_cut lex_Digit_j1 (fun s => [(2, .c (.d (.v (.bool s))))]) (fun s => []) [] out ?_ ?_
  · rcases bsplit H with ⟨hp1, H⟩ | ⟨hp1, H⟩
    · obtain ⟨F, G, hq1⟩ := xH Y G hp1
      refine xR ?_
      exact cut_at H (xK ⟨[], []⟩)
    · obtain ⟨F, G, hq1⟩ := xH Y G hp1
      refine xR ?_
      exact cut_at H (xK ⟨[], []⟩)
  · rintro x1 H
    rw [lex_Digit_j1] at H
    replace H := Option.some.inj H
    refine xS ?_
    subst H
    exact xN
theorem lex_Digit_c (a0 : UInt8) (r : Bool) (H : lex_Digit a0 = some r) : PC pf_lex_Digit [dU a0] (dB r) := PF.c (a := a0) H
noncomputable def lex_lexer_one_1_j1 : Bool → Option Bool
  | x1 => some x1
noncomputable def lex_lexer_one_1 (a0 : UInt8) : Option Bool :=
  (lex_Letter a0).bind fun r1 => if r1 = true then lex_lexer_one_1_j1 true else (lex_Digit a0).bind fun r2 => lex_lexer_one_1_j1 r2
noncomputable def pf_lex_lexer_one_1 : PF := PF.of (E1 dU) (fun a => lex_lexer_one_1 a) dB
set_option maxRecDepth 100000 in
set_option maxHeartbeats 4000000 in
theorem lex_lexer_one_1_ok : PureOk Try.prog 82 pf_lex_lexer_one_1 := by
  refine xF mixed [(81, pf_lex_Letter), (83, pf_lex_Digit)] [] ⟨⟨call_81, lex_Letter_ok⟩, ⟨call_83, lex_Digit_ok⟩, trivial⟩ trivial Try.func82 ?_
  rintro a0 out H
  have G := True.intro
  have Y := Try.results82
  simp only [lex_lexer_one_1] at H
  refine xS ?_
  refine xr0 ?_
  refine then_normal ?_
  refine w_cut lex_lexer_one_1_j1 (fun s => [(2, .c (.d (.v (.bool s))))]) (fun s => []) [] out ?_ ?_
  · obtain ⟨r1, hr1, H⟩ := osplit H
    have F := xC Y (lex_Letter_c a0 r1 hr1)
    rcases bsplit H with ⟨hp1, H⟩ | ⟨hp1, H⟩
    · obtain ⟨F, G, hq1⟩ := xH F G hp1
      refine xR ?_
      exact cut_at H (xK ⟨[], []⟩)
    · obtain ⟨F, G, hq1⟩ := xH F G hp1
      obtain ⟨r2, hr2, H⟩ := osplit H
      have F := xCf F (lex_Digit_c a0 r2 hr2)
      refine xR ?_
      exact cut_at H (xK ⟨[], []⟩)
  · rintro x1 H
    rw [lex_lexer_one_1_j1] at H
    replace H := Option.some.inj H
    refine xS ?_
    subst H
    exact xN
theorem lex_lexer_one_1_c (a0 : UInt8) (r : Bool) (H : lex_lexer_one_1 a0 = some r) : PC pf_lex_lexer_one_1 [dU a0] (dB r) := PF.c (a := a0) H
noncomputable def lex_lexer_while_v2_j2 (x1 : Int) : Bool → Option (Int ⊕ Int)
  | x2 => if x2 = true then some (.inl (IntKind.i64.wrap (x1 + 1))) else inrO (some x1)
noncomputable def lex_lexer_while_v2_b1 (a1 : List UInt8) : Int → Option (Int ⊕ Int)
  | x1 => if (ltI x1 (a1.length : Int)) = true then if (0 : Int) ≤ x1 ∧ x1.toNat < a1.length then (lex_lexer_one_1 (a1.getD x1.toNat 0)).bind fun r1 => lex_lexer_while_v2_j2 x1 r1 else none else lex_lexer_while_v2_j2 x1 false
noncomputable def lex_lexer_while_v2 (a0 : Int) (a1 : List UInt8) (a2 : List Int) (a3 : List UInt8) (a4 : Int) (a5 : Int) (a6 : List Token) : Option Int :=
  loopO (lex_lexer_while_v2_b1 a1) a0
def g_lex_lexer_while_v2 (a0 : Int) (a1 : List UInt8) (a2 : List Int) (a3 : List UInt8) (a4 : Int) (a5 : Int) (a6 : List Token) (r : Int) : GI :=
  ⟨[.c (.pt 1 0), .c (.d (.v (.int .i64 a0))), .c (.d (.v (.func (.func 82) #[] #[])))], [[.d (.v (str a1)), .d (.sl 1 (List.map dI a2)), .d (.v (str a3)), .d (.v (.int .i64 a4)), .d (.v (.int .i64 a5)), .sl 11 (List.map d_Token a6) 2]], [45], .ret (.c (.d (.v (.int .i64 r)))) [[.d (.v (str a1)), .d (.sl 1 (List.map dI a2)), .d (.v (str a3)), .d (.v (.int .i64 a4)), .d (.v (.int .i64 a5)), .sl 11 (List.map d_Token a6) 2]] [45]⟩
def S_lex_lexer_while_v2 : GI → Prop := fun g => ∃ (a0 : Int) (a1 : List UInt8) (a2 : List Int) (a3 : List UInt8) (a4 : Int) (a5 : Int) (a6 : List Token) (r : Int), lex_lexer_while_v2 a0 a1 a2 a3 a4 a5 a6 = some r ∧ g = g_lex_lexer_while_v2 a0 a1 a2 a3 a4 a5 a6 r
theorem lex_lexer_while_v2_c (a0 : Int) (a1 : List UInt8) (a2 : List Int) (a3 : List UInt8) (a4 : Int) (a5 : Int) (a6 : List Token) (r : Int) (H : lex_lexer_while_v2 a0 a1 a2 a3 a4 a5 a6 = some r) : S_lex_lexer_while_v2 (g_lex_lexer_while_v2 a0 a1 a2 a3 a4 a5 a6 r) := ⟨a0, a1, a2, a3, a4, a5, a6, r, H, rfl⟩
set_option maxRecDepth 100000 in
set_option maxHeartbeats 4000000 in
theorem lex_lexer_while_v2_ok : ∀ g, S_lex_lexer_while_v2 g → GenOk Try.prog 79 g := by
  rintro _ ⟨a0, a1, a2, a3, a4, a5, a6, r, H, rfl⟩
  refine xGn mixed [(82, pf_lex_lexer_one_1)] [] [] ⟨⟨call_82, lex_lexer_one_1_ok⟩, trivial⟩ trivial trivial Try.func79 _ ?_
  have G := True.intro
  have Y := xZ y_9 <| xZ y_90 <| xZ y_99 <| xZ Try.results79 <| xZ d_Call.eq_1 <| xZ d_Token.eq_1 <| xZ d_Spliced.eq_1 <| g_lex_lexer_while_v2.eq_1
  dsimp only [g_lex_lexer_while_v2]
  simp only [lex_lexer_while_v2] at H
  refine xS ?_
  refine xr ?_
  refine w_loop (lex_lexer_while_v2_b1 a1) (fun s => [(0, .c (.pt 1 0)), (1, .c (.d (.v (.int .i64 s)))), (2, .c (.d (.v (.func (.func 82) #[] #[]))))]) (fun s => [[.d (.v (str a1)), .d (.sl 1 (List.map dI a2)), .d (.v (str a3)), .d (.v (.int .i64 a4)), .d (.v (.int .i64 a5)), .sl 11 (List.map d_Token a6) 2]]) [45] H (xK ⟨[1], [2]⟩) ?_
  rintro n1 x1 o1 H hF1
  rw [lex_lexer_while_v2_b1] at H
  refine w_seq ?_
  refine w_cut (lex_lexer_while_v2_j2 x1) (fun s => [(0, .c (.pt 1 0)), (1, .c (.d (.v (.int .i64 x1)))), (2, .c (.d (.v (.func (.func 82) #[] #[])))), (25, .c (.d (.v (.bool s))))]) (fun s => [[.d (.v (str a1)), .d (.sl 1 (List.map dI a2)), .d (.v (str a3)), .d (.v (.int .i64 a4)), .d (.v (.int .i64 a5)), .sl 11 (List.map d_Token a6) 2]]) [45] o1 ?_ ?_
  · rcases bsplit H with ⟨hp2, H⟩ | ⟨hp2, H⟩
    · obtain ⟨F, G, hq2⟩ := xH Y G hp2
      obtain ⟨hg1, H⟩ := gsplit H
      obtain ⟨r1, hr1, H⟩ := osplit H
      have F := xCf F (lex_lexer_one_1_c (a1.getD x1.toNat 0) r1 hr1)
      refine xR ?_
      exact cut_at H (xK ⟨[1], [2]⟩)
    · obtain ⟨F, G, hq2⟩ := xH Y G hp2
      refine xR ?_
      exact cut_at H (xK ⟨[1], [2]⟩)
  · rintro x2 H
    rw [lex_lexer_while_v2_j2] at H
    rcases bsplit H with ⟨hp1, H⟩ | ⟨hp1, H⟩
    · obtain ⟨F, G, hq1⟩ := xH Y G hp1
      refine xT ?_
      refine xr ?_
      exact round_at (inl_fin H hF1) (xK ⟨[1], [2]⟩)
    · obtain ⟨F, G, hq1⟩ := xH Y G hp1
      replace H := inrO_fin H hF1
      refine xE ?_
      replace H := Option.some.inj H
      refine xr ?_
      subst H
      refine xOr ?_
      refine qDf [] ?_
      exact xO ⟨[1], [2]⟩
theorem lex_lexer_while_v2_k : Callable Try.prog 79 ∧ (∀ g, S_lex_lexer_while_v2 g → GenOk Try.prog 79 g) ∧ (true = true → ∀ g, S_lex_lexer_while_v2 g → ∃ val bs ts, g.out = .ret val bs ts) :=
  ⟨call_79, lex_lexer_while_v2_ok, fun _ => by rintro _ ⟨_, _, _, _, _, _, _, _, _, rfl⟩; exact ⟨_, _, _, rfl⟩⟩
noncomputable def lex_lexer_number_j2 (x1 : Int) : Unit → Option (Int ⊕ Int)
  | () => some (.inl (IntKind.i64.wrap (x1 + 1)))
noncomputable def lex_lexer_number_j4 (x1 : Int) : Bool → Option (Int ⊕ Int)
  | x4 => if x4 = true then inrO (some x1) else lex_lexer_number_j2 x1 ()
noncomputable def lex_lexer_number_j3 (x1 : Int) : (UInt8 × Bool) → Option (Int ⊕ Int)
  | (x2, x3) => if x3 = true then lex_lexer_number_j2 x1 () else if (!eqI (x2.toNat : Int) 46) = true then (lex_Letter x2).bind fun r1 => if (!r1) = true then (lex_Digit x2).bind fun r2 => lex_lexer_number_j4 x1 (!r2) else lex_lexer_number_j4 x1 false else lex_lexer_number_j4 x1 false
noncomputable def lex_lexer_number_b1 (a0 : List UInt8) (a4 : Int) : Int → Option (Int ⊕ Int)
  | x1 => if (ltI x1 (a0.length : Int)) = true then if (0 : Int) ≤ x1 ∧ x1.toNat < a0.length then if (eqI ((a0.getD x1.toNat 0).toNat : Int) 43) = true then if (ltI a4 x1) = true then if (0 : Int) ≤ (IntKind.i64.wrap (x1 - 1)) ∧ (IntKind.i64.wrap (x1 - 1)).toNat < a0.length then if (eqI ((a0.getD ((IntKind.i64.wrap (x1 - 1)).toNat) 0).toNat : Int) 101) = true then lex_lexer_number_j3 x1 ((a0.getD x1.toNat 0), true) else if (0 : Int) ≤ (IntKind.i64.wrap (x1 - 1)) ∧ (IntKind.i64.wrap (x1 - 1)).toNat < a0.length then lex_lexer_number_j3 x1 ((a0.getD x1.toNat 0), eqI ((a0.getD ((IntKind.i64.wrap (x1 - 1)).toNat) 0).toNat : Int) 69) else none else none else lex_lexer_number_j3 x1 ((a0.getD x1.toNat 0), false) else if (eqI ((a0.getD x1.toNat 0).toNat : Int) 45) = true then if (ltI a4 x1) = true then if (0 : Int) ≤ (IntKind.i64.wrap (x1 - 1)) ∧ (IntKind.i64.wrap (x1 - 1)).toNat < a0.length then if (eqI ((a0.getD ((IntKind.i64.wrap (x1 - 1)).toNat) 0).toNat : Int) 101) = true then lex_lexer_number_j3 x1 ((a0.getD x1.toNat 0), true) else if (0 : Int) ≤ (IntKind.i64.wrap (x1 - 1)) ∧ (IntKind.i64.wrap (x1 - 1)).toNat < a0.length then lex_lexer_number_j3 x1 ((a0.getD x1.toNat 0), eqI ((a0.getD ((IntKind.i64.wrap (x1 - 1)).toNat) 0).toNat : Int) 69) else none else none else lex_lexer_number_j3 x1 ((a0.getD x1.toNat 0), false) else lex_lexer_number_j3 x1 ((a0.getD x1.toNat 0), false) else none else inrO (some x1)
noncomputable def lex_lexer_number (a0 : List UInt8) (a1 : List Int) (a2 : List UInt8) (a3 : Int) (a4 : Int) (a5 : List Token) : Option Int :=
  loopO (lex_lexer_number_b1 a0 a4) a4
def g_lex_lexer_number (a0 : List UInt8) (a1 : List Int) (a2 : List UInt8) (a3 : Int) (a4 : Int) (a5 : List Token) (r : Int) : GI :=
  ⟨[.c (.pt 1 0)], [[.d (.v (str a0)), .d (.sl 1 (List.map dI a1)), .d (.v (str a2)), .d (.v (.int .i64 a3)), .d (.v (.int .i64 a4)), .sl 11 (List.map d_Token a5) 2]], [45], .ret (.c (.d (.v (.int .i64 r)))) [[.d (.v (str a0)), .d (.sl 1 (List.map dI a1)), .d (.v (str a2)), .d (.v (.int .i64 a3)), .d (.v (.int .i64 a4)), .sl 11 (List.map d_Token a5) 2]] [45]⟩
def S_lex_lexer_number : GI → Prop := fun g => ∃ (a0 : List UInt8) (a1 : List Int) (a2 : List UInt8) (a3 : Int) (a4 : Int) (a5 : List Token) (r : Int), lex_lexer_number a0 a1 a2 a3 a4 a5 = some r ∧ g = g_lex_lexer_number a0 a1 a2 a3 a4 a5 r
theorem lex_lexer_number_c (a0 : List UInt8) (a1 : List Int) (a2 : List UInt8) (a3 : Int) (a4 : Int) (a5 : List Token) (r : Int) (H : lex_lexer_number a0 a1 a2 a3 a4 a5 = some r) : S_lex_lexer_number (g_lex_lexer_number a0 a1 a2 a3 a4 a5 r) := ⟨a0, a1, a2, a3, a4, a5, r, H, rfl⟩
set_option maxRecDepth 100000 in
set_option maxHeartbeats 4000000 in
theorem lex_lexer_number_ok : ∀ g, S_lex_lexer_number g → GenOk Try.prog 84 g := by
  rintro _ ⟨a0, a1, a2, a3, a4, a5, r, H, rfl⟩
  refine xGn mixed [(81, pf_lex_Letter), (83, pf_lex_Digit)] [] [] ⟨⟨call_81, lex_Letter_ok⟩, ⟨call_83, lex_Digit_ok⟩, trivial⟩ trivial trivial Try.func84 _ ?_
  have G := True.intro
  have Y := xZ y_3 <| xZ y_9 <| xZ y_90 <| xZ y_99 <| xZ Try.results84 <| xZ d_Call.eq_1 <| xZ d_Token.eq_1 <| xZ d_Spliced.eq_1 <| g_lex_lexer_number.eq_1
  dsimp only [g_lex_lexer_number]
  simp only [lex_lexer_number] at H
  refine xS ?_
  refine xr ?_
  refine xr ?_
  refine xr ?_
  refine w_loop (lex_lexer_number_b1 a0 a4) (fun s => [(0, .c (.pt 1 0)), (3, .c (.d (.v (str a0)))), (4, .c (.d (.v (.int .i64 s))))]) (fun s => [[.d (.v (str a0)), .d (.sl 1 (List.map dI a1)), .d (.v (str a2)), .d (.v (.int .i64 a3)), .d (.v (.int .i64 a4)), .sl 11 (List.map d_Token a5) 2]]) [45] H (xK ⟨[1], [2]⟩) ?_
  rintro n1 x1 o1 H hF1
  rw [lex_lexer_number_b1] at H
  refine xS ?_
  refine xr ?_
  rcases bsplit H with ⟨hp1, H⟩ | ⟨hp1, H⟩
  · obtain ⟨F, G, hq1⟩ := xH Y G hp1
    refine xT0 ?_
    refine w_skip ?_
    refine then_normal ?_
    refine w_block ?_
    refine w_cut (lex_lexer_number_j2 x1) (fun s => [(0, .c (.pt 1 0)), (3, .c (.d (.v (str a0)))), (4, .c (.d (.v (.int .i64 x1))))]) (fun s => [[.d (.v (str a0)), .d (.sl 1 (List.map dI a1)), .d (.v (str a2)), .d (.v (.int .i64 a3)), .d (.v (.int .i64 a4)), .sl 11 (List.map d_Token a5) 2]]) [45] o1 ?_ ?_
    · refine xS ?_
      obtain ⟨hg1, H⟩ := gsplit H
      refine xr0 ?_
      refine then_normal ?_
      refine w_block ?_
      refine w_cut (lex_lexer_number_j3 x1) (fun s => [(0, .c (.pt 1 0)), (3, .c (.d (.v (str a0)))), (4, .c (.d (.v (.int .i64 x1)))), (5, .c (.d (.v (.int .u8 (s.1.toNat : Int))))), (22, .c (.d (.v (.bool s.2))))]) (fun s => [[.d (.v (str a0)), .d (.sl 1 (List.map dI a1)), .d (.v (str a2)), .d (.v (.int .i64 a3)), .d (.v (.int .i64 a4)), .sl 11 (List.map d_Token a5) 2]]) [45] o1 ?_ ?_
      · rcases bsplit H with ⟨hp6, H⟩ | ⟨hp6, H⟩
        · obtain ⟨F, G, hq6⟩ := xH Y G hp6
          rcases bsplit H with ⟨hp7, H⟩ | ⟨hp7, H⟩
          · obtain ⟨F, G, hq7⟩ := xH F G hp7
            obtain ⟨hg2, H⟩ := gsplit H
            rcases bsplit H with ⟨hp8, H⟩ | ⟨hp8, H⟩
            · obtain ⟨F, G, hq8⟩ := xH F G hp8
              refine xR ?_
              exact cut_at H (xK ⟨[1], [2]⟩)
            · obtain ⟨F, G, hq8⟩ := xH F G hp8
              obtain ⟨hg3, H⟩ := gsplit H
              refine xR ?_
              exact cut_at H (xK ⟨[1], [2]⟩)
          · obtain ⟨F, G, hq7⟩ := xH F G hp7
            refine xR ?_
            exact cut_at H (xK ⟨[1], [2]⟩)
        · obtain ⟨F, G, hq6⟩ := xH Y G hp6
          rcases bsplit H with ⟨hp9, H⟩ | ⟨hp9, H⟩
          · obtain ⟨F, G, hq9⟩ := xH F G hp9
            rcases bsplit H with ⟨hp10, H⟩ | ⟨hp10, H⟩
            · obtain ⟨F, G, hq10⟩ := xH F G hp10
              obtain ⟨hg4, H⟩ := gsplit H
              rcases bsplit H with ⟨hp11, H⟩ | ⟨hp11, H⟩
              · obtain ⟨F, G, hq11⟩ := xH F G hp11
                refine xR ?_
                exact cut_at H (xK ⟨[1], [2]⟩)
              · obtain ⟨F, G, hq11⟩ := xH F G hp11
                obtain ⟨hg5, H⟩ := gsplit H
                refine xR ?_
                exact cut_at H (xK ⟨[1], [2]⟩)
            · obtain ⟨F, G, hq10⟩ := xH F G hp10
              refine xR ?_
              exact cut_at H (xK ⟨[1], [2]⟩)
          · obtain ⟨F, G, hq9⟩ := xH F G hp9
            refine xR ?_
            exact cut_at H (xK ⟨[1], [2]⟩)
      · rintro ⟨x2, x3⟩ H
        rw [lex_lexer_number_j3] at H
        rcases bsplit H with ⟨hp2, H⟩ | ⟨hp2, H⟩
        · obtain ⟨F, G, hq2⟩ := xH Y G hp2
          refine xT ?_
          exact cut_at H (xK ⟨[1], [2]⟩)
        · obtain ⟨F, G, hq2⟩ := xH Y G hp2
          refine xE0 ?_
          refine w_cut (lex_lexer_number_j4 x1) (fun s => [(0, .c (.pt 1 0)), (3, .c (.d (.v (str a0)))), (4, .c (.d (.v (.int .i64 x1)))), (51, .c (.d (.v (.bool s))))]) (fun s => [[.d (.v (str a0)), .d (.sl 1 (List.map dI a1)), .d (.v (str a2)), .d (.v (.int .i64 a3)), .d (.v (.int .i64 a4)), .sl 11 (List.map d_Token a5) 2]]) [45] o1 ?_ ?_
          · rcases bsplit H with ⟨hp4, H⟩ | ⟨hp4, H⟩
            · obtain ⟨F, G, hq4⟩ := xH Y G hp4
              obtain ⟨r1, hr1, H⟩ := osplit H
              have F := xCf F (lex_Letter_c x2 r1 hr1)
              rcases bsplit H with ⟨hp5, H⟩ | ⟨hp5, H⟩
              · obtain ⟨F, G, hq5⟩ := xH F G hp5
                obtain ⟨r2, hr2, H⟩ := osplit H
                have F := xCf F (lex_Digit_c x2 r2 hr2)
                refine xR ?_
                exact cut_at H (xK ⟨[1], [2]⟩)
              · obtain ⟨F, G, hq5⟩ := xH F G hp5
                refine xR ?_
                exact cut_at H (xK ⟨[1], [2]⟩)
            · obtain ⟨F, G, hq4⟩ := xH Y G hp4
              refine xR ?_
              exact cut_at H (xK ⟨[1], [2]⟩)
          · rintro x4 H
            rw [lex_lexer_number_j4] at H
            rcases bsplit H with ⟨hp3, H⟩ | ⟨hp3, H⟩
            · obtain ⟨F, G, hq3⟩ := xH Y G hp3
              refine xT ?_
              replace H := inrO_fin H hF1
              replace H := Option.some.inj H
              refine xr ?_
              subst H
              refine xOr ?_
              refine qDf [] ?_
              exact xO ⟨[1], [2]⟩
            · obtain ⟨F, G, hq3⟩ := xH Y G hp3
              refine xE ?_
              exact cut_at H (xK ⟨[1], [2]⟩)
    · rintro ⟨⟩ H
      rw [lex_lexer_number_j2] at H
      refine xr ?_
      exact round_at (inl_fin H hF1) (xK ⟨[1], [2]⟩)
  · obtain ⟨F, G, hq1⟩ := xH Y G hp1
    replace H := inrO_fin H hF1
    refine xE ?_
    replace H := Option.some.inj H
    refine xr ?_
    subst H
    refine xOr ?_
    refine qDf [] ?_
    exact xO ⟨[1], [2]⟩
theorem lex_lexer_number_k : Callable Try.prog 84 ∧ (∀ g, S_lex_lexer_number g → GenOk Try.prog 84 g) ∧ (true = true → ∀ g, S_lex_lexer_number g → ∃ val bs ts, g.out = .ret val bs ts) :=
  ⟨call_84, lex_lexer_number_ok, fun _ => by rintro _ ⟨_, _, _, _, _, _, _, _, rfl⟩; exact ⟨_, _, _, rfl⟩⟩
noncomputable def lex_lexer_quoted_j3 : (UInt8 × Int) → Option ((UInt8 × Int) ⊕ Int)
  | (x5, x6) => some (.inl (x5, IntKind.i64.wrap (x6 + 1)))
noncomputable def lex_lexer_quoted_j4 (x2 : Int) : (UInt8 × Bool) → Option ((UInt8 × Int) ⊕ Int)
  | (x7, x8) => if x8 = true then lex_lexer_quoted_j3 (x7, IntKind.i64.wrap (x2 + 1)) else lex_lexer_quoted_j3 (x7, x2)
noncomputable def lex_lexer_quoted_j2 (a1 : List UInt8) (x2 : Int) : (UInt8 × Bool) → Option ((UInt8 × Int) ⊕ Int)
  | (x3, x4) => if x4 = true then if (0 : Int) ≤ x2 ∧ x2.toNat < a1.length then if (eqI ((a1.getD x2.toNat 0).toNat : Int) (x3.toNat : Int)) = true then inrO (some (IntKind.i64.wrap (x2 + 1))) else if (eqI ((a1.getD x2.toNat 0).toNat : Int) 92) = true then if (ltI (IntKind.i64.wrap (x2 + 1)) (a1.length : Int)) = true then if (0 : Int) ≤ (IntKind.i64.wrap (x2 + 1)) ∧ (IntKind.i64.wrap (x2 + 1)).toNat < a1.length then lex_lexer_quoted_j4 x2 (x3, !eqI ((a1.getD ((IntKind.i64.wrap (x2 + 1)).toNat) 0).toNat : Int) 10) else none else lex_lexer_quoted_j4 x2 (x3, false) else lex_lexer_quoted_j3 (x3, x2) else none else inrO (some (-1))
noncomputable def lex_lexer_quoted_b1 (a1 : List UInt8) : (UInt8 × Int) → Option ((UInt8 × Int) ⊕ Int)
  | (x1, x2) => if (ltI x2 (a1.length : Int)) = true then if (0 : Int) ≤ x2 ∧ x2.toNat < a1.length then lex_lexer_quoted_j2 a1 x2 (x1, !eqI ((a1.getD x2.toNat 0).toNat : Int) 10) else none else lex_lexer_quoted_j2 a1 x2 (x1, false)
noncomputable def lex_lexer_quoted (a0 : UInt8) (a1 : List UInt8) (a2 : List Int) (a3 : List UInt8) (a4 : Int) (a5 : Int) (a6 : List Token) : Option Int :=
  loopO (lex_lexer_quoted_b1 a1) (a0, IntKind.i64.wrap (a5 + 1))
def g_lex_lexer_quoted (a0 : UInt8) (a1 : List UInt8) (a2 : List Int) (a3 : List UInt8) (a4 : Int) (a5 : Int) (a6 : List Token) (r : Int) : GI :=
  ⟨[.c (.pt 1 0), .c (.d (.v (.int .u8 (a0.toNat : Int))))], [[.d (.v (str a1)), .d (.sl 1 (List.map dI a2)), .d (.v (str a3)), .d (.v (.int .i64 a4)), .d (.v (.int .i64 a5)), .sl 11 (List.map d_Token a6) 2]], [45], .ret (.c (.d (.v (.int .i64 r)))) [[.d (.v (str a1)), .d (.sl 1 (List.map dI a2)), .d (.v (str a3)), .d (.v (.int .i64 a4)), .d (.v (.int .i64 a5)), .sl 11 (List.map d_Token a6) 2]] [45]⟩
def S_lex_lexer_quoted : GI → Prop := fun g => ∃ (a0 : UInt8) (a1 : List UInt8) (a2 : List Int) (a3 : List UInt8) (a4 : Int) (a5 : Int) (a6 : List Token) (r : Int), lex_lexer_quoted a0 a1 a2 a3 a4 a5 a6 = some r ∧ g = g_lex_lexer_quoted a0 a1 a2 a3 a4 a5 a6 r
theorem lex_lexer_quoted_c (a0 : UInt8) (a1 : List UInt8) (a2 : List Int) (a3 : List UInt8) (a4 : Int) (a5 : Int) (a6 : List Token) (r : Int) (H : lex_lexer_quoted a0 a1 a2 a3 a4 a5 a6 = some r) : S_lex_lexer_quoted (g_lex_lexer_quoted a0 a1 a2 a3 a4 a5 a6 r) := ⟨a0, a1, a2, a3, a4, a5, a6, r, H, rfl⟩
set_option maxRecDepth 100000 in
set_option maxHeartbeats 4000000 in
theorem lex_lexer_quoted_ok : ∀ g, S_lex_lexer_quoted g → GenOk Try.prog 85 g := by
  rintro _ ⟨a0, a1, a2, a3, a4, a5, a6, r, H, rfl⟩
  refine xGn mixed [] [] [] trivial trivial trivial Try.func85 _ ?_
  have G := True.intro
  have Y := xZ y_3 <| xZ y_9 <| xZ y_90 <| xZ y_99 <| xZ Try.results85 <| xZ d_Call.eq_1 <| xZ d_Token.eq_1 <| xZ d_Spliced.eq_1 <| g_lex_lexer_quoted.eq_1
  dsimp only [g_lex_lexer_quoted]
  simp only [lex_lexer_quoted] at H
  refine xS ?_
  refine xr ?_
  refine xr ?_
  refine xr ?_
  refine w_loop (lex_lexer_quoted_b1 a1) (fun s => [(1, .c (.d (.v (.int .u8 (s.1.toNat : Int))))), (5, .c (.d (.v (str a1)))), (6, .c (.d (.v (.int .i64 s.2))))]) (fun s => [[.d (.v (str a1)), .d (.sl 1 (List.map dI a2)), .d (.v (str a3)), .d (.v (.int .i64 a4)), .d (.v (.int .i64 a5)), .sl 11 (List.map d_Token a6) 2]]) [45] H (xK ⟨[1], [2]⟩) ?_
  rintro n1 ⟨x1, x2⟩ o1 H hF1
  rw [lex_lexer_quoted_b1] at H
  refine w_seq ?_
  refine w_cut (lex_lexer_quoted_j2 a1 x2) (fun s => [(1, .c (.d (.v (.int .u8 (s.1.toNat : Int))))), (5, .c (.d (.v (str a1)))), (6, .c (.d (.v (.int .i64 x2)))), (26, .c (.d (.v (.bool s.2))))]) (fun s => [[.d (.v (str a1)), .d (.sl 1 (List.map dI a2)), .d (.v (str a3)), .d (.v (.int .i64 a4)), .d (.v (.int .i64 a5)), .sl 11 (List.map d_Token a6) 2]]) [45] o1 ?_ ?_
  · rcases bsplit H with ⟨hp6, H⟩ | ⟨hp6, H⟩
    · obtain ⟨F, G, hq6⟩ := xH Y G hp6
      obtain ⟨hg3, H⟩ := gsplit H
      refine xR ?_
      exact cut_at H (xK ⟨[1], [2]⟩)
    · obtain ⟨F, G, hq6⟩ := xH Y G hp6
      refine xR ?_
      exact cut_at H (xK ⟨[1], [2]⟩)
  · rintro ⟨x3, x4⟩ H
    rw [lex_lexer_quoted_j2] at H
    rcases bsplit H with ⟨hp1, H⟩ | ⟨hp1, H⟩
    · obtain ⟨F, G, hq1⟩ := xH Y G hp1
      refine xT0 ?_
      refine w_skip ?_
      refine then_normal ?_
      refine w_cut lex_lexer_quoted_j3 (fun s => [(1, .c (.d (.v (.int .u8 (s.1.toNat : Int))))), (5, .c (.d (.v (str a1)))), (6, .c (.d (.v (.int .i64 s.2))))]) (fun s => [[.d (.v (str a1)), .d (.sl 1 (List.map dI a2)), .d (.v (str a3)), .d (.v (.int .i64 a4)), .d (.v (.int .i64 a5)), .sl 11 (List.map d_Token a6) 2]]) [45] o1 ?_ ?_
      · refine xS ?_
        obtain ⟨hg1, H⟩ := gsplit H
        refine xr ?_
        refine xr ?_
        rcases bsplit H with ⟨hp2, H⟩ | ⟨hp2, H⟩
        · obtain ⟨F, G, hq2⟩ := xH Y G hp2
          refine xT ?_
          replace H := inrO_fin H hF1
          replace H := Option.some.inj H
          refine xr ?_
          subst H
          refine xOr ?_
          refine qDf [] ?_
          exact xO ⟨[1], [2]⟩
        · obtain ⟨F, G, hq2⟩ := xH Y G hp2
          refine xE ?_
          refine xr ?_
          rcases bsplit H with ⟨hp3, H⟩ | ⟨hp3, H⟩
          · obtain ⟨F, G, hq3⟩ := xH Y G hp3
            refine xT0 ?_
            refine w_cut (lex_lexer_quoted_j4 x2) (fun s => [(1, .c (.d (.v (.int .u8 (s.1.toNat : Int))))), (5, .c (.d (.v (str a1)))), (6, .c (.d (.v (.int .i64 x2)))), (50, .c (.d (.v (.bool s.2))))]) (fun s => [[.d (.v (str a1)), .d (.sl 1 (List.map dI a2)), .d (.v (str a3)), .d (.v (.int .i64 a4)), .d (.v (.int .i64 a5)), .sl 11 (List.map d_Token a6) 2]]) [45] o1 ?_ ?_
            · rcases bsplit H with ⟨hp5, H⟩ | ⟨hp5, H⟩
              · obtain ⟨F, G, hq5⟩ := xH Y G hp5
                obtain ⟨hg2, H⟩ := gsplit H
                refine xR ?_
                exact cut_at H (xK ⟨[1], [2]⟩)
              · obtain ⟨F, G, hq5⟩ := xH Y G hp5
                refine xR ?_
                exact cut_at H (xK ⟨[1], [2]⟩)
            · rintro ⟨x7, x8⟩ H
              rw [lex_lexer_quoted_j4] at H
              rcases bsplit H with ⟨hp4, H⟩ | ⟨hp4, H⟩
              · obtain ⟨F, G, hq4⟩ := xH Y G hp4
                refine xT ?_
                refine xr ?_
                exact cut_at H (xK ⟨[1], [2]⟩)
              · obtain ⟨F, G, hq4⟩ := xH Y G hp4
                refine xE ?_
                exact cut_at H (xK ⟨[1], [2]⟩)
          · obtain ⟨F, G, hq3⟩ := xH Y G hp3
            refine xE ?_
            exact cut_at H (xK ⟨[1], [2]⟩)
      · rintro ⟨x5, x6⟩ H
        rw [lex_lexer_quoted_j3] at H
        refine xr ?_
        exact round_at (inl_fin H hF1) (xK ⟨[1], [2]⟩)
    · obtain ⟨F, G, hq1⟩ := xH Y G hp1
      replace H := inrO_fin H hF1
      refine xE ?_
      replace H := Option.some.inj H
      refine xr ?_
      subst H
      refine xOr ?_
      refine qDf [] ?_
      exact xO ⟨[1], [2]⟩
theorem lex_lexer_quoted_k : Callable Try.prog 85 ∧ (∀ g, S_lex_lexer_quoted g → GenOk Try.prog 85 g) ∧ (true = true → ∀ g, S_lex_lexer_quoted g → ∃ val bs ts, g.out = .ret val bs ts) :=
  ⟨call_85, lex_lexer_quoted_ok, fun _ => by rintro _ ⟨_, _, _, _, _, _, _, _, _, rfl⟩; exact ⟨_, _, _, rfl⟩⟩
noncomputable def lex_lexer_path_1_j1 : Bool → Option Bool
  | x1 => some x1
noncomputable def lex_lexer_path_1 (a0 : UInt8) : Option Bool :=
  if (!eqI (a0.toNat : Int) 62) = true then lex_lexer_path_1_j1 (!eqI (a0.toNat : Int) 10) else lex_lexer_path_1_j1 false
noncomputable def pf_lex_lexer_path_1 : PF := PF.of (E1 dU) (fun a => lex_lexer_path_1 a) dB
set_option maxRecDepth 100000 in
set_option maxHeartbeats 4000000 in
theorem lex_lexer_path_1_ok : PureOk Try.prog 95 pf_lex_lexer_path_1 := by
  refine xF mixed [] [] trivial trivial Try.func95 ?_
  rintro a0 out H
  have G := True.intro
  have Y := Try.results95
  simp only [lex_lexer_path_1] at H
  refine xS ?_
  refine xr0 ?_
  refine then_normal ?_
  refine w_cut lex_lexer_path_1_j1 (fun s => [(2, .c (.d (.v (.bool s))))]) (fun s => []) [] out ?_ ?_
  · rcases bsplit H with ⟨hp1, H⟩ | ⟨hp1, H⟩
    · obtain ⟨F, G, hq1⟩ := xH Y G hp1
      refine xR ?_
      exact cut_at H (xK ⟨[], []⟩)
    · obtain ⟨F, G, hq1⟩ := xH Y G hp1
      refine xR ?_
      exact cut_at H (xK ⟨[], []⟩)
  · rintro x1 H
    rw [lex_lexer_path_1_j1] at H
    replace H := Option.some.inj H
    refine xS ?_
    subst H
    exact xN
theorem lex_lexer_path_1_c (a0 : UInt8) (r : Bool) (H : lex_lexer_path_1 a0 = some r) : PC pf_lex_lexer_path_1 [dU a0] (dB r) := PF.c (a := a0) H
noncomputable def lex_lexer_while_v3_j2 (x1 : Int) : Bool → Option (Int ⊕ Int)
  | x2 => if x2 = true then some (.inl (IntKind.i64.wrap (x1 + 1))) else inrO (some x1)
noncomputable def lex_lexer_while_v3_b1 (a1 : List UInt8) : Int → Option (Int ⊕ Int)
  | x1 => if (ltI x1 (a1.length : Int)) = true then if (0 : Int) ≤ x1 ∧ x1.toNat < a1.length then (lex_lexer_path_1 (a1.getD x1.toNat 0)).bind fun r1 => lex_lexer_while_v3_j2 x1 r1 else none else lex_lexer_while_v3_j2 x1 false
noncomputable def lex_lexer_while_v3 (a0 : Int) (a1 : List UInt8) (a2 : List Int) (a3 : List UInt8) (a4 : Int) (a5 : Int) (a6 : List Token) : Option Int :=
  loopO (lex_lexer_while_v3_b1 a1) a0
def g_lex_lexer_while_v3 (a0 : Int) (a1 : List UInt8) (a2 : List Int) (a3 : List UInt8) (a4 : Int) (a5 : Int) (a6 : List Token) (r : Int) : GI :=
  ⟨[.c (.pt 1 0), .c (.d (.v (.int .i64 a0))), .c (.d (.v (.func (.func 95) #[] #[])))], [[.d (.v (str a1)), .d (.sl 1 (List.map dI a2)), .d (.v (str a3)), .d (.v (.int .i64 a4)), .d (.v (.int .i64 a5)), .sl 11 (List.map d_Token a6) 2]], [45], .ret (.c (.d (.v (.int .i64 r)))) [[.d (.v (str a1)), .d (.sl 1 (List.map dI a2)), .d (.v (str a3)), .d (.v (.int .i64 a4)), .d (.v (.int .i64 a5)), .sl 11 (List.map d_Token a6) 2]] [45]⟩
def S_lex_lexer_while_v3 : GI → Prop := fun g => ∃ (a0 : Int) (a1 : List UInt8) (a2 : List Int) (a3 : List UInt8) (a4 : Int) (a5 : Int) (a6 : List Token) (r : Int), lex_lexer_while_v3 a0 a1 a2 a3 a4 a5 a6 = some r ∧ g = g_lex_lexer_while_v3 a0 a1 a2 a3 a4 a5 a6 r
theorem lex_lexer_while_v3_c (a0 : Int) (a1 : List UInt8) (a2 : List Int) (a3 : List UInt8) (a4 : Int) (a5 : Int) (a6 : List Token) (r : Int) (H : lex_lexer_while_v3 a0 a1 a2 a3 a4 a5 a6 = some r) : S_lex_lexer_while_v3 (g_lex_lexer_while_v3 a0 a1 a2 a3 a4 a5 a6 r) := ⟨a0, a1, a2, a3, a4, a5, a6, r, H, rfl⟩
set_option maxRecDepth 100000 in
set_option maxHeartbeats 4000000 in
theorem lex_lexer_while_v3_ok : ∀ g, S_lex_lexer_while_v3 g → GenOk Try.prog 79 g := by
  rintro _ ⟨a0, a1, a2, a3, a4, a5, a6, r, H, rfl⟩
  refine xGn mixed [(95, pf_lex_lexer_path_1)] [] [] ⟨⟨call_95, lex_lexer_path_1_ok⟩, trivial⟩ trivial trivial Try.func79 _ ?_
  have G := True.intro
  have Y := xZ y_9 <| xZ y_90 <| xZ y_99 <| xZ Try.results79 <| xZ d_Call.eq_1 <| xZ d_Token.eq_1 <| xZ d_Spliced.eq_1 <| g_lex_lexer_while_v3.eq_1
  dsimp only [g_lex_lexer_while_v3]
  simp only [lex_lexer_while_v3] at H
  refine xS ?_
  refine xr ?_
  refine w_loop (lex_lexer_while_v3_b1 a1) (fun s => [(0, .c (.pt 1 0)), (1, .c (.d (.v (.int .i64 s)))), (2, .c (.d (.v (.func (.func 95) #[] #[]))))]) (fun s => [[.d (.v (str a1)), .d (.sl 1 (List.map dI a2)), .d (.v (str a3)), .d (.v (.int .i64 a4)), .d (.v (.int .i64 a5)), .sl 11 (List.map d_Token a6) 2]]) [45] H (xK ⟨[1], [2]⟩) ?_
  rintro n1 x1 o1 H hF1
  rw [lex_lexer_while_v3_b1] at H
  refine w_seq ?_
  refine w_cut (lex_lexer_while_v3_j2 x1) (fun s => [(0, .c (.pt 1 0)), (1, .c (.d (.v (.int .i64 x1)))), (2, .c (.d (.v (.func (.func 95) #[] #[])))), (25, .c (.d (.v (.bool s))))]) (fun s => [[.d (.v (str a1)), .d (.sl 1 (List.map dI a2)), .d (.v (str a3)), .d (.v (.int .i64 a4)), .d (.v (.int .i64 a5)), .sl 11 (List.map d_Token a6) 2]]) [45] o1 ?_ ?_
  · rcases bsplit H with ⟨hp2, H⟩ | ⟨hp2, H⟩
    · obtain ⟨F, G, hq2⟩ := xH Y G hp2
      obtain ⟨hg1, H⟩ := gsplit H
      obtain ⟨r1, hr1, H⟩ := osplit H
      have F := xCf F (lex_lexer_path_1_c (a1.getD x1.toNat 0) r1 hr1)
      refine xR ?_
      exact cut_at H (xK ⟨[1], [2]⟩)
    · obtain ⟨F, G, hq2⟩ := xH Y G hp2
      refine xR ?_
      exact cut_at H (xK ⟨[1], [2]⟩)
  · rintro x2 H
    rw [lex_lexer_while_v3_j2] at H
    rcases bsplit H with ⟨hp1, H⟩ | ⟨hp1, H⟩
    · obtain ⟨F, G, hq1⟩ := xH Y G hp1
      refine xT ?_
      refine xr ?_
      exact round_at (inl_fin H hF1) (xK ⟨[1], [2]⟩)
    · obtain ⟨F, G, hq1⟩ := xH Y G hp1
      replace H := inrO_fin H hF1
      refine xE ?_
      replace H := Option.some.inj H
      refine xr ?_
      subst H
      refine xOr ?_
      refine qDf [] ?_
      exact xO ⟨[1], [2]⟩
theorem lex_lexer_while_v3_k : Callable Try.prog 79 ∧ (∀ g, S_lex_lexer_while_v3 g → GenOk Try.prog 79 g) ∧ (true = true → ∀ g, S_lex_lexer_while_v3 g → ∃ val bs ts, g.out = .ret val bs ts) :=
  ⟨call_79, lex_lexer_while_v3_ok, fun _ => by rintro _ ⟨_, _, _, _, _, _, _, _, _, rfl⟩; exact ⟨_, _, _, rfl⟩⟩
noncomputable def lex_lexer_path_j2 (r1 : Int) : Bool → Option Int
  | x2 => if x2 = true then some (IntKind.i64.wrap (r1 + 1)) else some (-1)
noncomputable def lex_lexer_path_j1 (a0 : List UInt8) (a1 : List Int) (a2 : List UInt8) (a3 : Int) (a4 : Int) (a5 : List Token) : Bool → Option Int
  | x1 => if x1 = true then some (-1) else (lex_lexer_while_v3 (IntKind.i64.wrap (a4 + 1)) a0 a1 a2 a3 a4 a5).bind fun r1 => if (ltI r1 (a0.length : Int)) = true then if (0 : Int) ≤ r1 ∧ r1.toNat < a0.length then lex_lexer_path_j2 r1 (eqI ((a0.getD r1.toNat 0).toNat : Int) 62) else none else lex_lexer_path_j2 r1 false
noncomputable def lex_lexer_path (a0 : List UInt8) (a1 : List Int) (a2 : List UInt8) (a3 : Int) (a4 : Int) (a5 : List Token) : Option Int :=
  if (ltI (a5.length : Int) 2) = true then lex_lexer_path_j1 a0 a1 a2 a3 a4 a5 true else if (0 : Int) ≤ (IntKind.i64.wrap ((a5.length : Int) - 1)) ∧ (IntKind.i64.wrap ((a5.length : Int) - 1)).toNat < a5.length then if (!eqS ((a5.getD ((IntKind.i64.wrap ((a5.length : Int) - 1)).toNat) default).Text) [105, 110, 99, 108, 117, 100, 101]) = true then lex_lexer_path_j1 a0 a1 a2 a3 a4 a5 true else if (0 : Int) ≤ (IntKind.i64.wrap ((a5.length : Int) - 1)) ∧ (IntKind.i64.wrap ((a5.length : Int) - 1)).toNat < a5.length then if ((a5.getD ((IntKind.i64.wrap ((a5.length : Int) - 1)).toNat) default).First) = true then lex_lexer_path_j1 a0 a1 a2 a3 a4 a5 true else if (0 : Int) ≤ (IntKind.i64.wrap ((a5.length : Int) - 2)) ∧ (IntKind.i64.wrap ((a5.length : Int) - 2)).toNat < a5.length then if (!((a5.getD ((IntKind.i64.wrap ((a5.length : Int) - 2)).toNat) default).First)) = true then lex_lexer_path_j1 a0 a1 a2 a3 a4 a5 true else if (0 : Int) ≤ (IntKind.i64.wrap ((a5.length : Int) - 2)) ∧ (IntKind.i64.wrap ((a5.length : Int) - 2)).toNat < a5.length then lex_lexer_path_j1 a0 a1 a2 a3 a4 a5 (!eqS ((a5.getD ((IntKind.i64.wrap ((a5.length : Int) - 2)).toNat) default).Text) [35]) else none else none else none else none
def g_lex_lexer_path (a0 : List UInt8) (a1 : List Int) (a2 : List UInt8) (a3 : Int) (a4 : Int) (a5 : List Token) (r : Int) : GI :=
  ⟨[.c (.pt 1 0)], [[.d (.v (str a0)), .d (.sl 1 (List.map dI a1)), .d (.v (str a2)), .d (.v (.int .i64 a3)), .d (.v (.int .i64 a4)), .sl 11 (List.map d_Token a5) 2]], [45], .ret (.c (.d (.v (.int .i64 r)))) [[.d (.v (str a0)), .d (.sl 1 (List.map dI a1)), .d (.v (str a2)), .d (.v (.int .i64 a3)), .d (.v (.int .i64 a4)), .sl 11 (List.map d_Token a5) 2]] [45]⟩
def S_lex_lexer_path : GI → Prop := fun g => ∃ (a0 : List UInt8) (a1 : List Int) (a2 : List UInt8) (a3 : Int) (a4 : Int) (a5 : List Token) (r : Int), lex_lexer_path a0 a1 a2 a3 a4 a5 = some r ∧ g = g_lex_lexer_path a0 a1 a2 a3 a4 a5 r
theorem lex_lexer_path_c (a0 : List UInt8) (a1 : List Int) (a2 : List UInt8) (a3 : Int) (a4 : Int) (a5 : List Token) (r : Int) (H : lex_lexer_path a0 a1 a2 a3 a4 a5 = some r) : S_lex_lexer_path (g_lex_lexer_path a0 a1 a2 a3 a4 a5 r) := ⟨a0, a1, a2, a3, a4, a5, r, H, rfl⟩
set_option maxRecDepth 100000 in
set_option maxHeartbeats 4000000 in
theorem lex_lexer_path_ok : ∀ g, S_lex_lexer_path g → GenOk Try.prog 86 g := by
  rintro _ ⟨a0, a1, a2, a3, a4, a5, r, H, rfl⟩
  refine xGn mixed [] [(79, true, S_lex_lexer_while_v3)] [] trivial ⟨lex_lexer_while_v3_k, trivial⟩ trivial Try.func86 _ ?_
  have G := True.intro
  have Y := xZ y_3 <| xZ y_4 <| xZ y_9 <| xZ y_30 <| xZ y_45 <| xZ y_90 <| xZ y_99 <| xZ Try.results86 <| xZ d_Call.eq_1 <| xZ d_Token.eq_1 <| xZ d_Spliced.eq_1 <| xZ g_lex_lexer_while_v3.eq_1 <| g_lex_lexer_path.eq_1
  dsimp only [g_lex_lexer_path]
  simp only [lex_lexer_path] at H
  refine xS ?_
  refine xr ?_
  refine xr0 ?_
  refine then_normal ?_
  refine w_seq ?_
  refine w_cut (lex_lexer_path_j1 a0 a1 a2 a3 a4 a5) (fun s => [(0, .c (.pt 1 0)), (58, .c (.d (.v (.bool s))))]) (fun s => [[.d (.v (str a0)), .d (.sl 1 (List.map dI a1)), .d (.v (str a2)), .d (.v (.int .i64 a3)), .d (.v (.int .i64 a4)), .sl 11 (List.map d_Token a5) 2]]) [45] r ?_ ?_
  · rcases bsplit H with ⟨hp4, H⟩ | ⟨hp4, H⟩
    · obtain ⟨F, G, hq4⟩ := xH Y G hp4
      refine xR ?_
      exact cut_at H (xK ⟨[1], [2]⟩)
    · obtain ⟨F, G, hq4⟩ := xH Y G hp4
      obtain ⟨hg2, H⟩ := gsplit H
      have F := xZ F (map_getD d_Token a5 ((IntKind.i64.wrap ((a5.length : Int) - 1)).toNat) default default (by omega))
      rcases bsplit H with ⟨hp5, H⟩ | ⟨hp5, H⟩
      · obtain ⟨F, G, hq5⟩ := xH F G hp5
        refine xR ?_
        exact cut_at H (xK ⟨[1], [2]⟩)
      · obtain ⟨F, G, hq5⟩ := xH F G hp5
        obtain ⟨hg3, H⟩ := gsplit H
        have F := xZ F (map_getD d_Token a5 ((IntKind.i64.wrap ((a5.length : Int) - 1)).toNat) default default (by omega))
        rcases bsplit H with ⟨hp6, H⟩ | ⟨hp6, H⟩
        · obtain ⟨F, G, hq6⟩ := xH F G hp6
          refine xR ?_
          exact cut_at H (xK ⟨[1], [2]⟩)
        · obtain ⟨F, G, hq6⟩ := xH F G hp6
          obtain ⟨hg4, H⟩ := gsplit H
          have F := xZ F (map_getD d_Token a5 ((IntKind.i64.wrap ((a5.length : Int) - 2)).toNat) default default (by omega))
          rcases bsplit H with ⟨hp7, H⟩ | ⟨hp7, H⟩
          · obtain ⟨F, G, hq7⟩ := xH F G hp7
            refine xR ?_
            exact cut_at H (xK ⟨[1], [2]⟩)
          · obtain ⟨F, G, hq7⟩ := xH F G hp7
            obtain ⟨hg5, H⟩ := gsplit H
            have F := xZ F (map_getD d_Token a5 ((IntKind.i64.wrap ((a5.length : Int) - 2)).toNat) default default (by omega))
            refine xR ?_
            exact cut_at H (xK ⟨[1], [2]⟩)
  · rintro x1 H
    rw [lex_lexer_path_j1] at H
    rcases bsplit H with ⟨hp1, H⟩ | ⟨hp1, H⟩
    · obtain ⟨F, G, hq1⟩ := xH Y G hp1
      refine xT ?_
      replace H := Option.some.inj H
      refine xr ?_
      subst H
      refine xOr ?_
      refine qDf [] ?_
      exact xO ⟨[1], [2]⟩
    · obtain ⟨F, G, hq1⟩ := xH Y G hp1
      refine xE ?_
      obtain ⟨r1, hr1, H⟩ := osplit H
      have F := Y
      refine xQ ?_
      refine xs 6 ?_
      refine xc ⟨[1], [2]⟩ (tabG 0 (lex_lexer_while_v3_c (IntKind.i64.wrap (a4 + 1)) a0 a1 a2 a3 a4 a5 r1 hr1)) ?_
      refine xs 1 ?_
      refine xl ?_
      refine  ?_
      refine then_normal ?_
      refine w_seq ?_
      refine w_cut (lex_lexer_path_j2 r1) (fun s => [(4, .c (.d (.v (.int .i64 r1)))), (83, .c (.d (.v (.bool s))))]) (fun s => [[.d (.v (str a0)), .d (.sl 1 (List.map dI a1)), .d (.v (str a2)), .d (.v (.int .i64 a3)), .d (.v (.int .i64 a4)), .sl 11 (List.map d_Token a5) 2]]) [45] r ?_ ?_
      · rcases bsplit H with ⟨hp3, H⟩ | ⟨hp3, H⟩
        · obtain ⟨F, G, hq3⟩ := xH Y G hp3
          obtain ⟨hg1, H⟩ := gsplit H
          refine xR ?_
          exact cut_at H (xK ⟨[1], [4]⟩)
        · obtain ⟨F, G, hq3⟩ := xH Y G hp3
          refine xR ?_
          exact cut_at H (xK ⟨[1], [4]⟩)
      · rintro x2 H
        rw [lex_lexer_path_j2] at H
        rcases bsplit H with ⟨hp2, H⟩ | ⟨hp2, H⟩
        · obtain ⟨F, G, hq2⟩ := xH Y G hp2
          refine xT ?_
          replace H := Option.some.inj H
          refine xr ?_
          subst H
          refine xOr ?_
          refine qDf [] ?_
          exact xO ⟨[1], [2]⟩
        · obtain ⟨F, G, hq2⟩ := xH Y G hp2
          refine xE ?_
          replace H := Option.some.inj H
          refine xr ?_
          subst H
          refine xOr ?_
          refine qDf [] ?_
          exact xO ⟨[1], [2]⟩
theorem lex_lexer_path_k : Callable Try.prog 86 ∧ (∀ g, S_lex_lexer_path g → GenOk Try.prog 86 g) ∧ (true = true → ∀ g, S_lex_lexer_path g → ∃ val bs ts, g.out = .ret val bs ts) :=
  ⟨call_86, lex_lexer_path_ok, fun _ => by rintro _ ⟨_, _, _, _, _, _, _, _, rfl⟩; exact ⟨_, _, _, rfl⟩⟩
noncomputable def lex_Signs  : Option (List (List UInt8)) :=
  some [[46, 46, 46], [60, 60, 61], [62, 62, 61], [45, 62], [43, 43], [45, 45], [60, 60], [62, 62], [60, 61], [62, 61], [61, 61], [33, 61], [38, 38], [124, 124], [43, 61], [45, 61], [42, 61], [47, 61], [37, 61], [38, 61], [124, 61], [94, 61], [35, 35], [91], [93], [40], [41], [123], [125], [46], [38], [42], [43], [45], [126], [33], [47], [37], [60], [62], [94], [124], [63], [58], [59], [61], [44], [35]]
noncomputable def pf_lex_Signs : PF := PF.of E0 (fun _ => lex_Signs) (dL 1 dS)
set_option maxRecDepth 100000 in
set_option maxHeartbeats 4000000 in
theorem lex_Signs_ok : PureOk Try.prog 96 pf_lex_Signs := by
  refine xF mixed [] [] trivial trivial Try.func96 ?_
  rintro _ out H
  have G := True.intro
  have Y := xZ y_9 <| xZ y_28 <| Try.results96
  simp only [lex_Signs] at H
  refine xS ?_
  refine xr ?_
  replace H := Option.some.inj H
  refine xr ?_
  subst H
  exact xN
theorem lex_Signs_c  (r : (List (List UInt8))) (H : lex_Signs  = some r) : PC pf_lex_Signs [] ((dL 1 dS) r) := PF.c (a := ()) H
noncomputable def lex_lexer_sign_j2 (a4 : Int) (x1 : Int) (x2 : Int) : ((List UInt8) × Bool) → Option ((Int × Int) ⊕ Int)
  | (x3, x4) => if x4 = true then inrO (some (IntKind.i64.wrap (a4 + (x3.length : Int)))) else some (.inl (x1, IntKind.i64.wrap (x2 + 1)))
noncomputable def lex_lexer_sign_b1 (a0 : List UInt8) (a4 : Int) (r1 : (List (List UInt8))) : (Int × Int) → Option ((Int × Int) ⊕ Int)
  | (x1, x2) => if (ltI x2 x1) = true then if (0 : Int) ≤ x2 ∧ x2.toNat < r1.length then if (leI ((r1.getD x2.toNat default).length : Int) (IntKind.i64.wrap ((a0.length : Int) - a4))) = true then if (0 : Int) ≤ a4 ∧ a4 ≤ (IntKind.i64.wrap (a4 + ((r1.getD x2.toNat default).length : Int))) ∧ (IntKind.i64.wrap (a4 + ((r1.getD x2.toNat default).length : Int))) ≤ (a0.length : Int) then lex_lexer_sign_j2 a4 x1 x2 ((r1.getD x2.toNat default), eqS (List.take ((IntKind.i64.wrap (a4 + ((r1.getD x2.toNat default).length : Int))).toNat - a4.toNat) (List.drop a4.toNat a0)) (r1.getD x2.toNat default)) else none else lex_lexer_sign_j2 a4 x1 x2 ((r1.getD x2.toNat default), false) else none else inrO (some (-1))
noncomputable def lex_lexer_sign (a0 : List UInt8) (a1 : List Int) (a2 : List UInt8) (a3 : Int) (a4 : Int) (a5 : List Token) : Option Int :=
  (lex_Signs).bind fun r1 => loopO (lex_lexer_sign_b1 a0 a4 r1) ((r1.length : Int), 0)
def g_lex_lexer_sign (a0 : List UInt8) (a1 : List Int) (a2 : List UInt8) (a3 : Int) (a4 : Int) (a5 : List Token) (r : Int) : GI :=
  ⟨[.c (.pt 1 0)], [[.d (.v (str a0)), .d (.sl 1 (List.map dI a1)), .d (.v (str a2)), .d (.v (.int .i64 a3)), .d (.v (.int .i64 a4)), .sl 11 (List.map d_Token a5) 2]], [45], .ret (.c (.d (.v (.int .i64 r)))) [[.d (.v (str a0)), .d (.sl 1 (List.map dI a1)), .d (.v (str a2)), .d (.v (.int .i64 a3)), .d (.v (.int .i64 a4)), .sl 11 (List.map d_Token a5) 2]] [45]⟩
def S_lex_lexer_sign : GI → Prop := fun g => ∃ (a0 : List UInt8) (a1 : List Int) (a2 : List UInt8) (a3 : Int) (a4 : Int) (a5 : List Token) (r : Int), lex_lexer_sign a0 a1 a2 a3 a4 a5 = some r ∧ g = g_lex_lexer_sign a0 a1 a2 a3 a4 a5 r
theorem lex_lexer_sign_c (a0 : List UInt8) (a1 : List Int) (a2 : List UInt8) (a3 : Int) (a4 : Int) (a5 : List Token) (r : Int) (H : lex_lexer_sign a0 a1 a2 a3 a4 a5 = some r) : S_lex_lexer_sign (g_lex_lexer_sign a0 a1 a2 a3 a4 a5 r) := ⟨a0, a1, a2, a3, a4, a5, r, H, rfl⟩
set_option maxRecDepth 100000 in
set_option maxHeartbeats 4000000 in
theorem lex_lexer_sign_ok : ∀ g, S_lex_lexer_sign g → GenOk Try.prog 87 g := by
  rintro _ ⟨a0, a1, a2, a3, a4, a5, r, H, rfl⟩
  refine xGn mixed [(96, pf_lex_Signs)] [] [] ⟨⟨call_96, lex_Signs_ok⟩, trivial⟩ trivial trivial Try.func87 _ ?_
  have G := True.intro
  have Y := xZ y_3 <| xZ y_9 <| xZ y_28 <| xZ y_90 <| xZ y_99 <| xZ Try.results87 <| xZ d_Call.eq_1 <| xZ d_Token.eq_1 <| xZ d_Spliced.eq_1 <| g_lex_lexer_sign.eq_1
  dsimp only [g_lex_lexer_sign]
  simp only [lex_lexer_sign] at H
  refine xS ?_
  refine xr ?_
  obtain ⟨r1, hr1, H⟩ := osplit H
  have F := xC Y (lex_Signs_c  r1 hr1)
  refine xR ?_
  refine w_loop (lex_lexer_sign_b1 a0 a4 r1) (fun s => [(0, .c (.pt 1 0)), (5, .c (.d (.sl 1 (List.map dS r1)))), (6, .c (.d (.v (.int .i64 s.1)))), (7, .c (.d (.v (.int .i64 s.2))))]) (fun s => [[.d (.v (str a0)), .d (.sl 1 (List.map dI a1)), .d (.v (str a2)), .d (.v (.int .i64 a3)), .d (.v (.int .i64 a4)), .sl 11 (List.map d_Token a5) 2]]) [45] H (xK ⟨[1], [2]⟩) ?_
  rintro n1 ⟨x1, x2⟩ o1 H hF1
  rw [lex_lexer_sign_b1] at H
  refine xS ?_
  refine xr ?_
  rcases bsplit H with ⟨hp1, H⟩ | ⟨hp1, H⟩
  · obtain ⟨F, G, hq1⟩ := xH Y G hp1
    refine xT ?_
    obtain ⟨hg1, H⟩ := gsplit H
    have F := xZ Y (map_getD dS r1 x2.toNat default default (by omega))
    refine xR0 ?_
    refine then_normal ?_
    refine w_cut (lex_lexer_sign_j2 a4 x1 x2) (fun s => [(0, .c (.pt 1 0)), (4, .c (.d (.v (str s.1)))), (5, .c (.d (.sl 1 (List.map dS r1)))), (6, .c (.d (.v (.int .i64 x1)))), (7, .c (.d (.v (.int .i64 x2)))), (45, .c (.d (.v (.bool s.2))))]) (fun s => [[.d (.v (str a0)), .d (.sl 1 (List.map dI a1)), .d (.v (str a2)), .d (.v (.int .i64 a3)), .d (.v (.int .i64 a4)), .sl 11 (List.map d_Token a5) 2]]) [45] o1 ?_ ?_
    · rcases bsplit H with ⟨hp3, H⟩ | ⟨hp3, H⟩
      · obtain ⟨F, G, hq3⟩ := xH Y G hp3
        obtain ⟨hg2, H⟩ := gsplit H
        refine xR ?_
        exact cut_at H (xK ⟨[1], [2]⟩)
      · obtain ⟨F, G, hq3⟩ := xH Y G hp3
        refine xR ?_
        exact cut_at H (xK ⟨[1], [2]⟩)
    · rintro ⟨x3, x4⟩ H
      rw [lex_lexer_sign_j2] at H
      rcases bsplit H with ⟨hp2, H⟩ | ⟨hp2, H⟩
      · obtain ⟨F, G, hq2⟩ := xH Y G hp2
        refine xT ?_
        replace H := inrO_fin H hF1
        replace H := Option.some.inj H
        refine xr ?_
        subst H
        refine xOr ?_
        refine qDf [] ?_
        exact xO ⟨[1], [2]⟩
      · obtain ⟨F, G, hq2⟩ := xH Y G hp2
        refine xE ?_
        refine xr ?_
        exact round_at (inl_fin H hF1) (xK ⟨[1], [2]⟩)
  · obtain ⟨F, G, hq1⟩ := xH Y G hp1
    replace H := inrO_fin H hF1
    refine xE ?_
    replace H := Option.some.inj H
    refine xr ?_
    subst H
    refine xOr ?_
    refine qDf [] ?_
    exact xO ⟨[1], [2]⟩
theorem lex_lexer_sign_k : Callable Try.prog 87 ∧ (∀ g, S_lex_lexer_sign g → GenOk Try.prog 87 g) ∧ (true = true → ∀ g, S_lex_lexer_sign g → ∃ val bs ts, g.out = .ret val bs ts) :=
  ⟨call_87, lex_lexer_sign_ok, fun _ => by rintro _ ⟨_, _, _, _, _, _, _, _, rfl⟩; exact ⟨_, _, _, rfl⟩⟩
noncomputable def lex_lexer_one_j2 (a1 : List UInt8) (a2 : List Int) (a3 : List UInt8) (a4 : Int) (a5 : Int) (a6 : List Token) : Bool → Option (Int × Int)
  | x3 => if x3 = true then (lex_lexer_path a1 a2 a3 a4 a5 a6).bind fun r6 => some (7, r6) else (lex_lexer_sign a1 a2 a3 a4 a5 a6).bind fun r7 => if (ltI 0 r7) = true then (lex_lexer_sign a1 a2 a3 a4 a5 a6).bind fun r8 => some (5, r8) else some (6, IntKind.i64.wrap (a5 + 1))
noncomputable def lex_lexer_one_j1 (a0 : Bool) (a1 : List UInt8) (a2 : List Int) (a3 : List UInt8) (a4 : Int) (a5 : Int) (a6 : List Token) : (UInt8 × Bool) → Option (Int × Int)
  | (x1, x2) => if x2 = true then (lex_lexer_number a1 a2 a3 a4 a5 a6).bind fun r3 => some (2, r3) else if (eqI (x1.toNat : Int) 34) = true then (lex_lexer_quoted x1 a1 a2 a3 a4 a5 a6).bind fun r4 => some (4, r4) else if (eqI (x1.toNat : Int) 39) = true then (lex_lexer_quoted x1 a1 a2 a3 a4 a5 a6).bind fun r5 => some (3, r5) else if (eqI (x1.toNat : Int) 60) = true then if (!a0) = true then (lex_lexer_path a1 a2 a3 a4 a5 a6).bind fun r9 => lex_lexer_one_j2 a1 a2 a3 a4 a5 a6 (ltI 0 r9) else lex_lexer_one_j2 a1 a2 a3 a4 a5 a6 false else lex_lexer_one_j2 a1 a2 a3 a4 a5 a6 false
noncomputable def lex_lexer_one (a0 : Bool) (a1 : List UInt8) (a2 : List Int) (a3 : List UInt8) (a4 : Int) (a5 : Int) (a6 : List Token) : Option (Int × Int) :=
  if (0 : Int) ≤ a5 ∧ a5.toNat < a1.length then (lex_Letter (a1.getD a5.toNat 0)).bind fun r1 => if r1 = true then (lex_lexer_while_v2 a5 a1 a2 a3 a4 a5 a6).bind fun r2 => some (1, r2) else (lex_Digit (a1.getD a5.toNat 0)).bind fun r10 => if r10 = true then lex_lexer_one_j1 a0 a1 a2 a3 a4 a5 a6 ((a1.getD a5.toNat 0), true) else if (eqI ((a1.getD a5.toNat 0).toNat : Int) 46) = true then if (ltI (IntKind.i64.wrap (a5 + 1)) (a1.length : Int)) = true then if (0 : Int) ≤ (IntKind.i64.wrap (a5 + 1)) ∧ (IntKind.i64.wrap (a5 + 1)).toNat < a1.length then (lex_Digit (a1.getD ((IntKind.i64.wrap (a5 + 1)).toNat) 0)).bind fun r11 => lex_lexer_one_j1 a0 a1 a2 a3 a4 a5 a6 ((a1.getD a5.toNat 0), r11) else none else lex_lexer_one_j1 a0 a1 a2 a3 a4 a5 a6 ((a1.getD a5.toNat 0), false) else lex_lexer_one_j1 a0 a1 a2 a3 a4 a5 a6 ((a1.getD a5.toNat 0), false) else none
def g_lex_lexer_one (a0 : Bool) (a1 : List UInt8) (a2 : List Int) (a3 : List UInt8) (a4 : Int) (a5 : Int) (a6 : List Token) (r : (Int × Int)) : GI :=
  ⟨[.c (.pt 1 0), .c (.d (.v (.bool a0)))], [[.d (.v (str a1)), .d (.sl 1 (List.map dI a2)), .d (.v (str a3)), .d (.v (.int .i64 a4)), .d (.v (.int .i64 a5)), .sl 11 (List.map d_Token a6) 2]], [45], .ret (.tu [(false, [.d (.v (.int .i64 r.1))]), (false, [.d (.v (.int .i64 r.2))])]) [[.d (.v (str a1)), .d (.sl 1 (List.map dI a2)), .d (.v (str a3)), .d (.v (.int .i64 a4)), .d (.v (.int .i64 a5)), .sl 11 (List.map d_Token a6) 2]] [45]⟩
def S_lex_lexer_one : GI → Prop := fun g => ∃ (a0 : Bool) (a1 : List UInt8) (a2 : List Int) (a3 : List UInt8) (a4 : Int) (a5 : Int) (a6 : List Token) (r : (Int × Int)), lex_lexer_one a0 a1 a2 a3 a4 a5 a6 = some r ∧ g = g_lex_lexer_one a0 a1 a2 a3 a4 a5 a6 r
theorem lex_lexer_one_c (a0 : Bool) (a1 : List UInt8) (a2 : List Int) (a3 : List UInt8) (a4 : Int) (a5 : Int) (a6 : List Token) (r : (Int × Int)) (H : lex_lexer_one a0 a1 a2 a3 a4 a5 a6 = some r) : S_lex_lexer_one (g_lex_lexer_one a0 a1 a2 a3 a4 a5 a6 r) := ⟨a0, a1, a2, a3, a4, a5, a6, r, H, rfl⟩
set_option maxRecDepth 100000 in
set_option maxHeartbeats 4000000 in
theorem lex_lexer_one_ok : ∀ g, S_lex_lexer_one g → GenOk Try.prog 64 g := by
  rintro _ ⟨a0, a1, a2, a3, a4, a5, a6, r, H, rfl⟩
  refine xGn mixed [(81, pf_lex_Letter), (83, pf_lex_Digit)] [(79, true, S_lex_lexer_while_v2), (84, true, S_lex_lexer_number), (85, true, S_lex_lexer_quoted), (86, true, S_lex_lexer_path), (87, true, S_lex_lexer_sign)] [] ⟨⟨call_81, lex_Letter_ok⟩, ⟨call_83, lex_Digit_ok⟩, trivial⟩ ⟨lex_lexer_while_v2_k, lex_lexer_number_k, lex_lexer_quoted_k, lex_lexer_path_k, lex_lexer_sign_k, trivial⟩ trivial Try.func64 _ ?_
  have G := True.intro
  have Y := xZ y_3 <| xZ y_9 <| xZ y_90 <| xZ y_99 <| xZ Try.results64 <| xZ d_Call.eq_1 <| xZ d_Token.eq_1 <| xZ d_Spliced.eq_1 <| xZ g_lex_lexer_while_v2.eq_1 <| xZ g_lex_lexer_number.eq_1 <| xZ g_lex_lexer_quoted.eq_1 <| xZ g_lex_lexer_path.eq_1 <| xZ g_lex_lexer_sign.eq_1 <| g_lex_lexer_one.eq_1
  dsimp only [g_lex_lexer_one]
  simp only [lex_lexer_one] at H
  refine xS ?_
  refine xr ?_
  refine xr ?_
  obtain ⟨hg1, H⟩ := gsplit H
  refine xr ?_
  obtain ⟨r1, hr1, H⟩ := osplit H
  have F := xC Y (lex_Letter_c (a1.getD a5.toNat 0) r1 hr1)
  refine xR ?_
  rcases bsplit H with ⟨hp1, H⟩ | ⟨hp1, H⟩
  · obtain ⟨F, G, hq1⟩ := xH Y G hp1
    refine xT ?_
    obtain ⟨r2, hr2, H⟩ := osplit H
    have F := Y
    refine xQ ?_
    refine xs 5 ?_
    refine xc ⟨[1], [2]⟩ (tabG 0 (lex_lexer_while_v2_c a5 a1 a2 a3 a4 a5 a6 r2 hr2)) ?_
    refine xs 2 ?_
    refine xl ?_
    replace H := Option.some.inj H
    refine xS ?_
    subst H
    refine xOr ?_
    refine qDf [] ?_
    exact xO ⟨[1], [4]⟩
  · obtain ⟨F, G, hq1⟩ := xH Y G hp1
    refine xE0 ?_
    refine w_cut (lex_lexer_one_j1 a0 a1 a2 a3 a4 a5 a6) (fun s => [(0, .c (.pt 1 0)), (1, .c (.d (.v (.bool a0)))), (7, .c (.d (.v (.int .u8 (s.1.toNat : Int))))), (28, .c (.d (.v (.bool s.2))))]) (fun s => [[.d (.v (str a1)), .d (.sl 1 (List.map dI a2)), .d (.v (str a3)), .d (.v (.int .i64 a4)), .d (.v (.int .i64 a5)), .sl 11 (List.map d_Token a6) 2]]) [45] r ?_ ?_
    · obtain ⟨r10, hr10, H⟩ := osplit H
      have F := xC Y (lex_Digit_c (a1.getD a5.toNat 0) r10 hr10)
      rcases bsplit H with ⟨hp9, H⟩ | ⟨hp9, H⟩
      · obtain ⟨F, G, hq9⟩ := xH F G hp9
        refine xR ?_
        exact cut_at H (xK ⟨[1], [2]⟩)
      · obtain ⟨F, G, hq9⟩ := xH F G hp9
        rcases bsplit H with ⟨hp10, H⟩ | ⟨hp10, H⟩
        · obtain ⟨F, G, hq10⟩ := xH F G hp10
          rcases bsplit H with ⟨hp11, H⟩ | ⟨hp11, H⟩
          · obtain ⟨F, G, hq11⟩ := xH F G hp11
            obtain ⟨hg2, H⟩ := gsplit H
            obtain ⟨r11, hr11, H⟩ := osplit H
            have F := xCf F (lex_Digit_c (a1.getD ((IntKind.i64.wrap (a5 + 1)).toNat) 0) r11 hr11)
            refine xR ?_
            exact cut_at H (xK ⟨[1], [2]⟩)
          · obtain ⟨F, G, hq11⟩ := xH F G hp11
            refine xR ?_
            exact cut_at H (xK ⟨[1], [2]⟩)
        · obtain ⟨F, G, hq10⟩ := xH F G hp10
          refine xR ?_
          exact cut_at H (xK ⟨[1], [2]⟩)
    · rintro ⟨x1, x2⟩ H
      rw [lex_lexer_one_j1] at H
      rcases bsplit H with ⟨hp2, H⟩ | ⟨hp2, H⟩
      · obtain ⟨F, G, hq2⟩ := xH Y G hp2
        refine xT ?_
        obtain ⟨r3, hr3, H⟩ := osplit H
        have F := Y
        refine xQ ?_
        refine xs 1 ?_
        refine xc ⟨[1], [2]⟩ (tabG 1 (lex_lexer_number_c a1 a2 a3 a4 a5 a6 r3 hr3)) ?_
        refine xs 2 ?_
        refine xl ?_
        replace H := Option.some.inj H
        refine xS ?_
        subst H
        refine xOr ?_
        refine qDf [] ?_
        exact xO ⟨[1], [4]⟩
      · obtain ⟨F, G, hq2⟩ := xH Y G hp2
        refine xE ?_
        refine xr ?_
        rcases bsplit H with ⟨hp3, H⟩ | ⟨hp3, H⟩
        · obtain ⟨F, G, hq3⟩ := xH Y G hp3
          refine xT ?_
          obtain ⟨r4, hr4, H⟩ := osplit H
          have F := Y
          refine xQ ?_
          refine xs 2 ?_
          refine xc ⟨[1], [2]⟩ (tabG 2 (lex_lexer_quoted_c x1 a1 a2 a3 a4 a5 a6 r4 hr4)) ?_
          refine xs 2 ?_
          refine xl ?_
          replace H := Option.some.inj H
          refine xS ?_
          subst H
          refine xOr ?_
          refine qDf [] ?_
          exact xO ⟨[1], [4]⟩
        · obtain ⟨F, G, hq3⟩ := xH Y G hp3
          refine xE ?_
          refine xr ?_
          rcases bsplit H with ⟨hp4, H⟩ | ⟨hp4, H⟩
          · obtain ⟨F, G, hq4⟩ := xH Y G hp4
            refine xT ?_
            obtain ⟨r5, hr5, H⟩ := osplit H
            have F := Y
            refine xQ ?_
            refine xs 2 ?_
            refine xc ⟨[1], [2]⟩ (tabG 2 (lex_lexer_quoted_c x1 a1 a2 a3 a4 a5 a6 r5 hr5)) ?_
            refine xs 2 ?_
            refine xl ?_
            replace H := Option.some.inj H
            refine xS ?_
            subst H
            refine xOr ?_
            refine qDf [] ?_
            exact xO ⟨[1], [4]⟩
          · obtain ⟨F, G, hq4⟩ := xH Y G hp4
            refine xE0 ?_
            refine w_cut (lex_lexer_one_j2 a1 a2 a3 a4 a5 a6) (fun s => [(0, .c (.pt 1 0)), (69, .c (.d (.v (.bool s))))]) (fun s => [[.d (.v (str a1)), .d (.sl 1 (List.map dI a2)), .d (.v (str a3)), .d (.v (.int .i64 a4)), .d (.v (.int .i64 a5)), .sl 11 (List.map d_Token a6) 2]]) [45] r ?_ ?_
            · rcases bsplit H with ⟨hp7, H⟩ | ⟨hp7, H⟩
              · obtain ⟨F, G, hq7⟩ := xH Y G hp7
                rcases bsplit H with ⟨hp8, H⟩ | ⟨hp8, H⟩
                · obtain ⟨F, G, hq8⟩ := xH F G hp8
                  obtain ⟨r9, hr9, H⟩ := osplit H
                  have F := F
                  refine xQ ?_
                  refine xs 8 ?_
                  refine xc ⟨[1], [2]⟩ (tabG 3 (lex_lexer_path_c a1 a2 a3 a4 a5 a6 r9 hr9)) ?_
                  refine xs 3 ?_
                  refine xl ?_
                  refine xS ?_
                  exact cut_at H (xK ⟨[1], [4]⟩)
                · obtain ⟨F, G, hq8⟩ := xH F G hp8
                  refine xR ?_
                  exact cut_at H (xK ⟨[1], [2]⟩)
              · obtain ⟨F, G, hq7⟩ := xH Y G hp7
                refine xR ?_
                exact cut_at H (xK ⟨[1], [2]⟩)
            · rintro x3 H
              rw [lex_lexer_one_j2] at H
              rcases bsplit H with ⟨hp5, H⟩ | ⟨hp5, H⟩
              · obtain ⟨F, G, hq5⟩ := xH Y G hp5
                refine xT ?_
                obtain ⟨r6, hr6, H⟩ := osplit H
                have F := Y
                refine xQ ?_
                refine xs 1 ?_
                refine xc ⟨[1], [2]⟩ (tabG 3 (lex_lexer_path_c a1 a2 a3 a4 a5 a6 r6 hr6)) ?_
                refine xs 2 ?_
                refine xl ?_
                replace H := Option.some.inj H
                refine xS ?_
                subst H
                refine xOr ?_
                refine qDf [] ?_
                exact xO ⟨[1], [4]⟩
              · obtain ⟨F, G, hq5⟩ := xH Y G hp5
                refine xE ?_
                obtain ⟨r7, hr7, H⟩ := osplit H
                have F := Y
                refine xQ ?_
                refine xs 1 ?_
                refine xc ⟨[1], [2]⟩ (tabG 4 (lex_lexer_sign_c a1 a2 a3 a4 a5 a6 r7 hr7)) ?_
                refine xs 2 ?_
                refine xl ?_
                refine xS ?_
                rcases bsplit H with ⟨hp6, H⟩ | ⟨hp6, H⟩
                · obtain ⟨F, G, hq6⟩ := xH Y G hp6
                  refine xT ?_
                  obtain ⟨r8, hr8, H⟩ := osplit H
                  have F := Y
                  refine xQ ?_
                  refine xs 1 ?_
                  refine xc ⟨[1], [4]⟩ (tabG 4 (lex_lexer_sign_c a1 a2 a3 a4 a5 a6 r8 hr8)) ?_
                  refine xs 2 ?_
                  refine xl ?_
                  replace H := Option.some.inj H
                  refine xS ?_
                  subst H
                  refine xOr ?_
                  refine qDf [] ?_
                  exact xO ⟨[1], [6]⟩
                · obtain ⟨F, G, hq6⟩ := xH Y G hp6
                  refine xE ?_
                  replace H := Option.some.inj H
                  refine xr ?_
                  subst H
                  refine xOr ?_
                  refine qDf [] ?_
                  exact xO ⟨[1], [4]⟩
theorem lex_lexer_one_k : Callable Try.prog 64 ∧ (∀ g, S_lex_lexer_one g → GenOk Try.prog 64 g) ∧ (true = true → ∀ g, S_lex_lexer_one g → ∃ val bs ts, g.out = .ret val bs ts) :=
  ⟨call_64, lex_lexer_one_ok, fun _ => by rintro _ ⟨_, _, _, _, _, _, _, _, _, rfl⟩; exact ⟨_, _, _, rfl⟩⟩
noncomputable def splice_Lines_j2 (x2 : Int) (x3 : Int) : Int → Option ((Int × Int × Int) ⊕ Int)
  | x4 => some (.inl (x4, x2, IntKind.i64.wrap (x3 + 1)))
noncomputable def splice_Lines_b1 (a0 : List UInt8) : (Int × Int × Int) → Option ((Int × Int × Int) ⊕ Int)
  | (x1, x2, x3) => if (ltI x3 x2) = true then if (0 : Int) ≤ x3 ∧ x3.toNat < a0.length then if (eqI ((a0.getD x3.toNat 0).toNat : Int) 10) = true then splice_Lines_j2 x2 x3 (IntKind.i64.wrap (x1 + 1)) else splice_Lines_j2 x2 x3 x1 else none else inrO (some x1)
noncomputable def splice_Lines (a0 : List UInt8) (a1 : Int) : Option Int :=
  loopO (splice_Lines_b1 a0) (1, (if (a0.length : Int) < (if 0 > a1 then 0 else a1) then (a0.length : Int) else (if 0 > a1 then 0 else a1)), 0)
noncomputable def pf_splice_Lines : PF := PF.of (E2 dS dI) (fun a => splice_Lines a.1 a.2) dI
set_option maxRecDepth 100000 in
set_option maxHeartbeats 4000000 in
theorem splice_Lines_ok : PureOk Try.prog 65 pf_splice_Lines := by
  refine xF mixed [] [] trivial trivial Try.func65 ?_
  rintro ⟨a0, a1⟩ out H
  have G := True.intro
  have Y := xZ y_3 <| xZ y_9 <| Try.results65
  simp only [splice_Lines] at H
  refine xS ?_
  refine xr ?_
  refine xr ?_
  refine xr ?_
  refine w_loop (splice_Lines_b1 a0) (fun s => [(0, .c (.d (.v (str a0)))), (5, .c (.d (.v (.int .i64 s.1)))), (11, .c (.d (.v (.int .i64 s.2.1)))), (12, .c (.d (.v (.int .i64 s.2.2))))]) (fun s => []) [] H (xK ⟨[], []⟩) ?_
  rintro n1 ⟨x1, x2, x3⟩ o1 H hF1
  rw [splice_Lines_b1] at H
  refine xS ?_
  refine xr ?_
  rcases bsplit H with ⟨hp1, H⟩ | ⟨hp1, H⟩
  · obtain ⟨F, G, hq1⟩ := xH Y G hp1
    refine xT0 ?_
    refine w_skip ?_
    refine then_normal ?_
    refine w_cut (splice_Lines_j2 x2 x3) (fun s => [(0, .c (.d (.v (str a0)))), (5, .c (.d (.v (.int .i64 s)))), (11, .c (.d (.v (.int .i64 x2)))), (12, .c (.d (.v (.int .i64 x3))))]) (fun s => []) [] o1 ?_ ?_
    · refine xS ?_
      refine xr ?_
      obtain ⟨hg1, H⟩ := gsplit H
      refine xr ?_
      rcases bsplit H with ⟨hp2, H⟩ | ⟨hp2, H⟩
      · obtain ⟨F, G, hq2⟩ := xH Y G hp2
        refine xT ?_
        refine xr ?_
        exact cut_at H (xK ⟨[], []⟩)
      · obtain ⟨F, G, hq2⟩ := xH Y G hp2
        refine xE ?_
        exact cut_at H (xK ⟨[], []⟩)
    · rintro x4 H
      rw [splice_Lines_j2] at H
      refine xr ?_
      exact round_at (inl_fin H hF1) (xK ⟨[], []⟩)
  · obtain ⟨F, G, hq1⟩ := xH Y G hp1
    replace H := inrO_fin H hF1
    refine xE ?_
    replace H := Option.some.inj H
    refine xr ?_
    subst H
    exact xN
theorem splice_Lines_c (a0 : List UInt8) (a1 : Int) (r : Int) (H : splice_Lines a0 a1 = some r) : PC pf_splice_Lines [dS a0, dI a1] (dI r) := PF.c (a := (a0, a1)) H
noncomputable def lex_Tokens_j2 (a0 : Int) (a1 : List UInt8) (r1 : Spliced) (x2 : List Token) (r2 : (Bool × Bool × Bool × Int)) : Bool → Option ((Int × (List Token)) ⊕ ((List Token) × Fault))
  | x3 => (splice_Where r1 r2.2.2.2).bind fun r4 => (lex_lexer_one x3 r1.Text r1.At a1 a0 r2.2.2.2 x2).bind fun r5 => if (ltI r5.2 0) = true then inrO (some (([] : List Token), (⟨9, a0, r4⟩ : Fault))) else if (0 : Int) ≤ r2.2.2.2 ∧ r2.2.2.2 ≤ r5.2 ∧ r5.2 ≤ (r1.Text.length : Int) then (splice_Where r1 (IntKind.i64.wrap (r5.2 - 1))).bind fun r6 => (splice_Lines a1 r4).bind fun r7 => if (x2.length + [(⟨r5.1, List.take (r5.2.toNat - r2.2.2.2.toNat) (List.drop r2.2.2.2.toNat r1.Text), r2.1, x3, a0, r4, IntKind.i64.wrap (r6 + 1), r7, ([] : List (List UInt8)), ([] : List Call), 0⟩ : Token)].length) * 120 ≤ 140737488355328 then some (.inl (r5.2, x2 ++ [(⟨r5.1, List.take (r5.2.toNat - r2.2.2.2.toNat) (List.drop r2.2.2.2.toNat r1.Text), r2.1, x3, a0, r4, IntKind.i64.wrap (r6 + 1), r7, ([] : List (List UInt8)), ([] : List Call), 0⟩ : Token)])) else none else none
noncomputable def lex_Tokens_b1 (a0 : Int) (a1 : List UInt8) (r1 : Spliced) : (Int × (List Token)) → Option ((Int × (List Token)) ⊕ ((List Token) × Fault))
  | (x1, x2) => (lex_lexer_blank r1.Text r1.At a1 a0 x1 x2).bind fun r2 => if (!r2.2.2.1) = true then (splice_Where r1 r2.2.2.2).bind fun r3 => inrO (some (([] : List Token), (⟨9, a0, r3⟩ : Fault))) else if (eqI r2.2.2.2 (r1.Text.length : Int)) = true then inrO (some (x2, (⟨0, (-1), 0⟩ : Fault))) else if (eqI (x2.length : Int) 0) = true then lex_Tokens_j2 a0 a1 r1 x2 r2 true else lex_Tokens_j2 a0 a1 r1 x2 r2 r2.2.1
noncomputable def lex_Tokens (a0 : Int) (a1 : List UInt8) : Option ((List Token) × Fault) :=
  if (ltI 3000 (a1.length : Int)) = true then some (([] : List Token), (⟨4, a0, 0⟩ : Fault)) else (splice_Text a1).bind fun r1 => loopO (lex_Tokens_b1 a0 a1 r1) (0, ([] : List Token))
noncomputable def pf_lex_Tokens : PF := PF.of (E2 dI dS) (fun a => lex_Tokens a.1 a.2) (T2 (dL 11 d_Token) d_Fault)
set_option maxRecDepth 100000 in
set_option maxHeartbeats 4000000 in
theorem lex_Tokens_ok : PureOk Try.prog 32 pf_lex_Tokens := by
  refine xF mixed [(61, pf_splice_Text), (63, pf_splice_Where), (65, pf_splice_Lines)] [(62, true, S_lex_lexer_blank), (64, true, S_lex_lexer_one)] ⟨⟨call_61, splice_Text_ok⟩, ⟨call_63, splice_Where_ok⟩, ⟨call_65, splice_Lines_ok⟩, trivial⟩ ⟨lex_lexer_blank_k, lex_lexer_one_k, trivial⟩ Try.func32 ?_
  rintro ⟨a0, a1⟩ out H
  have G := True.intro
  have Y := xZ y_3 <| xZ y_4 <| xZ y_9 <| xZ y_22 <| xZ y_24 <| xZ y_28 <| xZ y_30 <| xZ y_43 <| xZ y_45 <| xZ y_90 <| xZ y_99 <| xZ Try.results32 <| xZ d_Call.eq_1 <| xZ d_Token.eq_1 <| xZ d_Spliced.eq_1 <| xZ d_Fault.eq_1 <| xZ g_lex_lexer_blank.eq_1 <| g_lex_lexer_one.eq_1
  simp only [lex_Tokens] at H
  refine xS ?_
  refine xr ?_
  refine xr ?_
  rcases bsplit H with ⟨hp1, H⟩ | ⟨hp1, H⟩
  · obtain ⟨F, G, hq1⟩ := xH Y G hp1
    refine xT ?_
    replace H := Option.some.inj H
    refine xr ?_
    subst H
    exact xN
  · obtain ⟨F, G, hq1⟩ := xH Y G hp1
    refine xE ?_
    obtain ⟨r1, hr1, H⟩ := osplit H
    have F := xC Y (splice_Text_c a1 r1 hr1)
    refine xR ?_
    refine w_loop (lex_Tokens_b1 a0 a1 r1) (fun s => [(0, .c (.d (.v (.int .i64 a0)))), (1, .c (.d (.v (str a1)))), (5, .c (.pt 1 0)), (6, .c (.pt 2 0))]) (fun s => [[.d (.v (.int .i64 0)), .d (.v (.int .i64 0)), .d (.v (.int .i64 0))], [.d (.v (str r1.Text)), .d (.sl 1 (List.map dI r1.At)), .d (.v (str a1)), .d (.v (.int .i64 a0)), .d (.v (.int .i64 s.1)), .sl 11 (List.map d_Token s.2) 3]]) [45] H (xK ⟨[1,2], [0]⟩) ?_
    rintro n1 ⟨x1, x2⟩ o1 H hF1
    rw [lex_Tokens_b1] at H
    refine xS ?_
    obtain ⟨r2, hr2, H⟩ := osplit H
    have F := Y
    refine xQ ?_
    refine xs 1 ?_
    refine xc ⟨[2], [3]⟩ (tabG 0 (lex_lexer_blank_c r1.Text r1.At a1 a0 x1 x2 r2 hr2)) ?_
    refine xs 7 ?_
    refine xl ?_
    refine xS ?_
    refine xr ?_
    rcases bsplit H with ⟨hp2, H⟩ | ⟨hp2, H⟩
    · obtain ⟨F, G, hq2⟩ := xH Y G hp2
      refine xT ?_
      obtain ⟨r3, hr3, H⟩ := osplit H
      have F := xC Y (splice_Where_c r1 r2.2.2.2 r3 hr3)
      replace H := inrO_fin H hF1
      replace H := Option.some.inj H
      refine xR ?_
      subst H
      exact xN
    · obtain ⟨F, G, hq2⟩ := xH Y G hp2
      refine xE ?_
      refine xr ?_
      rcases bsplit H with ⟨hp3, H⟩ | ⟨hp3, H⟩
      · obtain ⟨F, G, hq3⟩ := xH Y G hp3
        refine xT ?_
        replace H := inrO_fin H hF1
        replace H := Option.some.inj H
        refine xr ?_
        subst H
        exact xN
      · obtain ⟨F, G, hq3⟩ := xH Y G hp3
        refine xE0 ?_
        refine w_skip ?_
        refine then_normal ?_
        refine w_cut (lex_Tokens_j2 a0 a1 r1 x2 r2) (fun s => [(0, .c (.d (.v (.int .i64 a0)))), (1, .c (.d (.v (str a1)))), (5, .c (.pt 1 0)), (6, .c (.pt 2 0)), (7, .c (.d (.v (.bool r2.1)))), (10, .c (.d (.v (.bool s))))]) (fun s => [[.d (.v (.int .i64 0)), .d (.v (.int .i64 0)), .d (.v (.int .i64 0))], [.d (.v (str r1.Text)), .d (.sl 1 (List.map dI r1.At)), .d (.v (str a1)), .d (.v (.int .i64 a0)), .d (.v (.int .i64 r2.2.2.2)), .sl 11 (List.map d_Token x2) 3]]) [45] o1 ?_ ?_
        · rcases bsplit H with ⟨hp5, H⟩ | ⟨hp5, H⟩
          · obtain ⟨F, G, hq5⟩ := xH Y G hp5
            refine xR ?_
            exact cut_at H (xK ⟨[1,2], [5]⟩)
          · obtain ⟨F, G, hq5⟩ := xH Y G hp5
            refine xR ?_
            exact cut_at H (xK ⟨[1,2], [5]⟩)
        · rintro x3 H
          rw [lex_Tokens_j2] at H
          refine xS ?_
          obtain ⟨r4, hr4, H⟩ := osplit H
          have F := xC Y (splice_Where_c r1 r2.2.2.2 r4 hr4)
          refine xR ?_
          obtain ⟨r5, hr5, H⟩ := osplit H
          have F := Y
          refine xQ ?_
          refine xs 2 ?_
          refine xc ⟨[2], [3]⟩ (tabG 1 (lex_lexer_one_c x3 r1.Text r1.At a1 a0 r2.2.2.2 x2 r5 hr5)) ?_
          refine xs 5 ?_
          refine xl ?_
          refine xS ?_
          refine xr ?_
          rcases bsplit H with ⟨hp4, H⟩ | ⟨hp4, H⟩
          · obtain ⟨F, G, hq4⟩ := xH Y G hp4
            refine xT ?_
            replace H := inrO_fin H hF1
            replace H := Option.some.inj H
            refine xr ?_
            subst H
            exact xN
          · obtain ⟨F, G, hq4⟩ := xH Y G hp4
            refine xE ?_
            obtain ⟨hg1, H⟩ := gsplit H
            obtain ⟨r6, hr6, H⟩ := osplit H
            have F := xC Y (splice_Where_c r1 (IntKind.i64.wrap (r5.2 - 1)) r6 hr6)
            obtain ⟨r7, hr7, H⟩ := osplit H
            have F := xCf F (splice_Lines_c a1 r4 r7 hr7)
            obtain ⟨hg2, H⟩ := gsplit H
            have F := xZ F (all_map one_Token [(⟨r5.1, List.take (r5.2.toNat - r2.2.2.2.toNat) (List.drop r2.2.2.2.toNat r1.Text), r2.1, x3, a0, r4, IntKind.i64.wrap (r6 + 1), r7, ([] : List (List UInt8)), ([] : List Call), 0⟩ : Token)])
            refine xR ?_
            refine xr ?_
            exact round_at (inl_fin H hF1) (xK ⟨[1,2], [6]⟩)
theorem lex_Tokens_c (a0 : Int) (a1 : List UInt8) (r : (List Token) × Fault) (H : lex_Tokens a0 a1 = some r) : PC pf_lex_Tokens [dI a0, dS a1] (T2 (dL 11 d_Token) d_Fault r) := PF.c (a := (a0, a1)) H
noncomputable def prelaw5_toks (a0 : List UInt8) : Option (List Token) :=
  (preref1_Tokens 0 a0).bind fun r1 => some r1.1
noncomputable def pf_prelaw5_toks : PF := PF.of (E1 dS) (fun a => prelaw5_toks a) (dL 11 d_Token)
set_option maxRecDepth 100000 in
set_option maxHeartbeats 4000000 in
theorem prelaw5_toks_ok : PureOk Try.prog 11 pf_prelaw5_toks := by
  refine xF mixed [(31, pf_preref1_Tokens)] [] ⟨⟨call_31, preref1_Tokens_ok⟩, trivial⟩ trivial Try.func11 ?_
  rintro a0 out H
  have G := True.intro
  have Y := xZ y_24 <| xZ Try.results11 <| xZ d_Call.eq_1 <| xZ d_Token.eq_1 <| d_Fault.eq_1
  simp only [prelaw5_toks] at H
  refine xS ?_
  refine xr ?_
  obtain ⟨r1, hr1, H⟩ := osplit H
  have F := xC Y (preref1_Tokens_c 0 a0 r1 hr1)
  refine xR ?_
  replace H := Option.some.inj H
  refine xr ?_
  subst H
  exact xN
theorem prelaw5_toks_c (a0 : List UInt8) (r : (List Token)) (H : prelaw5_toks a0 = some r) : PC pf_prelaw5_toks [dS a0] ((dL 11 d_Token) r) := PF.c (a := a0) H
end Go.Proofs.Ytkhcecpbbmfcaaa
