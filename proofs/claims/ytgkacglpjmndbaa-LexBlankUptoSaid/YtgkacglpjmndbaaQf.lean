/- Functions of data for functions of the program: lex_Letter, preref1_Letter, lex_Digit, preref1_Digit, lex_Name, preref1_Name, lex_Signs, preref1_Signs, prelaw8_same, preref1_SameToken, preref1_SameTokens. Written by dec.py. -/
import Derived.Test.YtgkacglpjmndbaaQp
namespace Go.Proofs.Ytgkacglpjmndbaa
open Go.RowKit
set_option linter.unusedVariables false
set_option linter.unusedSimpArgs false

noncomputable def lex_Letter_j1 : Bool → Option Bool
  | x1 => some x1
noncomputable def lex_Letter (a0 : UInt8) : Option Bool :=
  if (leI 97 (a0.toNat : Int)) = true then if (leI (a0.toNat : Int) 122) = true then lex_Letter_j1 true else if (leI 65 (a0.toNat : Int)) = true then if (leI (a0.toNat : Int) 90) = true then lex_Letter_j1 true else lex_Letter_j1 (eqI (a0.toNat : Int) 95) else lex_Letter_j1 (eqI (a0.toNat : Int) 95) else if (leI 65 (a0.toNat : Int)) = true then if (leI (a0.toNat : Int) 90) = true then lex_Letter_j1 true else lex_Letter_j1 (eqI (a0.toNat : Int) 95) else lex_Letter_j1 (eqI (a0.toNat : Int) 95)
noncomputable def pf_lex_Letter : PF := PF.of (E1 dU) (fun a => lex_Letter a) dB
set_option maxRecDepth 100000 in
set_option maxHeartbeats 4000000 in
theorem lex_Letter_ok : PureOk Try.prog 42 pf_lex_Letter := by
  refine xF mixed [] [] trivial trivial Try.func42 ?_
  rintro a0 out H
  have G := True.intro
  have Y := Try.results42
  simp only [lex_Letter] at H
  refine xS ?_
  refine xr0 ?_
  refine then_normal ?_
  refine w_cut lex_Letter_j1 (fun s => [(2, .c (.d (.v (.bool s))))]) (fun s => []) [] out ?_ ?_
  · rcases bsplit H with ⟨hp1, H⟩ | ⟨hp1, H⟩
    · obtain ⟨F, G, hq1⟩ := xH Y G hp1
      rcases bsplit H with ⟨hp2, H⟩ | ⟨hp2, H⟩
      · obtain ⟨F, G, hq2⟩ := xH F G hp2
        refine xR ?_
        exact cut_at H (xK ⟨[], []⟩)
      · obtain ⟨F, G, hq2⟩ := xH F G hp2
        rcases bsplit H with ⟨hp3, H⟩ | ⟨hp3, H⟩
        · obtain ⟨F, G, hq3⟩ := xH F G hp3
          rcases bsplit H with ⟨hp4, H⟩ | ⟨hp4, H⟩
          · obtain ⟨F, G, hq4⟩ := xH F G hp4
            refine xR ?_
            exact cut_at H (xK ⟨[], []⟩)
          · obtain ⟨F, G, hq4⟩ := xH F G hp4
            refine xR ?_
            exact cut_at H (xK ⟨[], []⟩)
        · obtain ⟨F, G, hq3⟩ := xH F G hp3
          refine xR ?_
          exact cut_at H (xK ⟨[], []⟩)
    · obtain ⟨F, G, hq1⟩ := xH Y G hp1
      rcases bsplit H with ⟨hp5, H⟩ | ⟨hp5, H⟩
      · obtain ⟨F, G, hq5⟩ := xH F G hp5
        rcases bsplit H with ⟨hp6, H⟩ | ⟨hp6, H⟩
        · obtain ⟨F, G, hq6⟩ := xH F G hp6
          refine xR ?_
          exact cut_at H (xK ⟨[], []⟩)
        · obtain ⟨F, G, hq6⟩ := xH F G hp6
          refine xR ?_
          exact cut_at H (xK ⟨[], []⟩)
      · obtain ⟨F, G, hq5⟩ := xH F G hp5
        refine xR ?_
        exact cut_at H (xK ⟨[], []⟩)
  · rintro x1 H
    rw [lex_Letter_j1] at H
    refine xS ?_
    cases H
    exact xN
theorem lex_Letter_c (a0 : UInt8) (r : Bool) (H : lex_Letter a0 = some r) : PC pf_lex_Letter [dU a0] (dB r) := PF.c (a := a0) H
noncomputable def preref1_Letter_j1 : Bool → Option Bool
  | x1 => some x1
noncomputable def preref1_Letter (a0 : UInt8) : Option Bool :=
  if (leI 97 (a0.toNat : Int)) = true then if (leI (a0.toNat : Int) 122) = true then preref1_Letter_j1 true else if (leI 65 (a0.toNat : Int)) = true then if (leI (a0.toNat : Int) 90) = true then preref1_Letter_j1 true else preref1_Letter_j1 (eqI (a0.toNat : Int) 95) else preref1_Letter_j1 (eqI (a0.toNat : Int) 95) else if (leI 65 (a0.toNat : Int)) = true then if (leI (a0.toNat : Int) 90) = true then preref1_Letter_j1 true else preref1_Letter_j1 (eqI (a0.toNat : Int) 95) else preref1_Letter_j1 (eqI (a0.toNat : Int) 95)
noncomputable def pf_preref1_Letter : PF := PF.of (E1 dU) (fun a => preref1_Letter a) dB
set_option maxRecDepth 100000 in
set_option maxHeartbeats 4000000 in
theorem preref1_Letter_ok : PureOk Try.prog 43 pf_preref1_Letter := by
  refine xF mixed [] [] trivial trivial Try.func43 ?_
  rintro a0 out H
  have G := True.intro
  have Y := Try.results43
  simp only [preref1_Letter] at H
  refine xS ?_
  refine xr0 ?_
  refine then_normal ?_
  refine w_cut preref1_Letter_j1 (fun s => [(2, .c (.d (.v (.bool s))))]) (fun s => []) [] out ?_ ?_
  · rcases bsplit H with ⟨hp1, H⟩ | ⟨hp1, H⟩
    · obtain ⟨F, G, hq1⟩ := xH Y G hp1
      rcases bsplit H with ⟨hp2, H⟩ | ⟨hp2, H⟩
      · obtain ⟨F, G, hq2⟩ := xH F G hp2
        refine xR ?_
        exact cut_at H (xK ⟨[], []⟩)
      · obtain ⟨F, G, hq2⟩ := xH F G hp2
        rcases bsplit H with ⟨hp3, H⟩ | ⟨hp3, H⟩
        · obtain ⟨F, G, hq3⟩ := xH F G hp3
          rcases bsplit H with ⟨hp4, H⟩ | ⟨hp4, H⟩
          · obtain ⟨F, G, hq4⟩ := xH F G hp4
            refine xR ?_
            exact cut_at H (xK ⟨[], []⟩)
          · obtain ⟨F, G, hq4⟩ := xH F G hp4
            refine xR ?_
            exact cut_at H (xK ⟨[], []⟩)
        · obtain ⟨F, G, hq3⟩ := xH F G hp3
          refine xR ?_
          exact cut_at H (xK ⟨[], []⟩)
    · obtain ⟨F, G, hq1⟩ := xH Y G hp1
      rcases bsplit H with ⟨hp5, H⟩ | ⟨hp5, H⟩
      · obtain ⟨F, G, hq5⟩ := xH F G hp5
        rcases bsplit H with ⟨hp6, H⟩ | ⟨hp6, H⟩
        · obtain ⟨F, G, hq6⟩ := xH F G hp6
          refine xR ?_
          exact cut_at H (xK ⟨[], []⟩)
        · obtain ⟨F, G, hq6⟩ := xH F G hp6
          refine xR ?_
          exact cut_at H (xK ⟨[], []⟩)
      · obtain ⟨F, G, hq5⟩ := xH F G hp5
        refine xR ?_
        exact cut_at H (xK ⟨[], []⟩)
  · rintro x1 H
    rw [preref1_Letter_j1] at H
    refine xS ?_
    cases H
    exact xN
theorem preref1_Letter_c (a0 : UInt8) (r : Bool) (H : preref1_Letter a0 = some r) : PC pf_preref1_Letter [dU a0] (dB r) := PF.c (a := a0) H
noncomputable def lex_Digit_j1 : Bool → Option Bool
  | x1 => some x1
noncomputable def lex_Digit (a0 : UInt8) : Option Bool :=
  if (leI 48 (a0.toNat : Int)) = true then lex_Digit_j1 (leI (a0.toNat : Int) 57) else lex_Digit_j1 false
noncomputable def pf_lex_Digit : PF := PF.of (E1 dU) (fun a => lex_Digit a) dB
set_option maxRecDepth 100000 in
set_option maxHeartbeats 4000000 in
theorem lex_Digit_ok : PureOk Try.prog 44 pf_lex_Digit := by
  refine xF mixed [] [] trivial trivial Try.func44 ?_
  rintro a0 out H
  have G := True.intro
  have Y := Try.results44
  simp only [lex_Digit] at H
  refine xS ?_
  refine xr0 ?_
  refine then_normal ?_
  refine w_cut lex_Digit_j1 (fun s => [(2, .c (.d (.v (.bool s))))]) (fun s => []) [] out ?_ ?_
  · rcases bsplit H with ⟨hp1, H⟩ | ⟨hp1, H⟩
    · obtain ⟨F, G, hq1⟩ := xH Y G hp1
      refine xR ?_
      exact cut_at H (xK ⟨[], []⟩)
    · obtain ⟨F, G, hq1⟩ := xH Y G hp1
      refine xR ?_
      exact cut_at H (xK ⟨[], []⟩)
  · rintro x1 H
    rw [lex_Digit_j1] at H
    refine xS ?_
    cases H
    exact xN
theorem lex_Digit_c (a0 : UInt8) (r : Bool) (H : lex_Digit a0 = some r) : PC pf_lex_Digit [dU a0] (dB r) := PF.c (a := a0) H
noncomputable def preref1_Digit_j1 : Bool → Option Bool
  | x1 => some x1
noncomputable def preref1_Digit (a0 : UInt8) : Option Bool :=
  if (leI 48 (a0.toNat : Int)) = true then preref1_Digit_j1 (leI (a0.toNat : Int) 57) else preref1_Digit_j1 false
noncomputable def pf_preref1_Digit : PF := PF.of (E1 dU) (fun a => preref1_Digit a) dB
set_option maxRecDepth 100000 in
set_option maxHeartbeats 4000000 in
theorem preref1_Digit_ok : PureOk Try.prog 45 pf_preref1_Digit := by
  refine xF mixed [] [] trivial trivial Try.func45 ?_
  rintro a0 out H
  have G := True.intro
  have Y := Try.results45
  simp only [preref1_Digit] at H
  refine xS ?_
  refine xr0 ?_
  refine then_normal ?_
  refine w_cut preref1_Digit_j1 (fun s => [(2, .c (.d (.v (.bool s))))]) (fun s => []) [] out ?_ ?_
  · rcases bsplit H with ⟨hp1, H⟩ | ⟨hp1, H⟩
    · obtain ⟨F, G, hq1⟩ := xH Y G hp1
      refine xR ?_
      exact cut_at H (xK ⟨[], []⟩)
    · obtain ⟨F, G, hq1⟩ := xH Y G hp1
      refine xR ?_
      exact cut_at H (xK ⟨[], []⟩)
  · rintro x1 H
    rw [preref1_Digit_j1] at H
    refine xS ?_
    cases H
    exact xN
theorem preref1_Digit_c (a0 : UInt8) (r : Bool) (H : preref1_Digit a0 = some r) : PC pf_preref1_Digit [dU a0] (dB r) := PF.c (a := a0) H
noncomputable def lex_Name_j3 (x2 : Int) (x3 : Int) : Bool → Option ((Int × Int) ⊕ Bool)
  | x4 => if x4 = true then inrO (some false) else some (.inl (x2, IntKind.i64.wrap (x3 + 1)))
noncomputable def lex_Name_b2 (a0 : List UInt8) : (Int × Int) → Option ((Int × Int) ⊕ Bool)
  | (x2, x3) => if (ltI x3 x2) = true then if (0 : Int) ≤ x3 ∧ x3.toNat < a0.length then (lex_Letter (a0.getD x3.toNat 0)).bind fun r1 => if (!r1) = true then if (0 : Int) ≤ x3 ∧ x3.toNat < a0.length then (lex_Digit (a0.getD x3.toNat 0)).bind fun r2 => lex_Name_j3 x2 x3 (!r2) else none else lex_Name_j3 x2 x3 false else none else inrO (some true)
noncomputable def lex_Name_j1 (a0 : List UInt8) : Bool → Option Bool
  | x1 => if x1 = true then some false else loopO (lex_Name_b2 a0) ((a0.length : Int), 0)
noncomputable def lex_Name (a0 : List UInt8) : Option Bool :=
  if (eqS a0 []) = true then lex_Name_j1 a0 true else if 0 < a0.length then (lex_Letter (a0.getD 0 0)).bind fun r3 => lex_Name_j1 a0 (!r3) else none
noncomputable def pf_lex_Name : PF := PF.of (E1 dS) (fun a => lex_Name a) dB
set_option maxRecDepth 100000 in
set_option maxHeartbeats 4000000 in
theorem lex_Name_ok : PureOk Try.prog 33 pf_lex_Name := by
  refine xF mixed [(42, pf_lex_Letter), (44, pf_lex_Digit)] [] ⟨⟨call_42, lex_Letter_ok⟩, ⟨call_44, lex_Digit_ok⟩, trivial⟩ trivial Try.func33 ?_
  rintro a0 out H
  have G := True.intro
  have Y := xZ y_9 <| Try.results33
  simp only [lex_Name] at H
  refine xS ?_
  refine xr0 ?_
  refine then_normal ?_
  refine w_seq ?_
  refine w_cut (lex_Name_j1 a0) (fun s => [(0, .c (.d (.v (str a0)))), (11, .c (.d (.v (.bool s))))]) (fun s => []) [] out ?_ ?_
  · rcases bsplit H with ⟨hp5, H⟩ | ⟨hp5, H⟩
    · obtain ⟨F, G, hq5⟩ := xH Y G hp5
      refine xR ?_
      exact cut_at H (xK ⟨[], []⟩)
    · obtain ⟨F, G, hq5⟩ := xH Y G hp5
      obtain ⟨hg3, H⟩ := gsplit H
      obtain ⟨r3, hr3, H⟩ := osplit H
      have F := xC F (lex_Letter_c (a0.getD 0 0) r3 hr3)
      refine xR ?_
      exact cut_at H (xK ⟨[], []⟩)
  · rintro x1 H
    rw [lex_Name_j1] at H
    rcases bsplit H with ⟨hp1, H⟩ | ⟨hp1, H⟩
    · obtain ⟨F, G, hq1⟩ := xH Y G hp1
      refine xT ?_
      refine xr ?_
      cases H
      exact xN
    · obtain ⟨F, G, hq1⟩ := xH Y G hp1
      refine xE ?_
      refine xr ?_
      refine w_loop (lex_Name_b2 a0) (fun s => [(0, .c (.d (.v (str a0)))), (13, .c (.d (.v (.int .i64 s.1)))), (14, .c (.d (.v (.int .i64 s.2))))]) (fun s => []) [] H (xK ⟨[], []⟩) ?_
      rintro n1 ⟨x2, x3⟩ o1 H hF1
      rw [lex_Name_b2] at H
      refine xS ?_
      refine xr ?_
      rcases bsplit H with ⟨hp2, H⟩ | ⟨hp2, H⟩
      · obtain ⟨F, G, hq2⟩ := xH Y G hp2
        refine xT ?_
        refine xr0 ?_
        refine then_normal ?_
        refine w_cut (lex_Name_j3 x2 x3) (fun s => [(0, .c (.d (.v (str a0)))), (13, .c (.d (.v (.int .i64 x2)))), (14, .c (.d (.v (.int .i64 x3)))), (28, .c (.d (.v (.bool s))))]) (fun s => []) [] o1 ?_ ?_
        · obtain ⟨hg1, H⟩ := gsplit H
          obtain ⟨r1, hr1, H⟩ := osplit H
          have F := xC Y (lex_Letter_c (a0.getD x3.toNat 0) r1 hr1)
          rcases bsplit H with ⟨hp4, H⟩ | ⟨hp4, H⟩
          · obtain ⟨F, G, hq4⟩ := xH F G hp4
            obtain ⟨hg2, H⟩ := gsplit H
            obtain ⟨r2, hr2, H⟩ := osplit H
            have F := xC F (lex_Digit_c (a0.getD x3.toNat 0) r2 hr2)
            refine xR ?_
            exact cut_at H (xK ⟨[], []⟩)
          · obtain ⟨F, G, hq4⟩ := xH F G hp4
            refine xR ?_
            exact cut_at H (xK ⟨[], []⟩)
        · rintro x4 H
          rw [lex_Name_j3] at H
          rcases bsplit H with ⟨hp3, H⟩ | ⟨hp3, H⟩
          · obtain ⟨F, G, hq3⟩ := xH Y G hp3
            refine xT ?_
            replace H := inrO_fin H hF1
            refine xr ?_
            cases H
            exact xN
          · obtain ⟨F, G, hq3⟩ := xH Y G hp3
            refine xE ?_
            refine xr ?_
            exact round_at (inl_fin H hF1) (xK ⟨[], []⟩)
      · obtain ⟨F, G, hq2⟩ := xH Y G hp2
        replace H := inrO_fin H hF1
        refine xE ?_
        refine xr ?_
        cases H
        exact xN
theorem lex_Name_c (a0 : List UInt8) (r : Bool) (H : lex_Name a0 = some r) : PC pf_lex_Name [dS a0] (dB r) := PF.c (a := a0) H
noncomputable def preref1_Name_j2 (x1 : Int) (x2 : Int) : Bool → Option ((Int × Int) ⊕ Bool)
  | x3 => if x3 = true then inrO (some false) else some (.inl (x1, IntKind.i64.wrap (x2 + 1)))
noncomputable def preref1_Name_b1 (a0 : List UInt8) : (Int × Int) → Option ((Int × Int) ⊕ Bool)
  | (x1, x2) => if (ltI x2 x1) = true then if (0 : Int) ≤ x2 ∧ x2.toNat < a0.length then (preref1_Letter (a0.getD x2.toNat 0)).bind fun r1 => if (!r1) = true then if (eqI x2 0) = true then preref1_Name_j2 x1 x2 true else if (0 : Int) ≤ x2 ∧ x2.toNat < a0.length then (preref1_Digit (a0.getD x2.toNat 0)).bind fun r2 => preref1_Name_j2 x1 x2 (!r2) else none else preref1_Name_j2 x1 x2 false else none else inrO (some (ltI 0 (a0.length : Int)))
noncomputable def preref1_Name (a0 : List UInt8) : Option Bool :=
  loopO (preref1_Name_b1 a0) ((a0.length : Int), 0)
noncomputable def pf_preref1_Name : PF := PF.of (E1 dS) (fun a => preref1_Name a) dB
set_option maxRecDepth 100000 in
set_option maxHeartbeats 4000000 in
theorem preref1_Name_ok : PureOk Try.prog 34 pf_preref1_Name := by
  refine xF mixed [(43, pf_preref1_Letter), (45, pf_preref1_Digit)] [] ⟨⟨call_43, preref1_Letter_ok⟩, ⟨call_45, preref1_Digit_ok⟩, trivial⟩ trivial Try.func34 ?_
  rintro a0 out H
  have G := True.intro
  have Y := xZ y_9 <| Try.results34
  simp only [preref1_Name] at H
  refine xS ?_
  refine xr ?_
  refine xr ?_
  refine w_loop (preref1_Name_b1 a0) (fun s => [(0, .c (.d (.v (str a0)))), (5, .c (.d (.v (.int .i64 s.1)))), (6, .c (.d (.v (.int .i64 s.2))))]) (fun s => []) [] H (xK ⟨[], []⟩) ?_
  rintro n1 ⟨x1, x2⟩ o1 H hF1
  rw [preref1_Name_b1] at H
  refine xS ?_
  refine xr ?_
  rcases bsplit H with ⟨hp1, H⟩ | ⟨hp1, H⟩
  · obtain ⟨F, G, hq1⟩ := xH Y G hp1
    refine xT ?_
    refine xr0 ?_
    refine then_normal ?_
    refine w_cut (preref1_Name_j2 x1 x2) (fun s => [(0, .c (.d (.v (str a0)))), (5, .c (.d (.v (.int .i64 x1)))), (6, .c (.d (.v (.int .i64 x2)))), (24, .c (.d (.v (.bool s))))]) (fun s => []) [] o1 ?_ ?_
    · obtain ⟨hg1, H⟩ := gsplit H
      obtain ⟨r1, hr1, H⟩ := osplit H
      have F := xC Y (preref1_Letter_c (a0.getD x2.toNat 0) r1 hr1)
      rcases bsplit H with ⟨hp3, H⟩ | ⟨hp3, H⟩
      · obtain ⟨F, G, hq3⟩ := xH F G hp3
        rcases bsplit H with ⟨hp4, H⟩ | ⟨hp4, H⟩
        · obtain ⟨F, G, hq4⟩ := xH F G hp4
          refine xR ?_
          exact cut_at H (xK ⟨[], []⟩)
        · obtain ⟨F, G, hq4⟩ := xH F G hp4
          obtain ⟨hg2, H⟩ := gsplit H
          obtain ⟨r2, hr2, H⟩ := osplit H
          have F := xC F (preref1_Digit_c (a0.getD x2.toNat 0) r2 hr2)
          refine xR ?_
          exact cut_at H (xK ⟨[], []⟩)
      · obtain ⟨F, G, hq3⟩ := xH F G hp3
        refine xR ?_
        exact cut_at H (xK ⟨[], []⟩)
    · rintro x3 H
      rw [preref1_Name_j2] at H
      rcases bsplit H with ⟨hp2, H⟩ | ⟨hp2, H⟩
      · obtain ⟨F, G, hq2⟩ := xH Y G hp2
        refine xT ?_
        replace H := inrO_fin H hF1
        refine xr ?_
        cases H
        exact xN
      · obtain ⟨F, G, hq2⟩ := xH Y G hp2
        refine xE ?_
        refine xr ?_
        exact round_at (inl_fin H hF1) (xK ⟨[], []⟩)
  · obtain ⟨F, G, hq1⟩ := xH Y G hp1
    replace H := inrO_fin H hF1
    refine xE ?_
    refine xr ?_
    cases H
    exact xN
theorem preref1_Name_c (a0 : List UInt8) (r : Bool) (H : preref1_Name a0 = some r) : PC pf_preref1_Name [dS a0] (dB r) := PF.c (a := a0) H
noncomputable def lex_Signs  : Option (List (List UInt8)) :=
  some [[46, 46, 46], [60, 60, 61], [62, 62, 61], [45, 62], [43, 43], [45, 45], [60, 60], [62, 62], [60, 61], [62, 61], [61, 61], [33, 61], [38, 38], [124, 124], [43, 61], [45, 61], [42, 61], [47, 61], [37, 61], [38, 61], [124, 61], [94, 61], [35, 35], [91], [93], [40], [41], [123], [125], [46], [38], [42], [43], [45], [126], [33], [47], [37], [60], [62], [94], [124], [63], [58], [59], [61], [44], [35]]
noncomputable def pf_lex_Signs : PF := PF.of E0 (fun _ => lex_Signs) (dL 1 dS)
set_option maxRecDepth 100000 in
set_option maxHeartbeats 4000000 in
theorem lex_Signs_ok : PureOk Try.prog 40 pf_lex_Signs := by
  refine xF mixed [] [] trivial trivial Try.func40 ?_
  rintro _ out H
  have G := True.intro
  have Y := xZ y_9 <| xZ y_34 <| Try.results40
  simp only [lex_Signs] at H
  refine xS ?_
  refine xr ?_
  refine xr ?_
  cases H
  exact xN
theorem lex_Signs_c  (r : (List (List UInt8))) (H : lex_Signs  = some r) : PC pf_lex_Signs [] ((dL 1 dS) r) := PF.c (a := ()) H
noncomputable def preref1_Signs  : Option (List (List UInt8)) :=
  some [[46, 46, 46], [60, 60, 61], [62, 62, 61], [45, 62], [43, 43], [45, 45], [60, 60], [62, 62], [60, 61], [62, 61], [61, 61], [33, 61], [38, 38], [124, 124], [43, 61], [45, 61], [42, 61], [47, 61], [37, 61], [38, 61], [124, 61], [94, 61], [35, 35], [91], [93], [40], [41], [123], [125], [46], [38], [42], [43], [45], [126], [33], [47], [37], [60], [62], [94], [124], [63], [58], [59], [61], [44], [35]]
noncomputable def pf_preref1_Signs : PF := PF.of E0 (fun _ => preref1_Signs) (dL 1 dS)
set_option maxRecDepth 100000 in
set_option maxHeartbeats 4000000 in
theorem preref1_Signs_ok : PureOk Try.prog 41 pf_preref1_Signs := by
  refine xF mixed [] [] trivial trivial Try.func41 ?_
  rintro _ out H
  have G := True.intro
  have Y := xZ y_9 <| xZ y_34 <| Try.results41
  simp only [preref1_Signs] at H
  refine xS ?_
  refine xr ?_
  refine xr ?_
  cases H
  exact xN
theorem preref1_Signs_c  (r : (List (List UInt8))) (H : preref1_Signs  = some r) : PC pf_preref1_Signs [] ((dL 1 dS) r) := PF.c (a := ()) H
noncomputable def prelaw8_same_b1 (a0 : List Int) (a1 : List Int) : (Int × Int) → Option ((Int × Int) ⊕ Bool)
  | (x1, x2) => if (ltI x2 x1) = true then if (0 : Int) ≤ x2 ∧ x2.toNat < a0.length then if (0 : Int) ≤ x2 ∧ x2.toNat < a1.length then if (!eqI (a0.getD x2.toNat default) (a1.getD x2.toNat default)) = true then inrO (some false) else some (.inl (x1, IntKind.i64.wrap (x2 + 1))) else none else none else inrO (some true)
noncomputable def prelaw8_same (a0 : List Int) (a1 : List Int) : Option Bool :=
  if (!eqI (a0.length : Int) (a1.length : Int)) = true then some false else loopO (prelaw8_same_b1 a0 a1) ((a0.length : Int), 0)
noncomputable def pf_prelaw8_same : PF := PF.of (E2 (dL 1 dI) (dL 1 dI)) (fun a => prelaw8_same a.1 a.2) dB
set_option maxRecDepth 100000 in
set_option maxHeartbeats 4000000 in
theorem prelaw8_same_ok : PureOk Try.prog 27 pf_prelaw8_same := by
  refine xF mixed [] [] trivial trivial Try.func27 ?_
  rintro ⟨a0, a1⟩ out H
  have G := True.intro
  have Y := xZ y_3 <| xZ y_22 <| Try.results27
  simp only [prelaw8_same] at H
  refine xS ?_
  refine xr ?_
  refine xr ?_
  rcases bsplit H with ⟨hp1, H⟩ | ⟨hp1, H⟩
  · obtain ⟨F, G, hq1⟩ := xH Y G hp1
    refine xT ?_
    refine xr ?_
    cases H
    exact xN
  · obtain ⟨F, G, hq1⟩ := xH Y G hp1
    refine xE ?_
    refine xr ?_
    refine w_loop (prelaw8_same_b1 a0 a1) (fun s => [(0, .c (.d (.sl 1 (List.map dI a0)))), (1, .c (.d (.sl 1 (List.map dI a1)))), (12, .c (.d (.v (.int .i64 s.1)))), (13, .c (.d (.v (.int .i64 s.2))))]) (fun s => []) [] H (xK ⟨[], []⟩) ?_
    rintro n1 ⟨x1, x2⟩ o1 H hF1
    rw [prelaw8_same_b1] at H
    refine xS ?_
    refine xr ?_
    rcases bsplit H with ⟨hp2, H⟩ | ⟨hp2, H⟩
    · obtain ⟨F, G, hq2⟩ := xH Y G hp2
      refine xT ?_
      refine xr ?_
      obtain ⟨hg1, H⟩ := gsplit H
      have F := xZ Y (map_getD dI a0 x2.toNat default default (by omega))
      obtain ⟨hg2, H⟩ := gsplit H
      have F := xZ F (map_getD dI a1 x2.toNat default default (by omega))
      refine xR ?_
      rcases bsplit H with ⟨hp3, H⟩ | ⟨hp3, H⟩
      · obtain ⟨F, G, hq3⟩ := xH Y G hp3
        refine xT ?_
        replace H := inrO_fin H hF1
        refine xr ?_
        cases H
        exact xN
      · obtain ⟨F, G, hq3⟩ := xH Y G hp3
        refine xE ?_
        refine xr ?_
        exact round_at (inl_fin H hF1) (xK ⟨[], []⟩)
    · obtain ⟨F, G, hq2⟩ := xH Y G hp2
      replace H := inrO_fin H hF1
      refine xE ?_
      refine xr ?_
      cases H
      exact xN
theorem prelaw8_same_c (a0 : List Int) (a1 : List Int) (r : Bool) (H : prelaw8_same a0 a1 = some r) : PC pf_prelaw8_same [(dL 1 dI) a0, (dL 1 dI) a1] (dB r) := PF.c (a := (a0, a1)) H
noncomputable def preref1_SameToken_b3 (a0 : Token) (a1 : Token) : (Int × Int) → Option ((Int × Int) ⊕ Bool)
  | (x4, x5) => if (ltI x5 x4) = true then if (0 : Int) ≤ x5 ∧ x5.toNat < a0.Calls.length then if (0 : Int) ≤ x5 ∧ x5.toNat < a1.Calls.length then if (!(eqS ((a0.Calls.getD x5.toNat default).Name) ((a1.Calls.getD x5.toNat default).Name) && (eqI ((a0.Calls.getD x5.toNat default).File) ((a1.Calls.getD x5.toNat default).File) && (eqI ((a0.Calls.getD x5.toNat default).At) ((a1.Calls.getD x5.toNat default).At))))) = true then inrO (some false) else some (.inl (x4, IntKind.i64.wrap (x5 + 1))) else none else none else inrO (some true)
noncomputable def preref1_SameToken_b2 (a0 : Token) (a1 : Token) : (Int × Int) → Option ((Int × Int) ⊕ Bool)
  | (x2, x3) => if (ltI x3 x2) = true then if (0 : Int) ≤ x3 ∧ x3.toNat < a0.Hide.length then if (0 : Int) ≤ x3 ∧ x3.toNat < a1.Hide.length then if (!eqS (a0.Hide.getD x3.toNat default) (a1.Hide.getD x3.toNat default)) = true then inrO (some false) else some (.inl (x2, IntKind.i64.wrap (x3 + 1))) else none else none else inrO (loopO (preref1_SameToken_b3 a0 a1) ((a0.Calls.length : Int), 0))
noncomputable def preref1_SameToken_j1 (a0 : Token) (a1 : Token) : Bool → Option Bool
  | x1 => if x1 = true then some false else loopO (preref1_SameToken_b2 a0 a1) ((a0.Hide.length : Int), 0)
noncomputable def preref1_SameToken (a0 : Token) (a1 : Token) : Option Bool :=
  if (!eqI a0.Kind a1.Kind) = true then preref1_SameToken_j1 a0 a1 true else if (!eqS a0.Text a1.Text) = true then preref1_SameToken_j1 a0 a1 true else if (!eqB a0.Space a1.Space) = true then preref1_SameToken_j1 a0 a1 true else if (!eqB a0.First a1.First) = true then preref1_SameToken_j1 a0 a1 true else if (!eqI a0.File a1.File) = true then preref1_SameToken_j1 a0 a1 true else if (!eqI a0.At a1.At) = true then preref1_SameToken_j1 a0 a1 true else if (!eqI a0.End a1.End) = true then preref1_SameToken_j1 a0 a1 true else if (!eqI a0.Line a1.Line) = true then preref1_SameToken_j1 a0 a1 true else if (!eqI a0.Made a1.Made) = true then preref1_SameToken_j1 a0 a1 true else if (!eqI (a0.Hide.length : Int) (a1.Hide.length : Int)) = true then preref1_SameToken_j1 a0 a1 true else preref1_SameToken_j1 a0 a1 (!eqI (a0.Calls.length : Int) (a1.Calls.length : Int))
noncomputable def pf_preref1_SameToken : PF := PF.of (E2 d_Token d_Token) (fun a => preref1_SameToken a.1 a.2) dB
set_option maxRecDepth 100000 in
set_option maxHeartbeats 4000000 in
theorem preref1_SameToken_ok : PureOk Try.prog 66 pf_preref1_SameToken := by
  refine xF mixed [] [] trivial trivial Try.func66 ?_
  rintro ⟨a0, a1⟩ out H
  have G := True.intro
  have Y := xZ y_3 <| xZ y_4 <| xZ y_9 <| xZ y_34 <| xZ y_35 <| xZ y_37 <| xZ y_44 <| xZ Try.results66 <| xZ d_Call.eq_1 <| d_Token.eq_1
  simp only [preref1_SameToken] at H
  refine xS ?_
  refine xr0 ?_
  refine then_normal ?_
  refine w_seq ?_
  refine w_cut (preref1_SameToken_j1 a0 a1) (fun s => [(2, .c (.pt 1 0)), (3, .c (.pt 2 0)), (85, .c (.d (.v (.bool s))))]) (fun s => [[.d (.v (.int .i64 a0.Kind)), .d (.v (str a0.Text)), .d (.v (.bool a0.Space)), .d (.v (.bool a0.First)), .d (.v (.int .i64 a0.File)), .d (.v (.int .i64 a0.At)), .d (.v (.int .i64 a0.End)), .d (.v (.int .i64 a0.Line)), .d (.sl 1 (List.map dS a0.Hide)), .d (.sl 3 (List.map d_Call a0.Calls)), .d (.v (.int .i64 a0.Made))], [.d (.v (.int .i64 a1.Kind)), .d (.v (str a1.Text)), .d (.v (.bool a1.Space)), .d (.v (.bool a1.First)), .d (.v (.int .i64 a1.File)), .d (.v (.int .i64 a1.At)), .d (.v (.int .i64 a1.End)), .d (.v (.int .i64 a1.Line)), .d (.sl 1 (List.map dS a1.Hide)), .d (.sl 3 (List.map d_Call a1.Calls)), .d (.v (.int .i64 a1.Made))]]) [] out ?_ ?_
  · rcases bsplit H with ⟨hp6, H⟩ | ⟨hp6, H⟩
    · obtain ⟨F, G, hq6⟩ := xH Y G hp6
      refine xR ?_
      exact cut_at H (xK ⟨[1,2], []⟩)
    · obtain ⟨F, G, hq6⟩ := xH Y G hp6
      rcases bsplit H with ⟨hp7, H⟩ | ⟨hp7, H⟩
      · obtain ⟨F, G, hq7⟩ := xH F G hp7
        refine xR ?_
        exact cut_at H (xK ⟨[1,2], []⟩)
      · obtain ⟨F, G, hq7⟩ := xH F G hp7
        rcases bsplit H with ⟨hp8, H⟩ | ⟨hp8, H⟩
        · obtain ⟨F, G, hq8⟩ := xH F G hp8
          refine xR ?_
          exact cut_at H (xK ⟨[1,2], []⟩)
        · obtain ⟨F, G, hq8⟩ := xH F G hp8
          rcases bsplit H with ⟨hp9, H⟩ | ⟨hp9, H⟩
          · obtain ⟨F, G, hq9⟩ := xH F G hp9
            refine xR ?_
            exact cut_at H (xK ⟨[1,2], []⟩)
          · obtain ⟨F, G, hq9⟩ := xH F G hp9
            rcases bsplit H with ⟨hp10, H⟩ | ⟨hp10, H⟩
            · obtain ⟨F, G, hq10⟩ := xH F G hp10
              refine xR ?_
              exact cut_at H (xK ⟨[1,2], []⟩)
            · obtain ⟨F, G, hq10⟩ := xH F G hp10
              rcases bsplit H with ⟨hp11, H⟩ | ⟨hp11, H⟩
              · obtain ⟨F, G, hq11⟩ := xH F G hp11
                refine xR ?_
                exact cut_at H (xK ⟨[1,2], []⟩)
              · obtain ⟨F, G, hq11⟩ := xH F G hp11
                rcases bsplit H with ⟨hp12, H⟩ | ⟨hp12, H⟩
                · obtain ⟨F, G, hq12⟩ := xH F G hp12
                  refine xR ?_
                  exact cut_at H (xK ⟨[1,2], []⟩)
                · obtain ⟨F, G, hq12⟩ := xH F G hp12
                  rcases bsplit H with ⟨hp13, H⟩ | ⟨hp13, H⟩
                  · obtain ⟨F, G, hq13⟩ := xH F G hp13
                    refine xR ?_
                    exact cut_at H (xK ⟨[1,2], []⟩)
                  · obtain ⟨F, G, hq13⟩ := xH F G hp13
                    rcases bsplit H with ⟨hp14, H⟩ | ⟨hp14, H⟩
                    · obtain ⟨F, G, hq14⟩ := xH F G hp14
                      refine xR ?_
                      exact cut_at H (xK ⟨[1,2], []⟩)
                    · obtain ⟨F, G, hq14⟩ := xH F G hp14
                      rcases bsplit H with ⟨hp15, H⟩ | ⟨hp15, H⟩
                      · obtain ⟨F, G, hq15⟩ := xH F G hp15
                        refine xR ?_
                        exact cut_at H (xK ⟨[1,2], []⟩)
                      · obtain ⟨F, G, hq15⟩ := xH F G hp15
                        refine xR ?_
                        exact cut_at H (xK ⟨[1,2], []⟩)
  · rintro x1 H
    rw [preref1_SameToken_j1] at H
    rcases bsplit H with ⟨hp1, H⟩ | ⟨hp1, H⟩
    · obtain ⟨F, G, hq1⟩ := xH Y G hp1
      refine xT ?_
      refine xr ?_
      cases H
      exact xN
    · obtain ⟨F, G, hq1⟩ := xH Y G hp1
      refine xE ?_
      refine xr ?_
      refine w_loop (preref1_SameToken_b2 a0 a1) (fun s => [(2, .c (.pt 1 0)), (3, .c (.pt 2 0)), (88, .c (.d (.v (.int .i64 s.1)))), (89, .c (.d (.v (.int .i64 s.2))))]) (fun s => [[.d (.v (.int .i64 a0.Kind)), .d (.v (str a0.Text)), .d (.v (.bool a0.Space)), .d (.v (.bool a0.First)), .d (.v (.int .i64 a0.File)), .d (.v (.int .i64 a0.At)), .d (.v (.int .i64 a0.End)), .d (.v (.int .i64 a0.Line)), .d (.sl 1 (List.map dS a0.Hide)), .d (.sl 3 (List.map d_Call a0.Calls)), .d (.v (.int .i64 a0.Made))], [.d (.v (.int .i64 a1.Kind)), .d (.v (str a1.Text)), .d (.v (.bool a1.Space)), .d (.v (.bool a1.First)), .d (.v (.int .i64 a1.File)), .d (.v (.int .i64 a1.At)), .d (.v (.int .i64 a1.End)), .d (.v (.int .i64 a1.Line)), .d (.sl 1 (List.map dS a1.Hide)), .d (.sl 3 (List.map d_Call a1.Calls)), .d (.v (.int .i64 a1.Made))]]) [] H (xK ⟨[1,2], []⟩) ?_
      rintro n1 ⟨x2, x3⟩ o1 H hF1
      rw [preref1_SameToken_b2] at H
      refine xS ?_
      refine xr ?_
      rcases bsplit H with ⟨hp2, H⟩ | ⟨hp2, H⟩
      · obtain ⟨F, G, hq2⟩ := xH Y G hp2
        refine xT ?_
        refine xr ?_
        obtain ⟨hg1, H⟩ := gsplit H
        have F := xZ Y (map_getD dS a0.Hide x3.toNat default default (by omega))
        obtain ⟨hg2, H⟩ := gsplit H
        have F := xZ F (map_getD dS a1.Hide x3.toNat default default (by omega))
        refine xR ?_
        rcases bsplit H with ⟨hp3, H⟩ | ⟨hp3, H⟩
        · obtain ⟨F, G, hq3⟩ := xH Y G hp3
          refine xT ?_
          replace H := inrO_fin H hF1
          refine xr ?_
          cases H
          exact xN
        · obtain ⟨F, G, hq3⟩ := xH Y G hp3
          refine xE ?_
          refine xr ?_
          exact round_at (inl_fin H hF1) (xK ⟨[1,2], []⟩)
      · obtain ⟨F, G, hq2⟩ := xH Y G hp2
        replace H := inrO_fin H hF1
        refine xE ?_
        refine xr ?_
        refine w_loop (preref1_SameToken_b3 a0 a1) (fun s => [(2, .c (.pt 1 0)), (3, .c (.pt 2 0)), (106, .c (.d (.v (.int .i64 s.1)))), (107, .c (.d (.v (.int .i64 s.2))))]) (fun s => [[.d (.v (.int .i64 a0.Kind)), .d (.v (str a0.Text)), .d (.v (.bool a0.Space)), .d (.v (.bool a0.First)), .d (.v (.int .i64 a0.File)), .d (.v (.int .i64 a0.At)), .d (.v (.int .i64 a0.End)), .d (.v (.int .i64 a0.Line)), .d (.sl 1 (List.map dS a0.Hide)), .d (.sl 3 (List.map d_Call a0.Calls)), .d (.v (.int .i64 a0.Made))], [.d (.v (.int .i64 a1.Kind)), .d (.v (str a1.Text)), .d (.v (.bool a1.Space)), .d (.v (.bool a1.First)), .d (.v (.int .i64 a1.File)), .d (.v (.int .i64 a1.At)), .d (.v (.int .i64 a1.End)), .d (.v (.int .i64 a1.Line)), .d (.sl 1 (List.map dS a1.Hide)), .d (.sl 3 (List.map d_Call a1.Calls)), .d (.v (.int .i64 a1.Made))]]) [] H (xK ⟨[1,2], []⟩) ?_
        rintro n2 ⟨x4, x5⟩ o2 H hF2
        rw [preref1_SameToken_b3] at H
        refine xS ?_
        refine xr ?_
        rcases bsplit H with ⟨hp4, H⟩ | ⟨hp4, H⟩
        · obtain ⟨F, G, hq4⟩ := xH Y G hp4
          refine xT ?_
          refine xr ?_
          obtain ⟨hg3, H⟩ := gsplit H
          have F := xZ Y (map_getD d_Call a0.Calls x5.toNat default default (by omega))
          obtain ⟨hg4, H⟩ := gsplit H
          have F := xZ F (map_getD d_Call a1.Calls x5.toNat default default (by omega))
          refine xR ?_
          rcases bsplit H with ⟨hp5, H⟩ | ⟨hp5, H⟩
          · obtain ⟨F, G, hq5⟩ := xH Y G hp5
            refine xT ?_
            replace H := inrO_fin H hF2
            refine xr ?_
            cases H
            exact xN
          · obtain ⟨F, G, hq5⟩ := xH Y G hp5
            refine xE ?_
            refine xr ?_
            exact round_at (inl_fin H hF2) (xK ⟨[1,2], []⟩)
        · obtain ⟨F, G, hq4⟩ := xH Y G hp4
          replace H := inrO_fin H hF2
          refine xE ?_
          refine xr ?_
          cases H
          exact xN
theorem preref1_SameToken_c (a0 : Token) (a1 : Token) (r : Bool) (H : preref1_SameToken a0 a1 = some r) : PC pf_preref1_SameToken [d_Token a0, d_Token a1] (dB r) := PF.c (a := (a0, a1)) H
noncomputable def preref1_SameTokens_b1 (a0 : List Token) (a1 : List Token) : (Int × Int) → Option ((Int × Int) ⊕ Bool)
  | (x1, x2) => if (ltI x2 x1) = true then if (0 : Int) ≤ x2 ∧ x2.toNat < a0.length then if (0 : Int) ≤ x2 ∧ x2.toNat < a1.length then (preref1_SameToken (a0.getD x2.toNat default) (a1.getD x2.toNat default)).bind fun r1 => if (!r1) = true then inrO (some false) else some (.inl (x1, IntKind.i64.wrap (x2 + 1))) else none else none else inrO (some true)
noncomputable def preref1_SameTokens (a0 : List Token) (a1 : List Token) : Option Bool :=
  if (!eqI (a0.length : Int) (a1.length : Int)) = true then some false else loopO (preref1_SameTokens_b1 a0 a1) ((a0.length : Int), 0)
noncomputable def pf_preref1_SameTokens : PF := PF.of (E2 (dL 11 d_Token) (dL 11 d_Token)) (fun a => preref1_SameTokens a.1 a.2) dB
set_option maxRecDepth 100000 in
set_option maxHeartbeats 4000000 in
theorem preref1_SameTokens_ok : PureOk Try.prog 32 pf_preref1_SameTokens := by
  refine xF mixed [(66, pf_preref1_SameToken)] [] ⟨⟨call_66, preref1_SameToken_ok⟩, trivial⟩ trivial Try.func32 ?_
  rintro ⟨a0, a1⟩ out H
  have G := True.intro
  have Y := xZ y_33 <| xZ y_37 <| xZ Try.results32 <| xZ d_Call.eq_1 <| d_Token.eq_1
  simp only [preref1_SameTokens] at H
  refine xS ?_
  refine xr ?_
  refine xr ?_
  rcases bsplit H with ⟨hp1, H⟩ | ⟨hp1, H⟩
  · obtain ⟨F, G, hq1⟩ := xH Y G hp1
    refine xT ?_
    refine xr ?_
    cases H
    exact xN
  · obtain ⟨F, G, hq1⟩ := xH Y G hp1
    refine xE ?_
    refine xr ?_
    refine w_loop (preref1_SameTokens_b1 a0 a1) (fun s => [(0, .c (.d (.sl 11 (List.map d_Token a0)))), (1, .c (.d (.sl 11 (List.map d_Token a1)))), (12, .c (.d (.v (.int .i64 s.1)))), (13, .c (.d (.v (.int .i64 s.2))))]) (fun s => []) [] H (xK ⟨[], []⟩) ?_
    rintro n1 ⟨x1, x2⟩ o1 H hF1
    rw [preref1_SameTokens_b1] at H
    refine xS ?_
    refine xr ?_
    rcases bsplit H with ⟨hp2, H⟩ | ⟨hp2, H⟩
    · obtain ⟨F, G, hq2⟩ := xH Y G hp2
      refine xT ?_
      refine xr ?_
      obtain ⟨hg1, H⟩ := gsplit H
      have F := xZ Y (map_getD d_Token a0 x2.toNat default default (by omega))
      obtain ⟨hg2, H⟩ := gsplit H
      have F := xZ F (map_getD d_Token a1 x2.toNat default default (by omega))
      obtain ⟨r1, hr1, H⟩ := osplit H
      have F := xC F (preref1_SameToken_c (a0.getD x2.toNat default) (a1.getD x2.toNat default) r1 hr1)
      refine xR ?_
      rcases bsplit H with ⟨hp3, H⟩ | ⟨hp3, H⟩
      · obtain ⟨F, G, hq3⟩ := xH Y G hp3
        refine xT ?_
        replace H := inrO_fin H hF1
        refine xr ?_
        cases H
        exact xN
      · obtain ⟨F, G, hq3⟩ := xH Y G hp3
        refine xE ?_
        refine xr ?_
        exact round_at (inl_fin H hF1) (xK ⟨[], []⟩)
    · obtain ⟨F, G, hq2⟩ := xH Y G hp2
      replace H := inrO_fin H hF1
      refine xE ?_
      refine xr ?_
      cases H
      exact xN
theorem preref1_SameTokens_c (a0 : List Token) (a1 : List Token) (r : Bool) (H : preref1_SameTokens a0 a1 = some r) : PC pf_preref1_SameTokens [(dL 11 d_Token) a0, (dL 11 d_Token) a1] (dB r) := PF.c (a := (a0, a1)) H
end Go.Proofs.Ytgkacglpjmndbaa
