/- Functions of data for functions of the program. Written by dec3.py. -/
import Derived.Test.YtghmojcecefgjaaDoorYah
import Derived.Test.YtghmojcecefgjaaDoorYal
import Derived.Test.YtghmojcecefgjaaDoorYaq
set_option linter.unusedVariables false
set_option linter.unusedSimpArgs false
namespace Go.Proofs.YtghmojcecefgjaaDoor
open Go.RowKit
noncomputable def prelaw4_eval (a0 : List UInt8) : Option (Int × Fault) :=
  (preref1_Tokens 0 a0).bind fun r1 => if (!eqI r1.2.Err 0) = true then some (0, r1.2) else (cond_Eval r1.1).bind fun r2 => some (r2.1, (⟨r2.2.1, r2.2.2.1, r2.2.2.2⟩ : Fault))
noncomputable def pf_prelaw4_eval : PF := PF.of (E1 dS) (fun a => prelaw4_eval a) (T2 dI d_Fault)
set_option maxRecDepth 100000 in
set_option maxHeartbeats 4000000 in
theorem prelaw4_eval_ok : PureOk Tryd.prog 17 pf_prelaw4_eval := by
  refine xF mixed [(7, pf_preref1_Tokens)] [(8, true, S_cond_Eval)] ⟨⟨call_7, preref1_Tokens_ok⟩, trivial⟩ ⟨cond_Eval_k, trivial⟩ Tryd.func17 ?_
  rintro a0 out H
  have G := True.intro
  have Y := xZ y_23 <| xZ y_25 <| xZ Tryd.results17 <| xZ d_Call.eq_1 <| xZ d_Token.eq_1 <| xZ d_Fault.eq_1 <| g_cond_Eval.eq_1
  simp only [prelaw4_eval] at H
  refine xS ?_
  refine xr ?_
  obtain ⟨r1, hr1, H⟩ := osplit H
  have F := xC Y (preref1_Tokens_c 0 a0 r1 hr1)
  refine xR ?_
  refine xr ?_
  rcases bsplit H with ⟨hp1, H⟩ | ⟨hp1, H⟩
  · obtain ⟨F, G, hq1⟩ := xH Y G hp1
    refine xT ?_
    replace H := Option.some.inj H
    refine xr ?_
    subst H
    exact xN
  · obtain ⟨F, G, hq1⟩ := xH Y G hp1
    refine xE ?_
    obtain ⟨r2, hr2, H⟩ := osplit H
    have F := Y
    refine xQ ?_
    refine xs 1 ?_
    refine xc ⟨[], []⟩ (tabG 0 (cond_Eval_c r1.1 r2 hr2)) ?_
    refine xs 4 ?_
    refine xl ?_
    replace H := Option.some.inj H
    refine xS ?_
    subst H
    exact xN
theorem prelaw4_eval_c (a0 : List UInt8) (r : Int × Fault) (H : prelaw4_eval a0 = some r) : PC pf_prelaw4_eval [dS a0] (T2 dI d_Fault r) := PF.c (a := a0) H
noncomputable def prelaw4_alive_j1 : Bool → Option Bool
  | x1 => some x1
noncomputable def prelaw4_alive  : Option Bool :=
  (prelaw4_eval [49, 32, 43, 32, 50, 32, 42, 32, 51, 32, 61, 61, 32, 55, 32, 38, 38, 32, 39, 97, 39, 32, 61, 61, 32, 57, 55, 32, 63, 32, 48, 120, 49, 48, 32, 58, 32, 49, 32, 47, 32, 48]).bind fun r1 => (cond_Num [48, 49, 55, 117]).bind fun r2 => (cond_Char [39, 92, 110, 39]).bind fun r3 => if (eqI r1.2.Err 0) = true then if (eqI r1.1 16) = true then if r2.2 = true then if (eqI r2.1 15) = true then if r3.2 = true then prelaw4_alive_j1 (eqI r3.1 10) else prelaw4_alive_j1 false else prelaw4_alive_j1 false else prelaw4_alive_j1 false else prelaw4_alive_j1 false else prelaw4_alive_j1 false
noncomputable def pf_prelaw4_alive : PF := PF.of E0 (fun _ => prelaw4_alive) dB
set_option maxRecDepth 100000 in
set_option maxHeartbeats 4000000 in
theorem prelaw4_alive_ok : PureOk Tryd.prog 14 pf_prelaw4_alive := by
  refine xF mixed [(17, pf_prelaw4_eval), (10, pf_cond_Num), (12, pf_cond_Char)] [] ⟨⟨call_17, prelaw4_eval_ok⟩, ⟨call_10, cond_Num_ok⟩, ⟨call_12, cond_Char_ok⟩, trivial⟩ trivial Tryd.func14 ?_
  rintro _ out H
  have G := True.intro
  have Y := xZ y_23 <| xZ y_25 <| xZ Tryd.results14 <| d_Fault.eq_1
  simp only [prelaw4_alive] at H
  refine xS ?_
  refine xr ?_
  obtain ⟨r1, hr1, H⟩ := osplit H
  have F := xC Y (prelaw4_eval_c [49, 32, 43, 32, 50, 32, 42, 32, 51, 32, 61, 61, 32, 55, 32, 38, 38, 32, 39, 97, 39, 32, 61, 61, 32, 57, 55, 32, 63, 32, 48, 120, 49, 48, 32, 58, 32, 49, 32, 47, 32, 48] r1 hr1)
  refine xR ?_
  obtain ⟨r2, hr2, H⟩ := osplit H
  have F := xC Y (cond_Num_c [48, 49, 55, 117] r2 hr2)
  refine xR ?_
  obtain ⟨r3, hr3, H⟩ := osplit H
  have F := xC Y (cond_Char_c [39, 92, 110, 39] r3 hr3)
  refine xR0 ?_
  refine then_normal ?_
  refine w_cut prelaw4_alive_j1 (fun s => [(0, .c (.d (.v (.bool s))))]) (fun s => []) [] out ?_ ?_
  · rcases bsplit H with ⟨hp1, H⟩ | ⟨hp1, H⟩
    · obtain ⟨F, G, hq1⟩ := xH Y G hp1
      rcases bsplit H with ⟨hp2, H⟩ | ⟨hp2, H⟩
      · obtain ⟨F, G, hq2⟩ := xH F G hp2
        rcases bsplit H with ⟨hp3, H⟩ | ⟨hp3, H⟩
        · obtain ⟨F, G, hq3⟩ := xH F G hp3
          rcases bsplit H with ⟨hp4, H⟩ | ⟨hp4, H⟩
          · obtain ⟨F, G, hq4⟩ := xH F G hp4
            rcases bsplit H with ⟨hp5, H⟩ | ⟨hp5, H⟩
            · obtain ⟨F, G, hq5⟩ := xH F G hp5
              refine xR ?_
              exact cut_at H (xK ⟨[], []⟩)
            · obtain ⟨F, G, hq5⟩ := xH F G hp5
              refine xR ?_
              exact cut_at H (xK ⟨[], []⟩)
          · obtain ⟨F, G, hq4⟩ := xH F G hp4
            refine xR ?_
            exact cut_at H (xK ⟨[], []⟩)
        · obtain ⟨F, G, hq3⟩ := xH F G hp3
          refine xR ?_
          exact cut_at H (xK ⟨[], []⟩)
      · obtain ⟨F, G, hq2⟩ := xH F G hp2
        refine xR ?_
        exact cut_at H (xK ⟨[], []⟩)
    · obtain ⟨F, G, hq1⟩ := xH Y G hp1
      refine xR ?_
      exact cut_at H (xK ⟨[], []⟩)
  · rintro x1 H
    rw [prelaw4_alive_j1] at H
    replace H := Option.some.inj H
    refine xS ?_
    subst H
    exact xN
theorem prelaw4_alive_c  (r : Bool) (H : prelaw4_alive  = some r) : PC pf_prelaw4_alive [] (dB r) := PF.c (a := ()) H
noncomputable def prelaw4_lit (a0 : Int) : Option (List UInt8) :=
  if (ltI a0 0) = true then (strconv_Itoa (IntKind.i64.wrap ((-1) - a0))).bind fun r1 => if 2 + r1.length ≤ 9223372036854775807 then if 2 + r1.length + 1 ≤ 9223372036854775807 then some (([40, 126] ++ r1) ++ [41]) else none else none else (strconv_Itoa a0).bind fun r2 => if 1 + r2.length ≤ 9223372036854775807 then if 1 + r2.length + 1 ≤ 9223372036854775807 then some (([40] ++ r2) ++ [41]) else none else none
noncomputable def pf_prelaw4_lit : PF := PF.of (E1 dI) (fun a => prelaw4_lit a) dS
set_option maxRecDepth 100000 in
set_option maxHeartbeats 4000000 in
theorem prelaw4_lit_ok : PureOk Tryd.prog 15 pf_prelaw4_lit := by
  refine xF mixed [(28, pf_strconv_Itoa)] [] ⟨⟨call_28, strconv_Itoa_ok⟩, trivial⟩ trivial Tryd.func15 ?_
  rintro a0 out H
  have G := True.intro
  have Y := Tryd.results15
  simp only [prelaw4_lit] at H
  refine xS ?_
  refine xr ?_
  refine xr ?_
  rcases bsplit H with ⟨hp1, H⟩ | ⟨hp1, H⟩
  · obtain ⟨F, G, hq1⟩ := xH Y G hp1
    refine xT ?_
    obtain ⟨r1, hr1, H⟩ := osplit H
    have F := xC Y (strconv_Itoa_c (IntKind.i64.wrap ((-1) - a0)) r1 hr1)
    obtain ⟨hg1, H⟩ := gsplit H
    obtain ⟨hg2, H⟩ := gsplit H
    replace H := Option.some.inj H
    refine xR ?_
    subst H
    exact xN
  · obtain ⟨F, G, hq1⟩ := xH Y G hp1
    refine xE ?_
    obtain ⟨r2, hr2, H⟩ := osplit H
    have F := xC Y (strconv_Itoa_c a0 r2 hr2)
    obtain ⟨hg3, H⟩ := gsplit H
    obtain ⟨hg4, H⟩ := gsplit H
    replace H := Option.some.inj H
    refine xR ?_
    subst H
    exact xN
theorem prelaw4_lit_c (a0 : Int) (r : (List UInt8)) (H : prelaw4_lit a0 = some r) : PC pf_prelaw4_lit [dI a0] (dS r) := PF.c (a := a0) H
noncomputable def prelaw4_CondIdle_j1 : Bool → Option Bool
  | x1 => some x1
noncomputable def prelaw4_CondIdle_j2 : Bool → Option Bool
  | x2 => some x2
noncomputable def prelaw4_CondIdle (a0 : Int) (a1 : Int) : Option Bool :=
  (prelaw4_alive).bind fun r1 => if (!r1) = true then some false else (prelaw4_lit a0).bind fun r2 => (prelaw4_lit a1).bind fun r3 => if r2.length + 3 ≤ 9223372036854775807 then if r2.length + 3 + r3.length ≤ 9223372036854775807 then if r2.length + 3 + r3.length + 8 ≤ 9223372036854775807 then (prelaw4_eval (((r2 ++ [32, 63, 32]) ++ r3) ++ [32, 58, 32, 40, 49, 47, 48, 41])).bind fun r4 => if r2.length + 14 ≤ 9223372036854775807 then (prelaw4_eval (r2 ++ [32, 38, 38, 32, 40, 49, 37, 48, 41, 32, 124, 124, 32, 49])).bind fun r5 => if r2.length + 9 ≤ 9223372036854775807 then (prelaw4_eval (r2 ++ [32, 124, 124, 32, 40, 49, 47, 48, 41])).bind fun r6 => if (!eqI a0 0) = true then if (eqI r4.2.Err 0) = true then if (eqI r4.1 a1) = true then if (eqI r5.2.Err 13) = true then if (eqI r6.2.Err 0) = true then prelaw4_CondIdle_j1 (eqI r6.1 1) else prelaw4_CondIdle_j1 false else prelaw4_CondIdle_j1 false else prelaw4_CondIdle_j1 false else prelaw4_CondIdle_j1 false else if (eqI r4.2.Err 13) = true then if (eqI r5.2.Err 0) = true then if (eqI r5.1 1) = true then prelaw4_CondIdle_j2 (eqI r6.2.Err 13) else prelaw4_CondIdle_j2 false else prelaw4_CondIdle_j2 false else prelaw4_CondIdle_j2 false else none else none else none else none else none
noncomputable def pf_prelaw4_CondIdle : PF := PF.of (E2 dI dI) (fun a => prelaw4_CondIdle a.1 a.2) dB
set_option maxRecDepth 100000 in
set_option maxHeartbeats 4000000 in
theorem prelaw4_CondIdle_ok : PureOk Tryd.prog 5 pf_prelaw4_CondIdle := by
  refine xF mixed [(14, pf_prelaw4_alive), (15, pf_prelaw4_lit), (17, pf_prelaw4_eval)] [] ⟨⟨call_14, prelaw4_alive_ok⟩, ⟨call_15, prelaw4_lit_ok⟩, ⟨call_17, prelaw4_eval_ok⟩, trivial⟩ trivial Tryd.func5 ?_
  rintro ⟨a0, a1⟩ out H
  have G := True.intro
  have Y := xZ y_23 <| xZ y_25 <| xZ Tryd.results5 <| d_Fault.eq_1
  simp only [prelaw4_CondIdle] at H
  refine xS ?_
  refine xr ?_
  obtain ⟨r1, hr1, H⟩ := osplit H
  have F := xC Y (prelaw4_alive_c  r1 hr1)
  refine xR ?_
  rcases bsplit H with ⟨hp1, H⟩ | ⟨hp1, H⟩
  · obtain ⟨F, G, hq1⟩ := xH Y G hp1
    refine xT ?_
    replace H := Option.some.inj H
    refine xr ?_
    subst H
    exact xN
  · obtain ⟨F, G, hq1⟩ := xH Y G hp1
    refine xE ?_
    obtain ⟨r2, hr2, H⟩ := osplit H
    have F := xC Y (prelaw4_lit_c a0 r2 hr2)
    obtain ⟨r3, hr3, H⟩ := osplit H
    have F := xCf F (prelaw4_lit_c a1 r3 hr3)
    refine xR ?_
    obtain ⟨hg1, H⟩ := gsplit H
    obtain ⟨hg2, H⟩ := gsplit H
    obtain ⟨hg3, H⟩ := gsplit H
    obtain ⟨r4, hr4, H⟩ := osplit H
    have F := xC Y (prelaw4_eval_c (((r2 ++ [32, 63, 32]) ++ r3) ++ [32, 58, 32, 40, 49, 47, 48, 41]) r4 hr4)
    refine xR ?_
    obtain ⟨hg4, H⟩ := gsplit H
    obtain ⟨r5, hr5, H⟩ := osplit H
    have F := xC Y (prelaw4_eval_c (r2 ++ [32, 38, 38, 32, 40, 49, 37, 48, 41, 32, 124, 124, 32, 49]) r5 hr5)
    refine xR ?_
    obtain ⟨hg5, H⟩ := gsplit H
    obtain ⟨r6, hr6, H⟩ := osplit H
    have F := xC Y (prelaw4_eval_c (r2 ++ [32, 124, 124, 32, 40, 49, 47, 48, 41]) r6 hr6)
    refine xR ?_
    refine xr ?_
    rcases bsplit H with ⟨hp2, H⟩ | ⟨hp2, H⟩
    · obtain ⟨F, G, hq2⟩ := xH Y G hp2
      refine xT0 ?_
      refine w_cut prelaw4_CondIdle_j1 (fun s => [(4, .c (.d (.v (.bool s))))]) (fun s => []) [] out ?_ ?_
      · rcases bsplit H with ⟨hp3, H⟩ | ⟨hp3, H⟩
        · obtain ⟨F, G, hq3⟩ := xH Y G hp3
          rcases bsplit H with ⟨hp4, H⟩ | ⟨hp4, H⟩
          · obtain ⟨F, G, hq4⟩ := xH F G hp4
            rcases bsplit H with ⟨hp5, H⟩ | ⟨hp5, H⟩
            · obtain ⟨F, G, hq5⟩ := xH F G hp5
              rcases bsplit H with ⟨hp6, H⟩ | ⟨hp6, H⟩
              · obtain ⟨F, G, hq6⟩ := xH F G hp6
                refine xR ?_
                exact cut_at H (xK ⟨[], []⟩)
              · obtain ⟨F, G, hq6⟩ := xH F G hp6
                refine xR ?_
                exact cut_at H (xK ⟨[], []⟩)
            · obtain ⟨F, G, hq5⟩ := xH F G hp5
              refine xR ?_
              exact cut_at H (xK ⟨[], []⟩)
          · obtain ⟨F, G, hq4⟩ := xH F G hp4
            refine xR ?_
            exact cut_at H (xK ⟨[], []⟩)
        · obtain ⟨F, G, hq3⟩ := xH Y G hp3
          refine xR ?_
          exact cut_at H (xK ⟨[], []⟩)
      · rintro x1 H
        rw [prelaw4_CondIdle_j1] at H
        replace H := Option.some.inj H
        refine xS ?_
        subst H
        exact xN
    · obtain ⟨F, G, hq2⟩ := xH Y G hp2
      refine xE0 ?_
      refine w_skip ?_
      refine then_normal ?_
      refine w_cut prelaw4_CondIdle_j2 (fun s => [(4, .c (.d (.v (.bool s))))]) (fun s => []) [] out ?_ ?_
      · rcases bsplit H with ⟨hp7, H⟩ | ⟨hp7, H⟩
        · obtain ⟨F, G, hq7⟩ := xH Y G hp7
          rcases bsplit H with ⟨hp8, H⟩ | ⟨hp8, H⟩
          · obtain ⟨F, G, hq8⟩ := xH F G hp8
            rcases bsplit H with ⟨hp9, H⟩ | ⟨hp9, H⟩
            · obtain ⟨F, G, hq9⟩ := xH F G hp9
              refine xR ?_
              exact cut_at H (xK ⟨[], []⟩)
            · obtain ⟨F, G, hq9⟩ := xH F G hp9
              refine xR ?_
              exact cut_at H (xK ⟨[], []⟩)
          · obtain ⟨F, G, hq8⟩ := xH F G hp8
            refine xR ?_
            exact cut_at H (xK ⟨[], []⟩)
        · obtain ⟨F, G, hq7⟩ := xH Y G hp7
          refine xR ?_
          exact cut_at H (xK ⟨[], []⟩)
      · rintro x2 H
        rw [prelaw4_CondIdle_j2] at H
        replace H := Option.some.inj H
        refine xS ?_
        subst H
        exact xN
theorem prelaw4_CondIdle_c (a0 : Int) (a1 : Int) (r : Bool) (H : prelaw4_CondIdle a0 a1 = some r) : PC pf_prelaw4_CondIdle [dI a0, dI a1] (dB r) := PF.c (a := (a0, a1)) H
noncomputable def prelaw4_CondParens_j3 (x2 : Int) (x3 : Int) : Bool → Option ((Int × Int) ⊕ Bool)
  | x4 => if x4 = true then inrO (some true) else some (.inl (x2, IntKind.i64.wrap (x3 + 1)))
noncomputable def prelaw4_CondParens_j5 : Bool → Option Bool
  | x6 => some x6
noncomputable def prelaw4_CondParens_j4 (r2 : Int × Fault) (r3 : Int × Fault) (r4 : Int × Fault) : Bool → Option Bool
  | x5 => if x5 = true then some true else if (eqI r3.2.Err 0) = true then if (eqI r3.1 r2.1) = true then if (eqI r4.2.Err 0) = true then prelaw4_CondParens_j5 (eqB (eqI r4.1 1) (!eqI r2.1 0)) else prelaw4_CondParens_j5 false else prelaw4_CondParens_j5 false else prelaw4_CondParens_j5 false
noncomputable def prelaw4_CondParens_b2 (a0 : List UInt8) (r2 : Int × Fault) : (Int × Int) → Option ((Int × Int) ⊕ Bool)
  | (x2, x3) => if (ltI x3 x2) = true then if (0 : Int) ≤ x3 ∧ x3.toNat < a0.length then if (eqI ((a0.getD x3.toNat 0).toNat : Int) 47) = true then prelaw4_CondParens_j3 x2 x3 true else if (0 : Int) ≤ x3 ∧ x3.toNat < a0.length then if (eqI ((a0.getD x3.toNat 0).toNat : Int) 92) = true then prelaw4_CondParens_j3 x2 x3 true else if (0 : Int) ≤ x3 ∧ x3.toNat < a0.length then prelaw4_CondParens_j3 x2 x3 (eqI ((a0.getD x3.toNat 0).toNat : Int) 10) else none else none else none else inrO (if 1 + a0.length ≤ 9223372036854775807 then if 1 + a0.length + 1 ≤ 9223372036854775807 then (prelaw4_eval (([40] ++ a0) ++ [41])).bind fun r3 => if 3 + a0.length ≤ 9223372036854775807 then if 3 + a0.length + 1 ≤ 9223372036854775807 then (prelaw4_eval (([33, 33, 40] ++ a0) ++ [41])).bind fun r4 => if (eqI r3.2.Err 10) = true then prelaw4_CondParens_j4 r2 r3 r4 true else prelaw4_CondParens_j4 r2 r3 r4 (eqI r4.2.Err 10) else none else none else none else none)
noncomputable def prelaw4_CondParens_j1 (a0 : List UInt8) (r2 : Int × Fault) : Bool → Option Bool
  | x1 => if x1 = true then some true else loopO (prelaw4_CondParens_b2 a0 r2) ((a0.length : Int), 0)
noncomputable def prelaw4_CondParens (a0 : List UInt8) : Option Bool :=
  (prelaw4_alive).bind fun r1 => if (!r1) = true then some false else (prelaw4_eval a0).bind fun r2 => if (!eqI r2.2.Err 0) = true then prelaw4_CondParens_j1 a0 r2 true else prelaw4_CondParens_j1 a0 r2 (ltI 500 (a0.length : Int))
noncomputable def pf_prelaw4_CondParens : PF := PF.of (E1 dS) (fun a => prelaw4_CondParens a) dB
set_option maxRecDepth 100000 in
set_option maxHeartbeats 4000000 in
theorem prelaw4_CondParens_ok : PureOk Tryd.prog 6 pf_prelaw4_CondParens := by
  refine xF mixed [(14, pf_prelaw4_alive), (17, pf_prelaw4_eval)] [] ⟨⟨call_14, prelaw4_alive_ok⟩, ⟨call_17, prelaw4_eval_ok⟩, trivial⟩ trivial Tryd.func6 ?_
  rintro a0 out H
  have G := True.intro
  have Y := xZ y_4 <| xZ y_9 <| xZ y_23 <| xZ y_25 <| xZ Tryd.results6 <| d_Fault.eq_1
  simp only [prelaw4_CondParens] at H
  refine xS ?_
  refine xr ?_
  obtain ⟨r1, hr1, H⟩ := osplit H
  have F := xC Y (prelaw4_alive_c  r1 hr1)
  refine xR ?_
  rcases bsplit H with ⟨hp1, H⟩ | ⟨hp1, H⟩
  · obtain ⟨F, G, hq1⟩ := xH Y G hp1
    refine xT ?_
    replace H := Option.some.inj H
    refine xr ?_
    subst H
    exact xN
  · obtain ⟨F, G, hq1⟩ := xH Y G hp1
    refine xE ?_
    obtain ⟨r2, hr2, H⟩ := osplit H
    have F := xC Y (prelaw4_eval_c a0 r2 hr2)
    refine xR0 ?_
    refine then_normal ?_
    refine w_seq ?_
    refine w_cut (prelaw4_CondParens_j1 a0 r2) (fun s => [(0, .c (.d (.v (str a0)))), (3, .c (.d (.v (.int .i64 r2.1)))), (24, .c (.d (.v (.bool s))))]) (fun s => []) [] out ?_ ?_
    · rcases bsplit H with ⟨hp12, H⟩ | ⟨hp12, H⟩
      · obtain ⟨F, G, hq12⟩ := xH Y G hp12
        refine xR ?_
        exact cut_at H (xK ⟨[], []⟩)
      · obtain ⟨F, G, hq12⟩ := xH Y G hp12
        refine xR ?_
        exact cut_at H (xK ⟨[], []⟩)
    · rintro x1 H
      rw [prelaw4_CondParens_j1] at H
      rcases bsplit H with ⟨hp2, H⟩ | ⟨hp2, H⟩
      · obtain ⟨F, G, hq2⟩ := xH Y G hp2
        refine xT ?_
        replace H := Option.some.inj H
        refine xr ?_
        subst H
        exact xN
      · obtain ⟨F, G, hq2⟩ := xH Y G hp2
        refine xE ?_
        refine xr ?_
        refine w_loop (prelaw4_CondParens_b2 a0 r2) (fun s => [(0, .c (.d (.v (str a0)))), (3, .c (.d (.v (.int .i64 r2.1)))), (26, .c (.d (.v (.int .i64 s.1)))), (27, .c (.d (.v (.int .i64 s.2))))]) (fun s => []) [] H (xK ⟨[], []⟩) ?_
        rintro n1 ⟨x2, x3⟩ o1 H hF1
        rw [prelaw4_CondParens_b2] at H
        refine xS ?_
        refine xr ?_
        rcases bsplit H with ⟨hp3, H⟩ | ⟨hp3, H⟩
        · obtain ⟨F, G, hq3⟩ := xH Y G hp3
          refine xT ?_
          refine xr0 ?_
          refine then_normal ?_
          refine w_cut (prelaw4_CondParens_j3 x2 x3) (fun s => [(0, .c (.d (.v (str a0)))), (3, .c (.d (.v (.int .i64 r2.1)))), (26, .c (.d (.v (.int .i64 x2)))), (27, .c (.d (.v (.int .i64 x3)))), (45, .c (.d (.v (.bool s))))]) (fun s => []) [] o1 ?_ ?_
          · obtain ⟨hg1, H⟩ := gsplit H
            rcases bsplit H with ⟨hp5, H⟩ | ⟨hp5, H⟩
            · obtain ⟨F, G, hq5⟩ := xH Y G hp5
              refine xR ?_
              exact cut_at H (xK ⟨[], []⟩)
            · obtain ⟨F, G, hq5⟩ := xH Y G hp5
              obtain ⟨hg2, H⟩ := gsplit H
              rcases bsplit H with ⟨hp6, H⟩ | ⟨hp6, H⟩
              · obtain ⟨F, G, hq6⟩ := xH F G hp6
                refine xR ?_
                exact cut_at H (xK ⟨[], []⟩)
              · obtain ⟨F, G, hq6⟩ := xH F G hp6
                obtain ⟨hg3, H⟩ := gsplit H
                refine xR ?_
                exact cut_at H (xK ⟨[], []⟩)
          · rintro x4 H
            rw [prelaw4_CondParens_j3] at H
            rcases bsplit H with ⟨hp4, H⟩ | ⟨hp4, H⟩
            · obtain ⟨F, G, hq4⟩ := xH Y G hp4
              refine xT ?_
              replace H := inrO_fin H hF1
              replace H := Option.some.inj H
              refine xr ?_
              subst H
              exact xN
            · obtain ⟨F, G, hq4⟩ := xH Y G hp4
              refine xE ?_
              refine xr ?_
              exact round_at (inl_fin H hF1) (xK ⟨[], []⟩)
        · obtain ⟨F, G, hq3⟩ := xH Y G hp3
          replace H := inrO_fin H hF1
          refine xE ?_
          obtain ⟨hg4, H⟩ := gsplit H
          obtain ⟨hg5, H⟩ := gsplit H
          obtain ⟨r3, hr3, H⟩ := osplit H
          have F := xC Y (prelaw4_eval_c (([40] ++ a0) ++ [41]) r3 hr3)
          refine xR ?_
          obtain ⟨hg6, H⟩ := gsplit H
          obtain ⟨hg7, H⟩ := gsplit H
          obtain ⟨r4, hr4, H⟩ := osplit H
          have F := xC Y (prelaw4_eval_c (([33, 33, 40] ++ a0) ++ [41]) r4 hr4)
          refine xR0 ?_
          refine then_normal ?_
          refine w_seq ?_
          refine w_cut (prelaw4_CondParens_j4 r2 r3 r4) (fun s => [(3, .c (.d (.v (.int .i64 r2.1)))), (6, .c (.d (.v (.int .i64 r3.1)))), (7, .c (.pt 1 0)), (8, .c (.d (.v (.int .i64 r4.1)))), (9, .c (.pt 2 0)), (68, .c (.d (.v (.bool s))))]) (fun s => [[.d (.v (.int .i64 r3.2.Err)), .d (.v (.int .i64 r3.2.File)), .d (.v (.int .i64 r3.2.At))], [.d (.v (.int .i64 r4.2.Err)), .d (.v (.int .i64 r4.2.File)), .d (.v (.int .i64 r4.2.At))]]) [] out ?_ ?_
          · rcases bsplit H with ⟨hp11, H⟩ | ⟨hp11, H⟩
            · obtain ⟨F, G, hq11⟩ := xH Y G hp11
              refine xR ?_
              exact cut_at H (xK ⟨[1,2], []⟩)
            · obtain ⟨F, G, hq11⟩ := xH Y G hp11
              refine xR ?_
              exact cut_at H (xK ⟨[1,2], []⟩)
          · rintro x5 H
            rw [prelaw4_CondParens_j4] at H
            rcases bsplit H with ⟨hp7, H⟩ | ⟨hp7, H⟩
            · obtain ⟨F, G, hq7⟩ := xH Y G hp7
              refine xT ?_
              replace H := Option.some.inj H
              refine xr ?_
              subst H
              exact xN
            · obtain ⟨F, G, hq7⟩ := xH Y G hp7
              refine xE0 ?_
              refine w_skip ?_
              refine then_normal ?_
              refine w_cut prelaw4_CondParens_j5 (fun s => [(2, .c (.d (.v (.bool s))))]) (fun s => []) [] out ?_ ?_
              · rcases bsplit H with ⟨hp8, H⟩ | ⟨hp8, H⟩
                · obtain ⟨F, G, hq8⟩ := xH Y G hp8
                  rcases bsplit H with ⟨hp9, H⟩ | ⟨hp9, H⟩
                  · obtain ⟨F, G, hq9⟩ := xH F G hp9
                    rcases bsplit H with ⟨hp10, H⟩ | ⟨hp10, H⟩
                    · obtain ⟨F, G, hq10⟩ := xH F G hp10
                      refine xR ?_
                      exact cut_at H (xK ⟨[], []⟩)
                    · obtain ⟨F, G, hq10⟩ := xH F G hp10
                      refine xR ?_
                      exact cut_at H (xK ⟨[], []⟩)
                  · obtain ⟨F, G, hq9⟩ := xH F G hp9
                    refine xR ?_
                    exact cut_at H (xK ⟨[], []⟩)
                · obtain ⟨F, G, hq8⟩ := xH Y G hp8
                  refine xR ?_
                  exact cut_at H (xK ⟨[], []⟩)
              · rintro x6 H
                rw [prelaw4_CondParens_j5] at H
                replace H := Option.some.inj H
                refine xS ?_
                subst H
                exact xN
theorem prelaw4_CondParens_c (a0 : List UInt8) (r : Bool) (H : prelaw4_CondParens a0 = some r) : PC pf_prelaw4_CondParens [dS a0] (dB r) := PF.c (a := a0) H
end Go.Proofs.YtghmojcecefgjaaDoor
