/- Functions of data for functions of the program. Written by dec3.py. -/
import Derived.Test.YtkhcecpbbmfcaaaZak
import Derived.Test.YtkhcecpbbmfcaaaZal
import Derived.Test.YtkhcecpbbmfcaaaZam
import Derived.Test.YtkhcecpbbmfcaaaZao
import Derived.Test.YtkhcecpbbmfcaaaZaq
import Derived.Test.YtkhcecpbbmfcaaaZar
import Derived.Test.YtkhcecpbbmfcaaaZas
set_option linter.unusedVariables false
set_option linter.unusedSimpArgs false
namespace Go.Proofs.Ytkhcecpbbmfcaaa
open Go.RowKit
noncomputable def prelaw5_alive_j1 : Bool → Option Bool
  | x1 => some x1
noncomputable def prelaw5_alive  : Option Bool :=
  (prelaw5_toks [70, 40, 97, 44, 46, 46, 46, 41, 32, 97, 32, 35, 35, 32, 120, 32, 35, 32, 97]).bind fun r1 => (macro_Parse r1).bind fun r2 => (macro_Define ([] : List Macro) r2.1).bind fun r3 => (macro_Paste (⟨1, [97], false, false, 0, 0, 0, 0, ([] : List (List UInt8)), ([] : List Call), 0⟩ : Token) (⟨2, [49], false, false, 0, 0, 0, 0, ([] : List (List UInt8)), ([] : List Call), 0⟩ : Token)).bind fun r4 => (prelaw5_toks [97, 32, 32, 34, 98, 34]).bind fun r5 => (macro_Quote r5 (⟨0, [], false, false, 0, 0, 0, 0, ([] : List (List UInt8)), ([] : List Call), 0⟩ : Token)).bind fun r6 => if (eqI r2.2.Err 0) = true then if (eqI r3.2 0) = true then if r2.1.Call = true then if r2.1.More = true then if (eqI (r2.1.Params.length : Int) 2) = true then if (eqI (r2.1.Body.length : Int) 5) = true then (macro_Find r3.1 [70]).bind fun r7 => if (eqI r7 0) = true then (macro_Undef r3.1 [70]).bind fun r8 => if (eqI (r8.length : Int) 0) = true then if r4.2 = true then if (eqS r4.1.Text [97, 49]) = true then if (eqS r6.Text [34, 97, 32, 92, 34, 98, 92, 34, 34]) = true then (macro_Same r2.1 r2.1).bind fun r9 => if r9 = true then (macro_Builtin [95, 95, 76, 73, 78, 69, 95, 95]).bind fun r10 => prelaw5_alive_j1 r10 else prelaw5_alive_j1 false else prelaw5_alive_j1 false else prelaw5_alive_j1 false else prelaw5_alive_j1 false else prelaw5_alive_j1 false else prelaw5_alive_j1 false else prelaw5_alive_j1 false else prelaw5_alive_j1 false else prelaw5_alive_j1 false else prelaw5_alive_j1 false else prelaw5_alive_j1 false else prelaw5_alive_j1 false
noncomputable def pf_prelaw5_alive : PF := PF.of E0 (fun _ => prelaw5_alive) dB
set_option maxRecDepth 100000 in
set_option maxHeartbeats 4000000 in
theorem prelaw5_alive_ok : PureOk Try.prog 30 pf_prelaw5_alive := by
  refine xF mixed [(11, pf_prelaw5_toks), (10, pf_macro_Parse), (16, pf_macro_Define), (28, pf_macro_Paste), (26, pf_macro_Quote), (19, pf_macro_Find), (21, pf_macro_Undef), (14, pf_macro_Same), (23, pf_macro_Builtin)] [] ⟨⟨call_11, prelaw5_toks_ok⟩, ⟨call_10, macro_Parse_ok⟩, ⟨call_16, macro_Define_ok⟩, ⟨call_28, macro_Paste_ok⟩, ⟨call_26, macro_Quote_ok⟩, ⟨call_19, macro_Find_ok⟩, ⟨call_21, macro_Undef_ok⟩, ⟨call_14, macro_Same_ok⟩, ⟨call_23, macro_Builtin_ok⟩, trivial⟩ trivial Try.func30 ?_
  rintro _ out H
  have G := True.intro
  have Y := xZ y_3 <| xZ y_4 <| xZ y_9 <| xZ y_22 <| xZ y_24 <| xZ y_28 <| xZ y_29 <| xZ y_30 <| xZ y_32 <| xZ y_43 <| xZ y_45 <| xZ Try.results30 <| xZ d_Call.eq_1 <| xZ d_Token.eq_1 <| xZ d_Fault.eq_1 <| d_Macro.eq_1
  simp only [prelaw5_alive] at H
  refine xS ?_
  refine xr ?_
  obtain ⟨r1, hr1, H⟩ := osplit H
  have F := xC Y (prelaw5_toks_c [70, 40, 97, 44, 46, 46, 46, 41, 32, 97, 32, 35, 35, 32, 120, 32, 35, 32, 97] r1 hr1)
  obtain ⟨r2, hr2, H⟩ := osplit H
  have F := xCf F (macro_Parse_c r1 r2 hr2)
  refine xR ?_
  obtain ⟨r3, hr3, H⟩ := osplit H
  have F := xC Y (show PC pf_macro_Define [D.sl 0 [], d_Macro r2.1] _ from PF.cl (a := (([] : List Macro), r2.1)) hr3 (And.intro (by simp [le1, le0, dL]) (And.intro (le1_refl _) trivial)))
  refine xR ?_
  obtain ⟨r4, hr4, H⟩ := osplit H
  have F := xC Y (macro_Paste_c (⟨1, [97], false, false, 0, 0, 0, 0, ([] : List (List UInt8)), ([] : List Call), 0⟩ : Token) (⟨2, [49], false, false, 0, 0, 0, 0, ([] : List (List UInt8)), ([] : List Call), 0⟩ : Token) r4 hr4)
  refine xR ?_
  obtain ⟨r5, hr5, H⟩ := osplit H
  have F := xC Y (prelaw5_toks_c [97, 32, 32, 34, 98, 34] r5 hr5)
  obtain ⟨r6, hr6, H⟩ := osplit H
  have F := xCf F (macro_Quote_c r5 (⟨0, [], false, false, 0, 0, 0, 0, ([] : List (List UInt8)), ([] : List Call), 0⟩ : Token) r6 hr6)
  refine xR0 ?_
  refine then_normal ?_
  refine w_cut prelaw5_alive_j1 (fun s => [(0, .c (.d (.v (.bool s))))]) (fun s => []) [] out ?_ ?_
  · rcases bsplit H with ⟨hp1, H⟩ | ⟨hp1, H⟩
    · obtain ⟨F, G, hq1⟩ := xH Y G hp1
      rcases bsplit H with ⟨hp2, H⟩ | ⟨hp2, H⟩
      · obtain ⟨F, G, hq2⟩ := xH F G hp2
        rcases bsplit H with ⟨hp3, H⟩ | ⟨hp3, H⟩
        · obtain ⟨F, G, hq3⟩ := xH F G hp3
          rcases bsplit H with ⟨hp4, H⟩ | ⟨hp4, H⟩
          · obtain ⟨F, G, hq4⟩ := xH F G hp4
            rcases bsplit H with ⟨hp5, H⟩ | ⟨hp5, H⟩
            · obtain ⟨F, G, hq5⟩ := xH F G hp5
              rcases bsplit H with ⟨hp6, H⟩ | ⟨hp6, H⟩
              · obtain ⟨F, G, hq6⟩ := xH F G hp6
                obtain ⟨r7, hr7, H⟩ := osplit H
                have F := xCf F (macro_Find_c r3.1 [70] r7 hr7)
                rcases bsplit H with ⟨hp7, H⟩ | ⟨hp7, H⟩
                · obtain ⟨F, G, hq7⟩ := xH F G hp7
                  obtain ⟨r8, hr8, H⟩ := osplit H
                  have F := xCf F (macro_Undef_c r3.1 [70] r8 hr8)
                  rcases bsplit H with ⟨hp8, H⟩ | ⟨hp8, H⟩
                  · obtain ⟨F, G, hq8⟩ := xH F G hp8
                    rcases bsplit H with ⟨hp9, H⟩ | ⟨hp9, H⟩
                    · obtain ⟨F, G, hq9⟩ := xH F G hp9
                      rcases bsplit H with ⟨hp10, H⟩ | ⟨hp10, H⟩
                      · obtain ⟨F, G, hq10⟩ := xH F G hp10
                        rcases bsplit H with ⟨hp11, H⟩ | ⟨hp11, H⟩
                        · obtain ⟨F, G, hq11⟩ := xH F G hp11
                          obtain ⟨r9, hr9, H⟩ := osplit H
                          have F := xCf F (macro_Same_c r2.1 r2.1 r9 hr9)
                          rcases bsplit H with ⟨hp12, H⟩ | ⟨hp12, H⟩
                          · obtain ⟨F, G, hq12⟩ := xH F G hp12
                            obtain ⟨r10, hr10, H⟩ := osplit H
                            have F := xCf F (macro_Builtin_c [95, 95, 76, 73, 78, 69, 95, 95] r10 hr10)
                            refine xR ?_
                            exact cut_at H (xK ⟨[], []⟩)
                          · obtain ⟨F, G, hq12⟩ := xH F G hp12
                            refine xR ?_
                            exact cut_at H (xK ⟨[], []⟩)
                        · obtain ⟨F, G, hq11⟩ := xH F G hp11
                          refine xR ?_
                          exact cut_at H (xK ⟨[], []⟩)
                      · obtain ⟨F, G, hq10⟩ := xH F G hp10
                        refine xR ?_
                        exact cut_at H (xK ⟨[], []⟩)
                    · obtain ⟨F, G, hq9⟩ := xH F G hp9
                      refine xR ?_
                      exact cut_at H (xK ⟨[], []⟩)
                  · obtain ⟨F, G, hq8⟩ := xH F G hp8
                    refine xR ?_
                    exact cut_at H (xK ⟨[], []⟩)
                · obtain ⟨F, G, hq7⟩ := xH F G hp7
                  refine xR ?_
                  exact cut_at H (xK ⟨[], []⟩)
              · obtain ⟨F, G, hq6⟩ := xH F G hp6
                refine xR ?_
                exact cut_at H (xK ⟨[], []⟩)
            · obtain ⟨F, G, hq5⟩ := xH F G hp5
              refine xR ?_
              exact cut_at H (xK ⟨[], []⟩)
          · obtain ⟨F, G, hq4⟩ := xH F G hp4
            refine xR ?_
            exact cut_at H (xK ⟨[], []⟩)
        · obtain ⟨F, G, hq3⟩ := xH F G hp3
          refine xR ?_
          exact cut_at H (xK ⟨[], []⟩)
      · obtain ⟨F, G, hq2⟩ := xH F G hp2
        refine xR ?_
        exact cut_at H (xK ⟨[], []⟩)
    · obtain ⟨F, G, hq1⟩ := xH Y G hp1
      refine xR ?_
      exact cut_at H (xK ⟨[], []⟩)
  · rintro x1 H
    rw [prelaw5_alive_j1] at H
    replace H := Option.some.inj H
    refine xS ?_
    subst H
    exact xN
theorem prelaw5_alive_c  (r : Bool) (H : prelaw5_alive  = some r) : PC pf_prelaw5_alive [] (dB r) := PF.c (a := ()) H
noncomputable def prelaw5_MacroDefine_j2 (x2 : Int) (x3 : Int) : (List Macro) → Option (((List Macro) × Int × Int) ⊕ Bool)
  | x4 => some (.inl (x4, x2, IntKind.i64.wrap (x3 + 1)))
noncomputable def prelaw5_MacroDefine_j6 : Bool → Option Bool
  | x7 => some x7
noncomputable def prelaw5_MacroDefine_j5 (r6 : Macro × Fault) (r8 : Macro × Fault) (r9 : (List Macro) × Int) : Unit → Option Bool
  | () => (macro_Undef r9.1 r6.1.Name).bind fun r11 => (macro_Find r11 r6.1.Name).bind fun r12 => (macro_Define r11 r8.1).bind fun r13 => if (ltI r12 0) = true then if (!eqS r8.1.Name r6.1.Name) = true then prelaw5_MacroDefine_j6 true else prelaw5_MacroDefine_j6 (eqI r13.2 0) else prelaw5_MacroDefine_j6 false
noncomputable def prelaw5_MacroDefine_j7 (r6 : Macro × Fault) (r8 : Macro × Fault) (r9 : (List Macro) × Int) : Bool → Option Bool
  | x8 => if x8 = true then (macro_Define r9.1 r8.1).bind fun r14 => if (!eqI r14.2 7) = true then some false else prelaw5_MacroDefine_j5 r6 r8 r9 () else prelaw5_MacroDefine_j5 r6 r8 r9 ()
noncomputable def prelaw5_MacroDefine_j4 (r6 : Macro × Fault) (r8 : Macro × Fault) (r9 : (List Macro) × Int) : Bool → Option Bool
  | x6 => if x6 = true then some false else if (eqS r8.1.Name r6.1.Name) = true then (macro_Same r6.1 r8.1).bind fun r15 => prelaw5_MacroDefine_j7 r6 r8 r9 (!r15) else prelaw5_MacroDefine_j7 r6 r8 r9 false
noncomputable def prelaw5_MacroDefine_j3 (x1 : List Macro) (r6 : Macro × Fault) (r8 : Macro × Fault) : Bool → Option Bool
  | x5 => if x5 = true then some true else (macro_Define x1 r6.1).bind fun r9 => if (!eqI r9.2 0) = true then some (eqI (r9.1.length : Int) 0) else (macro_Define r9.1 r6.1).bind fun r10 => if (!eqI r10.2 0) = true then prelaw5_MacroDefine_j4 r6 r8 r9 true else (preref4_EqualMacros r10.1 r9.1).bind fun r16 => prelaw5_MacroDefine_j4 r6 r8 r9 (!r16)
noncomputable def prelaw5_MacroDefine_b1 (a0 : List (List UInt8)) (a1 : List UInt8) (a2 : List UInt8) : ((List Macro) × Int × Int) → Option (((List Macro) × Int × Int) ⊕ Bool)
  | (x1, x2, x3) => if (ltI x3 x2) = true then if (0 : Int) ≤ x3 ∧ x3.toNat < a0.length then (prelaw5_toks (a0.getD x3.toNat default)).bind fun r2 => (macro_Parse r2).bind fun r3 => if (eqI r3.2.Err 0) = true then (macro_Define x1 r3.1).bind fun r4 => if (eqI r4.2 0) = true then prelaw5_MacroDefine_j2 x2 x3 r4.1 else prelaw5_MacroDefine_j2 x2 x3 x1 else prelaw5_MacroDefine_j2 x2 x3 x1 else none else inrO ((prelaw5_toks a1).bind fun r5 => (macro_Parse r5).bind fun r6 => (prelaw5_toks a2).bind fun r7 => (macro_Parse r7).bind fun r8 => if (!eqI r6.2.Err 0) = true then prelaw5_MacroDefine_j3 x1 r6 r8 true else prelaw5_MacroDefine_j3 x1 r6 r8 (!eqI r8.2.Err 0))
noncomputable def prelaw5_MacroDefine (a0 : List (List UInt8)) (a1 : List UInt8) (a2 : List UInt8) : Option Bool :=
  (prelaw5_alive).bind fun r1 => if (!r1) = true then some false else loopO (prelaw5_MacroDefine_b1 a0 a1 a2) (([] : List Macro), (a0.length : Int), 0)
noncomputable def pf_prelaw5_MacroDefine : PF := PF.of (E3 (dL 1 dS) dS dS) (fun a => prelaw5_MacroDefine a.1 a.2.1 a.2.2) dB
set_option maxRecDepth 100000 in
set_option maxHeartbeats 4000000 in
theorem prelaw5_MacroDefine_ok : PureOk Try.prog 5 pf_prelaw5_MacroDefine := by
  refine xF mixed [(30, pf_prelaw5_alive), (11, pf_prelaw5_toks), (10, pf_macro_Parse), (16, pf_macro_Define), (21, pf_macro_Undef), (19, pf_macro_Find), (14, pf_macro_Same), (18, pf_preref4_EqualMacros)] [] ⟨⟨call_30, prelaw5_alive_ok⟩, ⟨call_11, prelaw5_toks_ok⟩, ⟨call_10, macro_Parse_ok⟩, ⟨call_16, macro_Define_ok⟩, ⟨call_21, macro_Undef_ok⟩, ⟨call_19, macro_Find_ok⟩, ⟨call_14, macro_Same_ok⟩, ⟨call_18, preref4_EqualMacros_ok⟩, trivial⟩ trivial Try.func5 ?_
  rintro ⟨a0, a1, a2⟩ out H
  have G := True.intro
  have Y := xZ y_9 <| xZ y_22 <| xZ y_24 <| xZ y_28 <| xZ y_29 <| xZ y_32 <| xZ Try.results5 <| xZ d_Call.eq_1 <| xZ d_Token.eq_1 <| xZ d_Fault.eq_1 <| d_Macro.eq_1
  simp only [prelaw5_MacroDefine] at H
  refine xS ?_
  refine xr ?_
  obtain ⟨r1, hr1, H⟩ := osplit H
  have F := xC Y (prelaw5_alive_c  r1 hr1)
  refine xR ?_
  rcases bsplit H with ⟨hp1, H⟩ | ⟨hp1, H⟩
  · obtain ⟨F, G, hq1⟩ := xH Y G hp1
    refine xT ?_
    replace H := Option.some.inj H
    refine xr ?_
    subst H
    exact xN
  · obtain ⟨F, G, hq1⟩ := xH Y G hp1
    refine xE ?_
    refine xr ?_
    refine xr ?_
    refine w_loop (prelaw5_MacroDefine_b1 a0 a1 a2) (fun s => [(1, .c (.d (.v (str a1)))), (2, .c (.d (.v (str a2)))), (7, .c (.d (.sl 5 (List.map d_Macro s.1)))), (27, .c (.d (.sl 1 (List.map dS a0)))), (28, .c (.d (.v (.int .i64 s.2.1)))), (29, .c (.d (.v (.int .i64 s.2.2))))]) (fun s => []) [] H (xK ⟨[], []⟩) ?_
    rintro n1 ⟨x1, x2, x3⟩ o1 H hF1
    rw [prelaw5_MacroDefine_b1] at H
    refine xS ?_
    refine xr ?_
    rcases bsplit H with ⟨hp2, H⟩ | ⟨hp2, H⟩
    · obtain ⟨F, G, hq2⟩ := xH Y G hp2
      refine xT0 ?_
      refine w_skip ?_
      refine then_normal ?_
      refine w_cut (prelaw5_MacroDefine_j2 x2 x3) (fun s => [(1, .c (.d (.v (str a1)))), (2, .c (.d (.v (str a2)))), (7, .c (.d (.sl 5 (List.map d_Macro s)))), (27, .c (.d (.sl 1 (List.map dS a0)))), (28, .c (.d (.v (.int .i64 x2)))), (29, .c (.d (.v (.int .i64 x3))))]) (fun s => []) [] o1 ?_ ?_
      · refine xS ?_
        obtain ⟨hg1, H⟩ := gsplit H
        have F := xZ Y (map_getD dS a0 x3.toNat default default (by omega))
        refine xR ?_
        obtain ⟨r2, hr2, H⟩ := osplit H
        have F := xC Y (prelaw5_toks_c (a0.getD x3.toNat default) r2 hr2)
        obtain ⟨r3, hr3, H⟩ := osplit H
        have F := xCf F (macro_Parse_c r2 r3 hr3)
        refine xR ?_
        refine xr ?_
        rcases bsplit H with ⟨hp3, H⟩ | ⟨hp3, H⟩
        · obtain ⟨F, G, hq3⟩ := xH Y G hp3
          refine xT ?_
          obtain ⟨r4, hr4, H⟩ := osplit H
          have F := xC Y (macro_Define_c x1 r3.1 r4 hr4)
          refine xR ?_
          refine xr ?_
          rcases bsplit H with ⟨hp4, H⟩ | ⟨hp4, H⟩
          · obtain ⟨F, G, hq4⟩ := xH Y G hp4
            refine xT ?_
            refine xr ?_
            exact cut_at H (xK ⟨[], []⟩)
          · obtain ⟨F, G, hq4⟩ := xH Y G hp4
            refine xE ?_
            exact cut_at H (xK ⟨[], []⟩)
        · obtain ⟨F, G, hq3⟩ := xH Y G hp3
          refine xE ?_
          exact cut_at H (xK ⟨[], []⟩)
      · rintro x4 H
        rw [prelaw5_MacroDefine_j2] at H
        refine xr ?_
        exact round_at (inl_fin H hF1) (xK ⟨[], []⟩)
    · obtain ⟨F, G, hq2⟩ := xH Y G hp2
      replace H := inrO_fin H hF1
      refine xE ?_
      obtain ⟨r5, hr5, H⟩ := osplit H
      have F := xC Y (prelaw5_toks_c a1 r5 hr5)
      obtain ⟨r6, hr6, H⟩ := osplit H
      have F := xCf F (macro_Parse_c r5 r6 hr6)
      refine xR ?_
      obtain ⟨r7, hr7, H⟩ := osplit H
      have F := xC Y (prelaw5_toks_c a2 r7 hr7)
      obtain ⟨r8, hr8, H⟩ := osplit H
      have F := xCf F (macro_Parse_c r7 r8 hr8)
      refine xR0 ?_
      refine then_normal ?_
      refine w_seq ?_
      refine w_cut (prelaw5_MacroDefine_j3 x1 r6 r8) (fun s => [(7, .c (.d (.sl 5 (List.map d_Macro x1)))), (14, .c (.pt 1 0)), (16, .c (.pt 2 0)), (71, .c (.d (.v (.bool s))))]) (fun s => [[.d (.v (str r6.1.Name)), .d (.v (.bool r6.1.Call)), .d (.sl 1 (List.map dS r6.1.Params)), .d (.v (.bool r6.1.More)), .d (.sl 11 (List.map d_Token r6.1.Body))], [.d (.v (str r8.1.Name)), .d (.v (.bool r8.1.Call)), .d (.sl 1 (List.map dS r8.1.Params)), .d (.v (.bool r8.1.More)), .d (.sl 11 (List.map d_Token r8.1.Body))]]) [] out ?_ ?_
      · rcases bsplit H with ⟨hp14, H⟩ | ⟨hp14, H⟩
        · obtain ⟨F, G, hq14⟩ := xH Y G hp14
          refine xR ?_
          exact cut_at H (xK ⟨[1,3], []⟩)
        · obtain ⟨F, G, hq14⟩ := xH Y G hp14
          refine xR ?_
          exact cut_at H (xK ⟨[1,3], []⟩)
      · rintro x5 H
        rw [prelaw5_MacroDefine_j3] at H
        rcases bsplit H with ⟨hp5, H⟩ | ⟨hp5, H⟩
        · obtain ⟨F, G, hq5⟩ := xH Y G hp5
          refine xT ?_
          replace H := Option.some.inj H
          refine xr ?_
          subst H
          exact xN
        · obtain ⟨F, G, hq5⟩ := xH Y G hp5
          refine xE ?_
          obtain ⟨r9, hr9, H⟩ := osplit H
          have F := xC Y (macro_Define_c x1 r6.1 r9 hr9)
          refine xR ?_
          refine xr ?_
          rcases bsplit H with ⟨hp6, H⟩ | ⟨hp6, H⟩
          · obtain ⟨F, G, hq6⟩ := xH Y G hp6
            refine xT ?_
            replace H := Option.some.inj H
            refine xr ?_
            subst H
            exact xN
          · obtain ⟨F, G, hq6⟩ := xH Y G hp6
            refine xE ?_
            obtain ⟨r10, hr10, H⟩ := osplit H
            have F := xC Y (macro_Define_c r9.1 r6.1 r10 hr10)
            refine xR0 ?_
            refine then_normal ?_
            refine w_seq ?_
            refine w_cut (prelaw5_MacroDefine_j4 r6 r8 r9) (fun s => [(14, .c (.pt 1 0)), (16, .c (.pt 2 0)), (18, .c (.d (.sl 5 (List.map d_Macro r9.1)))), (96, .c (.d (.v (.bool s))))]) (fun s => [[.d (.v (str r6.1.Name)), .d (.v (.bool r6.1.Call)), .d (.sl 1 (List.map dS r6.1.Params)), .d (.v (.bool r6.1.More)), .d (.sl 11 (List.map d_Token r6.1.Body))], [.d (.v (str r8.1.Name)), .d (.v (.bool r8.1.Call)), .d (.sl 1 (List.map dS r8.1.Params)), .d (.v (.bool r8.1.More)), .d (.sl 11 (List.map d_Token r8.1.Body))]]) [] out ?_ ?_
            · rcases bsplit H with ⟨hp13, H⟩ | ⟨hp13, H⟩
              · obtain ⟨F, G, hq13⟩ := xH Y G hp13
                refine xR ?_
                exact cut_at H (xK ⟨[1,2], []⟩)
              · obtain ⟨F, G, hq13⟩ := xH Y G hp13
                obtain ⟨r16, hr16, H⟩ := osplit H
                have F := xCf F (preref4_EqualMacros_c r10.1 r9.1 r16 hr16)
                refine xR ?_
                exact cut_at H (xK ⟨[1,2], []⟩)
            · rintro x6 H
              rw [prelaw5_MacroDefine_j4] at H
              rcases bsplit H with ⟨hp7, H⟩ | ⟨hp7, H⟩
              · obtain ⟨F, G, hq7⟩ := xH Y G hp7
                refine xT ?_
                replace H := Option.some.inj H
                refine xr ?_
                subst H
                exact xN
              · obtain ⟨F, G, hq7⟩ := xH Y G hp7
                refine xE0 ?_
                refine w_skip ?_
                refine then_normal ?_
                refine w_cut (prelaw5_MacroDefine_j5 r6 r8 r9) (fun s => [(14, .c (.pt 1 0)), (16, .c (.pt 2 0)), (18, .c (.d (.sl 5 (List.map d_Macro r9.1))))]) (fun s => [[.d (.v (str r6.1.Name)), .d (.v (.bool r6.1.Call)), .d (.sl 1 (List.map dS r6.1.Params)), .d (.v (.bool r6.1.More)), .d (.sl 11 (List.map d_Token r6.1.Body))], [.d (.v (str r8.1.Name)), .d (.v (.bool r8.1.Call)), .d (.sl 1 (List.map dS r8.1.Params)), .d (.v (.bool r8.1.More)), .d (.sl 11 (List.map d_Token r8.1.Body))]]) [] out ?_ ?_
                · refine w_cut (prelaw5_MacroDefine_j7 r6 r8 r9) (fun s => [(14, .c (.pt 1 0)), (16, .c (.pt 2 0)), (18, .c (.d (.sl 5 (List.map d_Macro r9.1)))), (107, .c (.d (.v (.bool s))))]) (fun s => [[.d (.v (str r6.1.Name)), .d (.v (.bool r6.1.Call)), .d (.sl 1 (List.map dS r6.1.Params)), .d (.v (.bool r6.1.More)), .d (.sl 11 (List.map d_Token r6.1.Body))], [.d (.v (str r8.1.Name)), .d (.v (.bool r8.1.Call)), .d (.sl 1 (List.map dS r8.1.Params)), .d (.v (.bool r8.1.More)), .d (.sl 11 (List.map d_Token r8.1.Body))]]) [] out ?_ ?_
                  · rcases bsplit H with ⟨hp12, H⟩ | ⟨hp12, H⟩
                    · obtain ⟨F, G, hq12⟩ := xH Y G hp12
                      obtain ⟨r15, hr15, H⟩ := osplit H
                      have F := xCf F (macro_Same_c r6.1 r8.1 r15 hr15)
                      refine xR ?_
                      exact cut_at H (xK ⟨[1,2], []⟩)
                    · obtain ⟨F, G, hq12⟩ := xH Y G hp12
                      refine xR ?_
                      exact cut_at H (xK ⟨[1,2], []⟩)
                  · rintro x8 H
                    rw [prelaw5_MacroDefine_j7] at H
                    rcases bsplit H with ⟨hp10, H⟩ | ⟨hp10, H⟩
                    · obtain ⟨F, G, hq10⟩ := xH Y G hp10
                      refine xT ?_
                      obtain ⟨r14, hr14, H⟩ := osplit H
                      have F := xC Y (macro_Define_c r9.1 r8.1 r14 hr14)
                      refine xR ?_
                      refine xr ?_
                      rcases bsplit H with ⟨hp11, H⟩ | ⟨hp11, H⟩
                      · obtain ⟨F, G, hq11⟩ := xH Y G hp11
                        refine xT ?_
                        replace H := Option.some.inj H
                        refine xr ?_
                        subst H
                        exact xN
                      · obtain ⟨F, G, hq11⟩ := xH Y G hp11
                        refine xE ?_
                        exact cut_at H (xK ⟨[1,2], []⟩)
                    · obtain ⟨F, G, hq10⟩ := xH Y G hp10
                      refine xE ?_
                      exact cut_at H (xK ⟨[1,2], []⟩)
                · rintro ⟨⟩ H
                  rw [prelaw5_MacroDefine_j5] at H
                  refine xS ?_
                  obtain ⟨r11, hr11, H⟩ := osplit H
                  have F := xC Y (macro_Undef_c r9.1 r6.1.Name r11 hr11)
                  refine xR ?_
                  obtain ⟨r12, hr12, H⟩ := osplit H
                  have F := xC Y (macro_Find_c r11 r6.1.Name r12 hr12)
                  refine xR ?_
                  obtain ⟨r13, hr13, H⟩ := osplit H
                  have F := xC Y (macro_Define_c r11 r8.1 r13 hr13)
                  refine xR0 ?_
                  refine then_normal ?_
                  refine w_cut prelaw5_MacroDefine_j6 (fun s => [(6, .c (.d (.v (.bool s))))]) (fun s => []) [] out ?_ ?_
                  · rcases bsplit H with ⟨hp8, H⟩ | ⟨hp8, H⟩
                    · obtain ⟨F, G, hq8⟩ := xH Y G hp8
                      rcases bsplit H with ⟨hp9, H⟩ | ⟨hp9, H⟩
                      · obtain ⟨F, G, hq9⟩ := xH F G hp9
                        refine xR ?_
                        exact cut_at H (xK ⟨[], []⟩)
                      · obtain ⟨F, G, hq9⟩ := xH F G hp9
                        refine xR ?_
                        exact cut_at H (xK ⟨[], []⟩)
                    · obtain ⟨F, G, hq8⟩ := xH Y G hp8
                      refine xR ?_
                      exact cut_at H (xK ⟨[], []⟩)
                  · rintro x7 H
                    rw [prelaw5_MacroDefine_j6] at H
                    replace H := Option.some.inj H
                    refine xS ?_
                    subst H
                    exact xN
theorem prelaw5_MacroDefine_c (a0 : List (List UInt8)) (a1 : List UInt8) (a2 : List UInt8) (r : Bool) (H : prelaw5_MacroDefine a0 a1 a2 = some r) : PC pf_prelaw5_MacroDefine [(dL 1 dS) a0, dS a1, dS a2] (dB r) := PF.c (a := (a0, a1, a2)) H
end Go.Proofs.Ytkhcecpbbmfcaaa
