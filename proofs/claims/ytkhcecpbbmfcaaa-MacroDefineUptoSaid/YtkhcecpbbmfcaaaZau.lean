/- Functions of data for functions of the program. Written by dec3.py. -/
import Derived.Test.YtkhcecpbbmfcaaaZat
set_option linter.unusedVariables false
set_option linter.unusedSimpArgs false
namespace Go.Proofs.Ytkhcecpbbmfcaaa
open Go.RowKit
noncomputable def prelaw5_MacroTells_j2 (x3 : Int) (x4 : Int) : ((List Macro) × (List Macro)) → Option (((List Macro) × (List Macro) × Int × Int) ⊕ Bool)
  | (x5, x6) => some (.inl (x5, x6, x3, IntKind.i64.wrap (x4 + 1)))
noncomputable def prelaw5_MacroTells_j5 (x1 : List Macro) (x2 : List Macro) (x3 : Int) (x4 : Int) (r7 : (List Macro) × Int) (r8 : (List Macro) × Int) : Bool → Option (((List Macro) × (List Macro) × Int × Int) ⊕ Bool)
  | x10 => if x10 = true then inrO (some false) else if (eqI r8.2 0) = true then prelaw5_MacroTells_j2 x3 x4 (r7.1, r8.1) else prelaw5_MacroTells_j2 x3 x4 (x1, x2)
noncomputable def prelaw5_MacroTells_b4 (x1 : List Macro) (x2 : List Macro) (x3 : Int) (x4 : Int) (r2 : Macro × Fault) (r4 : Macro × Fault) : (Int × Int) → Option ((Int × Int) ⊕ (((List Macro) × (List Macro) × Int × Int) ⊕ Bool))
  | (x8, x9) => if (ltI x9 x8) = true then if (0 : Int) ≤ x9 ∧ x9.toNat < x2.length then (macro_Same r2.1 (x2.getD x9.toNat default)).bind fun r5 => (preref4_SameMacro r4.1 (x2.getD x9.toNat default)).bind fun r6 => if (!eqB r5 r6) = true then inrO (inrO (some false)) else some (.inl (x8, IntKind.i64.wrap (x9 + 1))) else none else inrO ((macro_Define x1 r2.1).bind fun r7 => (preref4_Define x2 r4.1).bind fun r8 => if (!eqI r7.2 r8.2) = true then prelaw5_MacroTells_j5 x1 x2 x3 x4 r7 r8 true else (preref4_EqualMacros r7.1 r8.1).bind fun r9 => prelaw5_MacroTells_j5 x1 x2 x3 x4 r7 r8 (!r9))
noncomputable def prelaw5_MacroTells_j3 (x1 : List Macro) (x2 : List Macro) (x3 : Int) (x4 : Int) (r2 : Macro × Fault) (r4 : Macro × Fault) : Bool → Option (((List Macro) × (List Macro) × Int × Int) ⊕ Bool)
  | x7 => if x7 = true then inrO (some false) else if (!eqI r4.2.Err 0) = true then prelaw5_MacroTells_j2 x3 x4 (x1, x2) else loopO (prelaw5_MacroTells_b4 x1 x2 x3 x4 r2 r4) ((x2.length : Int), 0)
noncomputable def prelaw5_MacroTells_j7 : Bool → Option Bool
  | x12 => some x12
noncomputable def prelaw5_MacroTells_j6 (a0 : List (List UInt8)) (a1 : List UInt8) (a2 : List UInt8) (a3 : List UInt8) : Bool → Option Bool
  | x11 => if x11 = true then some false else (prelaw5_toks a1).bind fun r11 => (macro_Quote r11 (⟨0, [], true, false, 2, 7, 9, 4, ([] : List (List UInt8)), ([] : List Call), 0⟩ : Token)).bind fun r12 => (preref4_Quote r11 (⟨0, [], true, false, 2, 7, 9, 4, ([] : List (List UInt8)), ([] : List Call), 0⟩ : Token)).bind fun r13 => (preref1_SameToken r12 r13).bind fun r14 => if (!r14) = true then some false else (macro_Paste (⟨0, a2, false, false, 0, 0, 0, 0, a0, ([] : List Call), 0⟩ : Token) (⟨0, a3, false, false, 0, 0, 0, 0, [a2], ([] : List Call), 0⟩ : Token)).bind fun r15 => (preref4_Paste (⟨0, a2, false, false, 0, 0, 0, 0, a0, ([] : List Call), 0⟩ : Token) (⟨0, a3, false, false, 0, 0, 0, 0, [a2], ([] : List Call), 0⟩ : Token)).bind fun r16 => if (eqB r15.2 r16.2) = true then (preref1_SameToken r15.1 r16.1).bind fun r17 => prelaw5_MacroTells_j7 r17 else prelaw5_MacroTells_j7 false
noncomputable def prelaw5_MacroTells_b1 (a0 : List (List UInt8)) (a1 : List UInt8) (a2 : List UInt8) (a3 : List UInt8) : ((List Macro) × (List Macro) × Int × Int) → Option (((List Macro) × (List Macro) × Int × Int) ⊕ Bool)
  | (x1, x2, x3, x4) => if (ltI x4 x3) = true then if (0 : Int) ≤ x4 ∧ x4.toNat < a0.length then (prelaw5_toks (a0.getD x4.toNat default)).bind fun r1 => (macro_Parse r1).bind fun r2 => (prelaw5_toks (a0.getD x4.toNat default)).bind fun r3 => (preref4_Parse r3).bind fun r4 => if (!(eqI r2.2.Err r4.2.Err && (eqI r2.2.File r4.2.File && (eqI r2.2.At r4.2.At)))) = true then prelaw5_MacroTells_j3 x1 x2 x3 x4 r2 r4 true else (preref4_Equal r2.1 r4.1).bind fun r10 => prelaw5_MacroTells_j3 x1 x2 x3 x4 r2 r4 (!r10) else none else inrO ((macro_Find x1 a2).bind fun r18 => (preref4_Find x2 a2).bind fun r19 => if (!eqI r18 r19) = true then prelaw5_MacroTells_j6 a0 a1 a2 a3 true else (macro_Undef x1 a2).bind fun r20 => (preref4_Undef x2 a2).bind fun r21 => (preref4_EqualMacros r20 r21).bind fun r22 => if (!r22) = true then prelaw5_MacroTells_j6 a0 a1 a2 a3 true else (macro_Builtin a2).bind fun r23 => (preref4_Has [[95, 95, 76, 73, 78, 69, 95, 95], [95, 95, 70, 73, 76, 69, 95, 95], [100, 101, 102, 105, 110, 101, 100]] a2).bind fun r24 => prelaw5_MacroTells_j6 a0 a1 a2 a3 (!eqB r23 r24))
noncomputable def prelaw5_MacroTells (a0 : List (List UInt8)) (a1 : List UInt8) (a2 : List UInt8) (a3 : List UInt8) : Option Bool :=
  loopO (prelaw5_MacroTells_b1 a0 a1 a2 a3) (([] : List Macro), ([] : List Macro), (a0.length : Int), 0)
noncomputable def pf_prelaw5_MacroTells : PF := PF.of (E4 (dL 1 dS) dS dS dS) (fun a => prelaw5_MacroTells a.1 a.2.1 a.2.2.1 a.2.2.2) dB
set_option maxRecDepth 100000 in
set_option maxHeartbeats 4000000 in
theorem prelaw5_MacroTells_ok : PureOk Try.prog 4 pf_prelaw5_MacroTells := by
  refine xF mixed [(11, pf_prelaw5_toks), (10, pf_macro_Parse), (12, pf_preref4_Parse), (14, pf_macro_Same), (15, pf_preref4_SameMacro), (16, pf_macro_Define), (17, pf_preref4_Define), (18, pf_preref4_EqualMacros), (13, pf_preref4_Equal), (26, pf_macro_Quote), (27, pf_preref4_Quote), (25, pf_preref1_SameToken), (28, pf_macro_Paste), (29, pf_preref4_Paste), (19, pf_macro_Find), (20, pf_preref4_Find), (21, pf_macro_Undef), (22, pf_preref4_Undef), (23, pf_macro_Builtin), (24, pf_preref4_Has)] [] ⟨⟨call_11, prelaw5_toks_ok⟩, ⟨call_10, macro_Parse_ok⟩, ⟨call_12, preref4_Parse_ok⟩, ⟨call_14, macro_Same_ok⟩, ⟨call_15, preref4_SameMacro_ok⟩, ⟨call_16, macro_Define_ok⟩, ⟨call_17, preref4_Define_ok⟩, ⟨call_18, preref4_EqualMacros_ok⟩, ⟨call_13, preref4_Equal_ok⟩, ⟨call_26, macro_Quote_ok⟩, ⟨call_27, preref4_Quote_ok⟩, ⟨call_25, preref1_SameToken_ok⟩, ⟨call_28, macro_Paste_ok⟩, ⟨call_29, preref4_Paste_ok⟩, ⟨call_19, macro_Find_ok⟩, ⟨call_20, preref4_Find_ok⟩, ⟨call_21, macro_Undef_ok⟩, ⟨call_22, preref4_Undef_ok⟩, ⟨call_23, macro_Builtin_ok⟩, ⟨call_24, preref4_Has_ok⟩, trivial⟩ trivial Try.func4 ?_
  rintro ⟨a0, a1, a2, a3⟩ out H
  have G := True.intro
  have Y := xZ y_3 <| xZ y_4 <| xZ y_9 <| xZ y_22 <| xZ y_24 <| xZ y_28 <| xZ y_29 <| xZ y_32 <| xZ y_43 <| xZ y_45 <| xZ Try.results4 <| xZ d_Call.eq_1 <| xZ d_Token.eq_1 <| xZ d_Macro.eq_1 <| d_Fault.eq_1
  simp only [prelaw5_MacroTells] at H
  refine xS ?_
  refine xr ?_
  refine xr ?_
  refine xr ?_
  refine w_loop (prelaw5_MacroTells_b1 a0 a1 a2 a3) (fun s => [(0, .c (.d (.sl 1 (List.map dS a0)))), (1, .c (.d (.v (str a1)))), (2, .c (.d (.v (str a2)))), (3, .c (.d (.v (str a3)))), (9, .c (.d (.sl 5 (List.map d_Macro s.1)))), (10, .c (.d (.sl 5 (List.map d_Macro s.2.1)))), (28, .c (.d (.sl 1 (List.map dS a0)))), (29, .c (.d (.v (.int .i64 s.2.2.1)))), (30, .c (.d (.v (.int .i64 s.2.2.2))))]) (fun s => []) [] H (xK ⟨[], []⟩) ?_
  rintro n1 ⟨x1, x2, x3, x4⟩ o1 H hF1
  rw [prelaw5_MacroTells_b1] at H
  refine xS ?_
  refine xr ?_
  rcases bsplit H with ⟨hp1, H⟩ | ⟨hp1, H⟩
  · obtain ⟨F, G, hq1⟩ := xH Y G hp1
    refine xT0 ?_
    refine w_skip ?_
    refine then_normal ?_
    refine w_cut (prelaw5_MacroTells_j2 x3 x4) (fun s => [(0, .c (.d (.sl 1 (List.map dS a0)))), (1, .c (.d (.v (str a1)))), (2, .c (.d (.v (str a2)))), (3, .c (.d (.v (str a3)))), (9, .c (.d (.sl 5 (List.map d_Macro s.1)))), (10, .c (.d (.sl 5 (List.map d_Macro s.2)))), (28, .c (.d (.sl 1 (List.map dS a0)))), (29, .c (.d (.v (.int .i64 x3)))), (30, .c (.d (.v (.int .i64 x4))))]) (fun s => []) [] o1 ?_ ?_
    · refine xS ?_
      obtain ⟨hg1, H⟩ := gsplit H
      have F := xZ Y (map_getD dS a0 x4.toNat default default (by omega))
      refine xR ?_
      obtain ⟨r1, hr1, H⟩ := osplit H
      have F := xC Y (prelaw5_toks_c (a0.getD x4.toNat default) r1 hr1)
      obtain ⟨r2, hr2, H⟩ := osplit H
      have F := xCf F (macro_Parse_c r1 r2 hr2)
      refine xR ?_
      obtain ⟨r3, hr3, H⟩ := osplit H
      have F := xC Y (prelaw5_toks_c (a0.getD x4.toNat default) r3 hr3)
      obtain ⟨r4, hr4, H⟩ := osplit H
      have F := xCf F (preref4_Parse_c r3 r4 hr4)
      refine xR0 ?_
      refine then_normal ?_
      refine w_seq ?_
      refine w_cut (prelaw5_MacroTells_j3 x1 x2 x3 x4 r2 r4) (fun s => [(0, .c (.d (.sl 1 (List.map dS a0)))), (1, .c (.d (.v (str a1)))), (2, .c (.d (.v (str a2)))), (3, .c (.d (.v (str a3)))), (9, .c (.d (.sl 5 (List.map d_Macro x1)))), (10, .c (.d (.sl 5 (List.map d_Macro x2)))), (13, .c (.pt 1 0)), (15, .c (.pt 2 0)), (16, .c (.pt 3 0)), (28, .c (.d (.sl 1 (List.map dS a0)))), (29, .c (.d (.v (.int .i64 x3)))), (30, .c (.d (.v (.int .i64 x4)))), (54, .c (.d (.v (.bool s))))]) (fun s => [[.d (.v (str r2.1.Name)), .d (.v (.bool r2.1.Call)), .d (.sl 1 (List.map dS r2.1.Params)), .d (.v (.bool r2.1.More)), .d (.sl 11 (List.map d_Token r2.1.Body))], [.d (.v (str r4.1.Name)), .d (.v (.bool r4.1.Call)), .d (.sl 1 (List.map dS r4.1.Params)), .d (.v (.bool r4.1.More)), .d (.sl 11 (List.map d_Token r4.1.Body))], [.d (.v (.int .i64 r4.2.Err)), .d (.v (.int .i64 r4.2.File)), .d (.v (.int .i64 r4.2.At))]]) [] o1 ?_ ?_
      · rcases bsplit H with ⟨hp9, H⟩ | ⟨hp9, H⟩
        · obtain ⟨F, G, hq9⟩ := xH Y G hp9
          refine xR ?_
          exact cut_at H (xK ⟨[1,3,4], []⟩)
        · obtain ⟨F, G, hq9⟩ := xH Y G hp9
          obtain ⟨r10, hr10, H⟩ := osplit H
          have F := xCf F (preref4_Equal_c r2.1 r4.1 r10 hr10)
          refine xR ?_
          exact cut_at H (xK ⟨[1,3,4], []⟩)
      · rintro x7 H
        rw [prelaw5_MacroTells_j3] at H
        rcases bsplit H with ⟨hp2, H⟩ | ⟨hp2, H⟩
        · obtain ⟨F, G, hq2⟩ := xH Y G hp2
          refine xT ?_
          replace H := inrO_fin H hF1
          replace H := Option.some.inj H
          refine xr ?_
          subst H
          exact xN
        · obtain ⟨F, G, hq2⟩ := xH Y G hp2
          refine xE ?_
          refine xr ?_
          rcases bsplit H with ⟨hp3, H⟩ | ⟨hp3, H⟩
          · obtain ⟨F, G, hq3⟩ := xH Y G hp3
            refine xT ?_
            exact cut_at H (xK ⟨[], []⟩)
          · obtain ⟨F, G, hq3⟩ := xH Y G hp3
            refine xE ?_
            refine xr ?_
            refine w_loop (prelaw5_MacroTells_b4 x1 x2 x3 x4 r2 r4) (fun s => [(0, .c (.d (.sl 1 (List.map dS a0)))), (1, .c (.d (.v (str a1)))), (2, .c (.d (.v (str a2)))), (3, .c (.d (.v (str a3)))), (9, .c (.d (.sl 5 (List.map d_Macro x1)))), (10, .c (.d (.sl 5 (List.map d_Macro x2)))), (13, .c (.pt 1 0)), (15, .c (.pt 2 0)), (28, .c (.d (.sl 1 (List.map dS a0)))), (29, .c (.d (.v (.int .i64 x3)))), (30, .c (.d (.v (.int .i64 x4)))), (58, .c (.d (.sl 5 (List.map d_Macro x2)))), (59, .c (.d (.v (.int .i64 s.1)))), (60, .c (.d (.v (.int .i64 s.2))))]) (fun s => [[.d (.v (str r2.1.Name)), .d (.v (.bool r2.1.Call)), .d (.sl 1 (List.map dS r2.1.Params)), .d (.v (.bool r2.1.More)), .d (.sl 11 (List.map d_Token r2.1.Body))], [.d (.v (str r4.1.Name)), .d (.v (.bool r4.1.Call)), .d (.sl 1 (List.map dS r4.1.Params)), .d (.v (.bool r4.1.More)), .d (.sl 11 (List.map d_Token r4.1.Body))]]) [] H (xK ⟨[1,2], []⟩) ?_
            rintro n2 ⟨x8, x9⟩ o2 H hF2
            rw [prelaw5_MacroTells_b4] at H
            refine xS ?_
            refine xr ?_
            rcases bsplit H with ⟨hp4, H⟩ | ⟨hp4, H⟩
            · obtain ⟨F, G, hq4⟩ := xH Y G hp4
              refine xT ?_
              obtain ⟨hg2, H⟩ := gsplit H
              have F := xZ Y (map_getD d_Macro x2 x9.toNat default default (by omega))
              refine xR ?_
              obtain ⟨r5, hr5, H⟩ := osplit H
              have F := xC Y (macro_Same_c r2.1 (x2.getD x9.toNat default) r5 hr5)
              obtain ⟨r6, hr6, H⟩ := osplit H
              have F := xCf F (preref4_SameMacro_c r4.1 (x2.getD x9.toNat default) r6 hr6)
              refine xR ?_
              rcases bsplit H with ⟨hp5, H⟩ | ⟨hp5, H⟩
              · obtain ⟨F, G, hq5⟩ := xH Y G hp5
                refine xT ?_
                replace H := inrO_fin H hF2
                replace H := inrO_fin H hF1
                replace H := Option.some.inj H
                refine xr ?_
                subst H
                exact xN
              · obtain ⟨F, G, hq5⟩ := xH Y G hp5
                refine xE ?_
                refine xr ?_
                exact round_at (inl_fin H hF2) (xK ⟨[1,2], []⟩)
            · obtain ⟨F, G, hq4⟩ := xH Y G hp4
              replace H := inrO_fin H hF2
              refine xE ?_
              obtain ⟨r7, hr7, H⟩ := osplit H
              have F := xC Y (macro_Define_c x1 r2.1 r7 hr7)
              refine xR ?_
              obtain ⟨r8, hr8, H⟩ := osplit H
              have F := xC Y (preref4_Define_c x2 r4.1 r8 hr8)
              refine xR0 ?_
              refine then_normal ?_
              refine w_seq ?_
              refine w_cut (prelaw5_MacroTells_j5 x1 x2 x3 x4 r7 r8) (fun s => [(0, .c (.d (.sl 1 (List.map dS a0)))), (1, .c (.d (.v (str a1)))), (2, .c (.d (.v (str a2)))), (3, .c (.d (.v (str a3)))), (9, .c (.d (.sl 5 (List.map d_Macro x1)))), (10, .c (.d (.sl 5 (List.map d_Macro x2)))), (19, .c (.d (.sl 5 (List.map d_Macro r7.1)))), (21, .c (.d (.sl 5 (List.map d_Macro r8.1)))), (22, .c (.d (.v (.int .i64 r8.2)))), (28, .c (.d (.sl 1 (List.map dS a0)))), (29, .c (.d (.v (.int .i64 x3)))), (30, .c (.d (.v (.int .i64 x4)))), (92, .c (.d (.v (.bool s))))]) (fun s => []) [] o1 ?_ ?_
              · rcases bsplit H with ⟨hp8, H⟩ | ⟨hp8, H⟩
                · obtain ⟨F, G, hq8⟩ := xH Y G hp8
                  refine xR ?_
                  exact cut_at H (xK ⟨[], []⟩)
                · obtain ⟨F, G, hq8⟩ := xH Y G hp8
                  obtain ⟨r9, hr9, H⟩ := osplit H
                  have F := xCf F (preref4_EqualMacros_c r7.1 r8.1 r9 hr9)
                  refine xR ?_
                  exact cut_at H (xK ⟨[], []⟩)
              · rintro x10 H
                rw [prelaw5_MacroTells_j5] at H
                rcases bsplit H with ⟨hp6, H⟩ | ⟨hp6, H⟩
                · obtain ⟨F, G, hq6⟩ := xH Y G hp6
                  refine xT ?_
                  replace H := inrO_fin H hF1
                  replace H := Option.some.inj H
                  refine xr ?_
                  subst H
                  exact xN
                · obtain ⟨F, G, hq6⟩ := xH Y G hp6
                  refine xE ?_
                  refine xr ?_
                  rcases bsplit H with ⟨hp7, H⟩ | ⟨hp7, H⟩
                  · obtain ⟨F, G, hq7⟩ := xH Y G hp7
                    refine xT ?_
                    refine xr ?_
                    exact cut_at H (xK ⟨[], []⟩)
                  · obtain ⟨F, G, hq7⟩ := xH Y G hp7
                    refine xE ?_
                    exact cut_at H (xK ⟨[], []⟩)
    · rintro ⟨x5, x6⟩ H
      rw [prelaw5_MacroTells_j2] at H
      refine xr ?_
      exact round_at (inl_fin H hF1) (xK ⟨[], []⟩)
  · obtain ⟨F, G, hq1⟩ := xH Y G hp1
    replace H := inrO_fin H hF1
    refine xE0 ?_
    refine w_exit ?_
    refine then_exit ?_
    refine round_exit ?_
    refine block_exit ?_
    refine then_normal ?_
    refine w_seq ?_
    refine w_cut (prelaw5_MacroTells_j6 a0 a1 a2 a3) (fun s => [(0, .c (.d (.sl 1 (List.map dS a0)))), (1, .c (.d (.v (str a1)))), (2, .c (.d (.v (str a2)))), (3, .c (.d (.v (str a3)))), (122, .c (.d (.v (.bool s))))]) (fun s => []) [] out ?_ ?_
    · obtain ⟨r18, hr18, H⟩ := osplit H
      have F := xC Y (macro_Find_c x1 a2 r18 hr18)
      obtain ⟨r19, hr19, H⟩ := osplit H
      have F := xCf F (preref4_Find_c x2 a2 r19 hr19)
      rcases bsplit H with ⟨hp13, H⟩ | ⟨hp13, H⟩
      · obtain ⟨F, G, hq13⟩ := xH F G hp13
        refine xR ?_
        exact cut_at H (xK ⟨[], []⟩)
      · obtain ⟨F, G, hq13⟩ := xH F G hp13
        obtain ⟨r20, hr20, H⟩ := osplit H
        have F := xCf F (macro_Undef_c x1 a2 r20 hr20)
        obtain ⟨r21, hr21, H⟩ := osplit H
        have F := xCf F (preref4_Undef_c x2 a2 r21 hr21)
        obtain ⟨r22, hr22, H⟩ := osplit H
        have F := xCf F (preref4_EqualMacros_c r20 r21 r22 hr22)
        rcases bsplit H with ⟨hp14, H⟩ | ⟨hp14, H⟩
        · obtain ⟨F, G, hq14⟩ := xH F G hp14
          refine xR ?_
          exact cut_at H (xK ⟨[], []⟩)
        · obtain ⟨F, G, hq14⟩ := xH F G hp14
          obtain ⟨r23, hr23, H⟩ := osplit H
          have F := xCf F (macro_Builtin_c a2 r23 hr23)
          obtain ⟨r24, hr24, H⟩ := osplit H
          have F := xCf F (preref4_Has_c [[95, 95, 76, 73, 78, 69, 95, 95], [95, 95, 70, 73, 76, 69, 95, 95], [100, 101, 102, 105, 110, 101, 100]] a2 r24 hr24)
          refine xR ?_
          exact cut_at H (xK ⟨[], []⟩)
    · rintro x11 H
      rw [prelaw5_MacroTells_j6] at H
      rcases bsplit H with ⟨hp10, H⟩ | ⟨hp10, H⟩
      · obtain ⟨F, G, hq10⟩ := xH Y G hp10
        refine xT ?_
        replace H := Option.some.inj H
        refine xr ?_
        subst H
        exact xN
      · obtain ⟨F, G, hq10⟩ := xH Y G hp10
        refine xE ?_
        refine xr ?_
        obtain ⟨r11, hr11, H⟩ := osplit H
        have F := xC Y (prelaw5_toks_c a1 r11 hr11)
        obtain ⟨r12, hr12, H⟩ := osplit H
        have F := xCf F (macro_Quote_c r11 (⟨0, [], true, false, 2, 7, 9, 4, ([] : List (List UInt8)), ([] : List Call), 0⟩ : Token) r12 hr12)
        obtain ⟨r13, hr13, H⟩ := osplit H
        have F := xCf F (preref4_Quote_c r11 (⟨0, [], true, false, 2, 7, 9, 4, ([] : List (List UInt8)), ([] : List Call), 0⟩ : Token) r13 hr13)
        obtain ⟨r14, hr14, H⟩ := osplit H
        have F := xCf F (preref1_SameToken_c r12 r13 r14 hr14)
        refine xR ?_
        rcases bsplit H with ⟨hp11, H⟩ | ⟨hp11, H⟩
        · obtain ⟨F, G, hq11⟩ := xH Y G hp11
          refine xT ?_
          replace H := Option.some.inj H
          refine xr ?_
          subst H
          exact xN
        · obtain ⟨F, G, hq11⟩ := xH Y G hp11
          refine xE ?_
          obtain ⟨r15, hr15, H⟩ := osplit H
          have F := xC Y (macro_Paste_c (⟨0, a2, false, false, 0, 0, 0, 0, a0, ([] : List Call), 0⟩ : Token) (⟨0, a3, false, false, 0, 0, 0, 0, [a2], ([] : List Call), 0⟩ : Token) r15 hr15)
          refine xR ?_
          obtain ⟨r16, hr16, H⟩ := osplit H
          have F := xC Y (preref4_Paste_c (⟨0, a2, false, false, 0, 0, 0, 0, a0, ([] : List Call), 0⟩ : Token) (⟨0, a3, false, false, 0, 0, 0, 0, [a2], ([] : List Call), 0⟩ : Token) r16 hr16)
          refine xR0 ?_
          refine then_normal ?_
          refine w_cut prelaw5_MacroTells_j7 (fun s => [(8, .c (.d (.v (.bool s))))]) (fun s => []) [] out ?_ ?_
          · rcases bsplit H with ⟨hp12, H⟩ | ⟨hp12, H⟩
            · obtain ⟨F, G, hq12⟩ := xH Y G hp12
              obtain ⟨r17, hr17, H⟩ := osplit H
              have F := xCf F (preref1_SameToken_c r15.1 r16.1 r17 hr17)
              refine xR ?_
              exact cut_at H (xK ⟨[], []⟩)
            · obtain ⟨F, G, hq12⟩ := xH Y G hp12
              refine xR ?_
              exact cut_at H (xK ⟨[], []⟩)
          · rintro x12 H
            rw [prelaw5_MacroTells_j7] at H
            replace H := Option.some.inj H
            refine xS ?_
            subst H
            exact xN
theorem prelaw5_MacroTells_c (a0 : List (List UInt8)) (a1 : List UInt8) (a2 : List UInt8) (a3 : List UInt8) (r : Bool) (H : prelaw5_MacroTells a0 a1 a2 a3 = some r) : PC pf_prelaw5_MacroTells [(dL 1 dS) a0, dS a1, dS a2, dS a3] (dB r) := PF.c (a := (a0, a1, a2, a3)) H
end Go.Proofs.Ytkhcecpbbmfcaaa
