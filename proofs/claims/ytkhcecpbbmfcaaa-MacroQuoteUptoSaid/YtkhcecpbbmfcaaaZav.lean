/- Functions of data for functions of the program. Written by dec3.py. -/
import Derived.Test.YtkhcecpbbmfcaaaZat
set_option linter.unusedVariables false
set_option linter.unusedSimpArgs false
namespace Go.Proofs.Ytkhcecpbbmfcaaa
open Go.RowKit
noncomputable def prelaw5_MacroQuote_j2 (x1 : Int) (x2 : Int) : Bool → Option ((Int × Int) ⊕ Bool)
  | x3 => if x3 = true then inrO (some true) else some (.inl (x1, IntKind.i64.wrap (x2 + 1)))
noncomputable def prelaw5_MacroQuote_b4 (r2 : (List Token)) (r3 : Token) : (Int × Int × Int) → Option ((Int × Int × Int) ⊕ Bool)
  | (x5, x6, x7) => if (ltI x7 x6) = true then if (0 : Int) ≤ x7 ∧ x7.toNat < r2.length then some (.inl (IntKind.i64.wrap (x5 + (((r2.getD x7.toNat default).Text).length : Int)), x6, IntKind.i64.wrap (x7 + 1))) else none else inrO (some (leI (IntKind.i64.wrap (x5 + 2)) (r3.Text.length : Int)))
noncomputable def prelaw5_MacroQuote_j3 (r2 : (List Token)) (r3 : Token) : Bool → Option Bool
  | x4 => if x4 = true then some false else loopO (prelaw5_MacroQuote_b4 r2 r3) (0, (r2.length : Int), 0)
noncomputable def prelaw5_MacroQuote_b1 (r2 : (List Token)) : (Int × Int) → Option ((Int × Int) ⊕ Bool)
  | (x1, x2) => if (ltI x2 x1) = true then if (0 : Int) ≤ x2 ∧ x2.toNat < r2.length then if (eqI ((r2.getD x2.toNat default).Kind) 6) = true then prelaw5_MacroQuote_j2 x1 x2 true else prelaw5_MacroQuote_j2 x1 x2 (eqI ((r2.getD x2.toNat default).Kind) 7) else none else inrO ((macro_Quote r2 (⟨0, [], false, false, 0, 0, 0, 0, ([] : List (List UInt8)), ([] : List Call), 0⟩ : Token)).bind fun r3 => (preref1_Tokens 0 r3.Text).bind fun r4 => if (eqI r4.2.Err 4) = true then some true else if (!eqI r4.2.Err 0) = true then prelaw5_MacroQuote_j3 r2 r3 true else if (!eqI (r4.1.length : Int) 1) = true then prelaw5_MacroQuote_j3 r2 r3 true else if 0 < r4.1.length then if (!eqI ((r4.1.getD 0 default).Kind) 4) = true then prelaw5_MacroQuote_j3 r2 r3 true else if 0 < r4.1.length then prelaw5_MacroQuote_j3 r2 r3 (!eqS ((r4.1.getD 0 default).Text) r3.Text) else none else none)
noncomputable def prelaw5_MacroQuote (a0 : List UInt8) : Option Bool :=
  (prelaw5_alive).bind fun r1 => if (!r1) = true then some false else (prelaw5_toks a0).bind fun r2 => loopO (prelaw5_MacroQuote_b1 r2) ((r2.length : Int), 0)
noncomputable def pf_prelaw5_MacroQuote : PF := PF.of (E1 dS) (fun a => prelaw5_MacroQuote a) dB
set_option maxRecDepth 100000 in
set_option maxHeartbeats 4000000 in
theorem prelaw5_MacroQuote_ok : PureOk Try.prog 6 pf_prelaw5_MacroQuote := by
  refine xF mixed [(30, pf_prelaw5_alive), (11, pf_prelaw5_toks), (26, pf_macro_Quote), (31, pf_preref1_Tokens)] [] ⟨⟨call_30, prelaw5_alive_ok⟩, ⟨call_11, prelaw5_toks_ok⟩, ⟨call_26, macro_Quote_ok⟩, ⟨call_31, preref1_Tokens_ok⟩, trivial⟩ trivial Try.func6 ?_
  rintro a0 out H
  have G := True.intro
  have Y := xZ y_3 <| xZ y_4 <| xZ y_9 <| xZ y_22 <| xZ y_24 <| xZ y_28 <| xZ y_30 <| xZ y_43 <| xZ y_45 <| xZ Try.results6 <| xZ d_Call.eq_1 <| xZ d_Token.eq_1 <| d_Fault.eq_1
  simp only [prelaw5_MacroQuote] at H
  refine xS ?_
  refine xr ?_
  obtain ⟨r1, hr1, H⟩ := osplit H
  have F := xC Y (prelaw5_alive_c  r1 hr1)
  refine xR ?_
  rcases bsplit H with ⟨hp1, H⟩ | ⟨hp1, H⟩
  · obtain ⟨F, G, hq1⟩ := xH Y G hp1
    refine xT ?_
    replace H := Option.some.inj H
    refine xr ?_
    subst H
    exact xN
  · obtain ⟨F, G, hq1⟩ := xH Y G hp1
    refine xE ?_
    obtain ⟨r2, hr2, H⟩ := osplit H
    have F := xC Y (prelaw5_toks_c a0 r2 hr2)
    refine xR ?_
    refine xr ?_
    refine w_loop (prelaw5_MacroQuote_b1 r2) (fun s => [(3, .c (.d (.sl 11 (List.map d_Token r2)))), (16, .c (.d (.sl 11 (List.map d_Token r2)))), (17, .c (.d (.v (.int .i64 s.1)))), (18, .c (.d (.v (.int .i64 s.2))))]) (fun s => []) [] H (xK ⟨[], []⟩) ?_
    rintro n1 ⟨x1, x2⟩ o1 H hF1
    rw [prelaw5_MacroQuote_b1] at H
    refine xS ?_
    refine xr ?_
    rcases bsplit H with ⟨hp2, H⟩ | ⟨hp2, H⟩
    · obtain ⟨F, G, hq2⟩ := xH Y G hp2
      refine xT ?_
      obtain ⟨hg1, H⟩ := gsplit H
      have F := xZ Y (map_getD d_Token r2 x2.toNat default default (by omega))
      refine xR0 ?_
      refine then_normal ?_
      refine w_cut (prelaw5_MacroQuote_j2 x1 x2) (fun s => [(3, .c (.d (.sl 11 (List.map d_Token r2)))), (16, .c (.d (.sl 11 (List.map d_Token r2)))), (17, .c (.d (.v (.int .i64 x1)))), (18, .c (.d (.v (.int .i64 x2)))), (29, .c (.d (.v (.bool s))))]) (fun s => []) [] o1 ?_ ?_
      · rcases bsplit H with ⟨hp4, H⟩ | ⟨hp4, H⟩
        · obtain ⟨F, G, hq4⟩ := xH Y G hp4
          refine xR ?_
          exact cut_at H (xK ⟨[], []⟩)
        · obtain ⟨F, G, hq4⟩ := xH Y G hp4
          refine xR ?_
          exact cut_at H (xK ⟨[], []⟩)
      · rintro x3 H
        rw [prelaw5_MacroQuote_j2] at H
        rcases bsplit H with ⟨hp3, H⟩ | ⟨hp3, H⟩
        · obtain ⟨F, G, hq3⟩ := xH Y G hp3
          refine xT ?_
          replace H := inrO_fin H hF1
          replace H := Option.some.inj H
          refine xr ?_
          subst H
          exact xN
        · obtain ⟨F, G, hq3⟩ := xH Y G hp3
          refine xE ?_
          refine xr ?_
          exact round_at (inl_fin H hF1) (xK ⟨[], []⟩)
    · obtain ⟨F, G, hq2⟩ := xH Y G hp2
      replace H := inrO_fin H hF1
      refine xE ?_
      obtain ⟨r3, hr3, H⟩ := osplit H
      have F := xC Y (macro_Quote_c r2 (⟨0, [], false, false, 0, 0, 0, 0, ([] : List (List UInt8)), ([] : List Call), 0⟩ : Token) r3 hr3)
      refine xR ?_
      obtain ⟨r4, hr4, H⟩ := osplit H
      have F := xC Y (preref1_Tokens_c 0 r3.Text r4 hr4)
      refine xR ?_
      refine xr ?_
      rcases bsplit H with ⟨hp5, H⟩ | ⟨hp5, H⟩
      · obtain ⟨F, G, hq5⟩ := xH Y G hp5
        refine xT ?_
        replace H := Option.some.inj H
        refine xr ?_
        subst H
        exact xN
      · obtain ⟨F, G, hq5⟩ := xH Y G hp5
        refine xE0 ?_
        refine w_skip ?_
        refine then_normal ?_
        refine w_seq ?_
        refine w_cut (prelaw5_MacroQuote_j3 r2 r3) (fun s => [(3, .c (.d (.sl 11 (List.map d_Token r2)))), (6, .c (.pt 1 0)), (66, .c (.d (.v (.bool s))))]) (fun s => [[.d (.v (.int .i64 r3.Kind)), .d (.v (str r3.Text)), .d (.v (.bool r3.Space)), .d (.v (.bool r3.First)), .d (.v (.int .i64 r3.File)), .d (.v (.int .i64 r3.At)), .d (.v (.int .i64 r3.End)), .d (.v (.int .i64 r3.Line)), .d (.sl 1 (List.map dS r3.Hide)), .d (.sl 3 (List.map d_Call r3.Calls)), .d (.v (.int .i64 r3.Made))]]) [] out ?_ ?_
        · rcases bsplit H with ⟨hp8, H⟩ | ⟨hp8, H⟩
          · obtain ⟨F, G, hq8⟩ := xH Y G hp8
            refine xR ?_
            exact cut_at H (xK ⟨[1], []⟩)
          · obtain ⟨F, G, hq8⟩ := xH Y G hp8
            rcases bsplit H with ⟨hp9, H⟩ | ⟨hp9, H⟩
            · obtain ⟨F, G, hq9⟩ := xH F G hp9
              refine xR ?_
              exact cut_at H (xK ⟨[1], []⟩)
            · obtain ⟨F, G, hq9⟩ := xH F G hp9
              obtain ⟨hg3, H⟩ := gsplit H
              have F := xZ F (map_getD d_Token r4.1 0 default default (by omega))
              rcases bsplit H with ⟨hp10, H⟩ | ⟨hp10, H⟩
              · obtain ⟨F, G, hq10⟩ := xH F G hp10
                refine xR ?_
                exact cut_at H (xK ⟨[1], []⟩)
              · obtain ⟨F, G, hq10⟩ := xH F G hp10
                obtain ⟨hg4, H⟩ := gsplit H
                have F := xZ F (map_getD d_Token r4.1 0 default default (by omega))
                refine xR ?_
                exact cut_at H (xK ⟨[1], []⟩)
        · rintro x4 H
          rw [prelaw5_MacroQuote_j3] at H
          rcases bsplit H with ⟨hp6, H⟩ | ⟨hp6, H⟩
          · obtain ⟨F, G, hq6⟩ := xH Y G hp6
            refine xT ?_
            replace H := Option.some.inj H
            refine xr ?_
            subst H
            exact xN
          · obtain ⟨F, G, hq6⟩ := xH Y G hp6
            refine xE ?_
            refine xr ?_
            refine xr ?_
            refine w_loop (prelaw5_MacroQuote_b4 r2 r3) (fun s => [(6, .c (.pt 1 0)), (9, .c (.d (.v (.int .i64 s.1)))), (67, .c (.d (.sl 11 (List.map d_Token r2)))), (68, .c (.d (.v (.int .i64 s.2.1)))), (69, .c (.d (.v (.int .i64 s.2.2))))]) (fun s => [[.d (.v (.int .i64 r3.Kind)), .d (.v (str r3.Text)), .d (.v (.bool r3.Space)), .d (.v (.bool r3.First)), .d (.v (.int .i64 r3.File)), .d (.v (.int .i64 r3.At)), .d (.v (.int .i64 r3.End)), .d (.v (.int .i64 r3.Line)), .d (.sl 1 (List.map dS r3.Hide)), .d (.sl 3 (List.map d_Call r3.Calls)), .d (.v (.int .i64 r3.Made))]]) [] H (xK ⟨[1], []⟩) ?_
            rintro n2 ⟨x5, x6, x7⟩ o2 H hF2
            rw [prelaw5_MacroQuote_b4] at H
            refine xS ?_
            refine xr ?_
            rcases bsplit H with ⟨hp7, H⟩ | ⟨hp7, H⟩
            · obtain ⟨F, G, hq7⟩ := xH Y G hp7
              refine xT ?_
              obtain ⟨hg2, H⟩ := gsplit H
              have F := xZ Y (map_getD d_Token r2 x7.toNat default default (by omega))
              refine xR ?_
              refine xr ?_
              refine xr ?_
              exact round_at (inl_fin H hF2) (xK ⟨[1], []⟩)
            · obtain ⟨F, G, hq7⟩ := xH Y G hp7
              replace H := inrO_fin H hF2
              refine xE ?_
              replace H := Option.some.inj H
              refine xr ?_
              subst H
              exact xN
theorem prelaw5_MacroQuote_c (a0 : List UInt8) (r : Bool) (H : prelaw5_MacroQuote a0 = some r) : PC pf_prelaw5_MacroQuote [dS a0] (dB r) := PF.c (a := a0) H
noncomputable def prelaw5_MacroPaste_j2 : Bool → Option Bool
  | x2 => some x2
noncomputable def prelaw5_MacroPaste_j1 (a0 : List UInt8) (a1 : List UInt8) (r2 : Token × Bool) (r3 : (List Token) × Fault) : Bool → Option Bool
  | x1 => if (eqB r2.2 x1) = true then if (!r2.2) = true then prelaw5_MacroPaste_j2 true else if a0.length + a1.length ≤ 9223372036854775807 then if (eqS r2.1.Text (a0 ++ a1)) = true then if (eqI r2.1.Made 1) = true then if 0 < r3.1.length then prelaw5_MacroPaste_j2 (eqI r2.1.Kind ((r3.1.getD 0 default).Kind)) else none else prelaw5_MacroPaste_j2 false else prelaw5_MacroPaste_j2 false else none else prelaw5_MacroPaste_j2 false
noncomputable def prelaw5_MacroPaste (a0 : List UInt8) (a1 : List UInt8) : Option Bool :=
  (prelaw5_alive).bind fun r1 => if (!r1) = true then some false else (macro_Paste (⟨0, a0, false, false, 0, 0, 0, 0, ([] : List (List UInt8)), ([] : List Call), 0⟩ : Token) (⟨0, a1, false, false, 0, 0, 0, 0, ([] : List (List UInt8)), ([] : List Call), 0⟩ : Token)).bind fun r2 => if a0.length + a1.length ≤ 9223372036854775807 then (preref1_Tokens 0 (a0 ++ a1)).bind fun r3 => if (eqI r3.2.Err 0) = true then if (eqI (r3.1.length : Int) 1) = true then if 0 < r3.1.length then if a0.length + a1.length ≤ 9223372036854775807 then prelaw5_MacroPaste_j1 a0 a1 r2 r3 (eqS ((r3.1.getD 0 default).Text) (a0 ++ a1)) else none else none else prelaw5_MacroPaste_j1 a0 a1 r2 r3 false else prelaw5_MacroPaste_j1 a0 a1 r2 r3 false else none
noncomputable def pf_prelaw5_MacroPaste : PF := PF.of (E2 dS dS) (fun a => prelaw5_MacroPaste a.1 a.2) dB
set_option maxRecDepth 100000 in
set_option maxHeartbeats 4000000 in
theorem prelaw5_MacroPaste_ok : PureOk Try.prog 7 pf_prelaw5_MacroPaste := by
  refine xF mixed [(30, pf_prelaw5_alive), (28, pf_macro_Paste), (31, pf_preref1_Tokens)] [] ⟨⟨call_30, prelaw5_alive_ok⟩, ⟨call_28, macro_Paste_ok⟩, ⟨call_31, preref1_Tokens_ok⟩, trivial⟩ trivial Try.func7 ?_
  rintro ⟨a0, a1⟩ out H
  have G := True.intro
  have Y := xZ y_3 <| xZ y_4 <| xZ y_9 <| xZ y_22 <| xZ y_24 <| xZ y_28 <| xZ y_30 <| xZ y_43 <| xZ y_45 <| xZ Try.results7 <| xZ d_Call.eq_1 <| xZ d_Token.eq_1 <| d_Fault.eq_1
  simp only [prelaw5_MacroPaste] at H
  refine xS ?_
  refine xr ?_
  obtain ⟨r1, hr1, H⟩ := osplit H
  have F := xC Y (prelaw5_alive_c  r1 hr1)
  refine xR ?_
  rcases bsplit H with ⟨hp1, H⟩ | ⟨hp1, H⟩
  · obtain ⟨F, G, hq1⟩ := xH Y G hp1
    refine xT ?_
    replace H := Option.some.inj H
    refine xr ?_
    subst H
    exact xN
  · obtain ⟨F, G, hq1⟩ := xH Y G hp1
    refine xE ?_
    obtain ⟨r2, hr2, H⟩ := osplit H
    have F := xC Y (macro_Paste_c (⟨0, a0, false, false, 0, 0, 0, 0, ([] : List (List UInt8)), ([] : List Call), 0⟩ : Token) (⟨0, a1, false, false, 0, 0, 0, 0, ([] : List (List UInt8)), ([] : List Call), 0⟩ : Token) r2 hr2)
    refine xR ?_
    obtain ⟨hg1, H⟩ := gsplit H
    obtain ⟨r3, hr3, H⟩ := osplit H
    have F := xC Y (preref1_Tokens_c 0 (a0 ++ a1) r3 hr3)
    refine xR0 ?_
    refine then_normal ?_
    refine w_cut (prelaw5_MacroPaste_j1 a0 a1 r2 r3) (fun s => [(0, .c (.d (.v (str a0)))), (1, .c (.d (.v (str a1)))), (5, .c (.pt 1 0)), (6, .c (.d (.v (.bool r2.2)))), (7, .c (.d (.sl 11 (List.map d_Token r3.1)))), (9, .c (.d (.v (.bool s))))]) (fun s => [[.d (.v (.int .i64 r2.1.Kind)), .d (.v (str r2.1.Text)), .d (.v (.bool r2.1.Space)), .d (.v (.bool r2.1.First)), .d (.v (.int .i64 r2.1.File)), .d (.v (.int .i64 r2.1.At)), .d (.v (.int .i64 r2.1.End)), .d (.v (.int .i64 r2.1.Line)), .d (.sl 1 (List.map dS r2.1.Hide)), .d (.sl 3 (List.map d_Call r2.1.Calls)), .d (.v (.int .i64 r2.1.Made))]]) [] out ?_ ?_
    · rcases bsplit H with ⟨hp6, H⟩ | ⟨hp6, H⟩
      · obtain ⟨F, G, hq6⟩ := xH Y G hp6
        rcases bsplit H with ⟨hp7, H⟩ | ⟨hp7, H⟩
        · obtain ⟨F, G, hq7⟩ := xH F G hp7
          obtain ⟨hg4, H⟩ := gsplit H
          have F := xZ F (map_getD d_Token r3.1 0 default default (by omega))
          obtain ⟨hg5, H⟩ := gsplit H
          refine xR ?_
          exact cut_at H (xK ⟨[1], []⟩)
        · obtain ⟨F, G, hq7⟩ := xH F G hp7
          refine xR ?_
          exact cut_at H (xK ⟨[1], []⟩)
      · obtain ⟨F, G, hq6⟩ := xH Y G hp6
        refine xR ?_
        exact cut_at H (xK ⟨[1], []⟩)
    · rintro x1 H
      rw [prelaw5_MacroPaste_j1] at H
      refine w_cut prelaw5_MacroPaste_j2 (fun s => [(4, .c (.d (.v (.bool s))))]) (fun s => []) [] out ?_ ?_
      · rcases bsplit H with ⟨hp2, H⟩ | ⟨hp2, H⟩
        · obtain ⟨F, G, hq2⟩ := xH Y G hp2
          rcases bsplit H with ⟨hp3, H⟩ | ⟨hp3, H⟩
          · obtain ⟨F, G, hq3⟩ := xH F G hp3
            refine xR ?_
            exact cut_at H (xK ⟨[], []⟩)
          · obtain ⟨F, G, hq3⟩ := xH F G hp3
            obtain ⟨hg2, H⟩ := gsplit H
            rcases bsplit H with ⟨hp4, H⟩ | ⟨hp4, H⟩
            · obtain ⟨F, G, hq4⟩ := xH F G hp4
              rcases bsplit H with ⟨hp5, H⟩ | ⟨hp5, H⟩
              · obtain ⟨F, G, hq5⟩ := xH F G hp5
                obtain ⟨hg3, H⟩ := gsplit H
                have F := xZ F (map_getD d_Token r3.1 0 default default (by omega))
                refine xR ?_
                exact cut_at H (xK ⟨[], []⟩)
              · obtain ⟨F, G, hq5⟩ := xH F G hp5
                refine xR ?_
                exact cut_at H (xK ⟨[], []⟩)
            · obtain ⟨F, G, hq4⟩ := xH F G hp4
              refine xR ?_
              exact cut_at H (xK ⟨[], []⟩)
        · obtain ⟨F, G, hq2⟩ := xH Y G hp2
          refine xR ?_
          exact cut_at H (xK ⟨[], []⟩)
      · rintro x2 H
        rw [prelaw5_MacroPaste_j2] at H
        replace H := Option.some.inj H
        refine xS ?_
        subst H
        exact xN
theorem prelaw5_MacroPaste_c (a0 : List UInt8) (a1 : List UInt8) (r : Bool) (H : prelaw5_MacroPaste a0 a1 = some r) : PC pf_prelaw5_MacroPaste [dS a0, dS a1] (dB r) := PF.c (a := (a0, a1)) H
end Go.Proofs.Ytkhcecpbbmfcaaa
