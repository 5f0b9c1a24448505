/- Functions of data for functions of the program: prelaw3_LexStands, prelaw3_LexAgain, prelaw3_LexBlank. Written by dec.py. -/
import Derived.Test.YtgkacglpjmndbaaQn
namespace Go.Proofs.Ytgkacglpjmndbaa
open Go.RowKit
set_option linter.unusedVariables false
set_option linter.unusedSimpArgs false

noncomputable def prelaw3_LexStands_j2 (x2 : Int) (x3 : Int) : (Bool × Int × (List UInt8) × Bool × Bool × Int × Int × Int × Int × (List (List UInt8)) × (List Call) × Int) → Option ((Int × Int × Int) ⊕ Bool)
  | (x4, x5, x6, x7, x8, x9, x10, x11, x12, x13, x14, x15) => if x4 = true then inrO (some false) else some (.inl (x11, x2, IntKind.i64.wrap (x3 + 1)))
noncomputable def prelaw3_LexStands_b1 (a0 : List UInt8) (r2 : (List Token) × Fault) : (Int × Int × Int) → Option ((Int × Int × Int) ⊕ Bool)
  | (x1, x2, x3) => if (ltI x3 x2) = true then if (0 : Int) ≤ x3 ∧ x3.toNat < r2.1.length then if (ltI ((r2.1.getD x3.toNat default).At) x1) = true then prelaw3_LexStands_j2 x2 x3 (true, (r2.1.getD x3.toNat default).Kind, (r2.1.getD x3.toNat default).Text, (r2.1.getD x3.toNat default).Space, (r2.1.getD x3.toNat default).First, (r2.1.getD x3.toNat default).File, (r2.1.getD x3.toNat default).At, (r2.1.getD x3.toNat default).End, (r2.1.getD x3.toNat default).Line, (r2.1.getD x3.toNat default).Hide, (r2.1.getD x3.toNat default).Calls, (r2.1.getD x3.toNat default).Made) else if (leI ((r2.1.getD x3.toNat default).End) ((r2.1.getD x3.toNat default).At)) = true then prelaw3_LexStands_j2 x2 x3 (true, (r2.1.getD x3.toNat default).Kind, (r2.1.getD x3.toNat default).Text, (r2.1.getD x3.toNat default).Space, (r2.1.getD x3.toNat default).First, (r2.1.getD x3.toNat default).File, (r2.1.getD x3.toNat default).At, (r2.1.getD x3.toNat default).End, (r2.1.getD x3.toNat default).Line, (r2.1.getD x3.toNat default).Hide, (r2.1.getD x3.toNat default).Calls, (r2.1.getD x3.toNat default).Made) else if (ltI (a0.length : Int) ((r2.1.getD x3.toNat default).End)) = true then prelaw3_LexStands_j2 x2 x3 (true, (r2.1.getD x3.toNat default).Kind, (r2.1.getD x3.toNat default).Text, (r2.1.getD x3.toNat default).Space, (r2.1.getD x3.toNat default).First, (r2.1.getD x3.toNat default).File, (r2.1.getD x3.toNat default).At, (r2.1.getD x3.toNat default).End, (r2.1.getD x3.toNat default).Line, (r2.1.getD x3.toNat default).Hide, (r2.1.getD x3.toNat default).Calls, (r2.1.getD x3.toNat default).Made) else if (eqS ((r2.1.getD x3.toNat default).Text) []) = true then prelaw3_LexStands_j2 x2 x3 (true, (r2.1.getD x3.toNat default).Kind, (r2.1.getD x3.toNat default).Text, (r2.1.getD x3.toNat default).Space, (r2.1.getD x3.toNat default).First, (r2.1.getD x3.toNat default).File, (r2.1.getD x3.toNat default).At, (r2.1.getD x3.toNat default).End, (r2.1.getD x3.toNat default).Line, (r2.1.getD x3.toNat default).Hide, (r2.1.getD x3.toNat default).Calls, (r2.1.getD x3.toNat default).Made) else if (0 : Int) ≤ ((r2.1.getD x3.toNat default).At) ∧ ((r2.1.getD x3.toNat default).At) ≤ ((r2.1.getD x3.toNat default).End) ∧ ((r2.1.getD x3.toNat default).End) ≤ (a0.length : Int) then (preref1_Splice (List.take (((r2.1.getD x3.toNat default).End).toNat - ((r2.1.getD x3.toNat default).At).toNat) (List.drop (((r2.1.getD x3.toNat default).At).toNat) a0))).bind fun r3 => prelaw3_LexStands_j2 x2 x3 (!eqS r3.Text ((r2.1.getD x3.toNat default).Text), (r2.1.getD x3.toNat default).Kind, (r2.1.getD x3.toNat default).Text, (r2.1.getD x3.toNat default).Space, (r2.1.getD x3.toNat default).First, (r2.1.getD x3.toNat default).File, (r2.1.getD x3.toNat default).At, (r2.1.getD x3.toNat default).End, (r2.1.getD x3.toNat default).Line, (r2.1.getD x3.toNat default).Hide, (r2.1.getD x3.toNat default).Calls, (r2.1.getD x3.toNat default).Made) else none else none else inrO (some true)
noncomputable def prelaw3_LexStands (a0 : List UInt8) : Option Bool :=
  (prelaw3_alive ).bind fun r1 => if (!r1) = true then some false else (lex_Tokens 0 a0).bind fun r2 => if (!eqI r2.2.Err 0) = true then some (eqI (r2.1.length : Int) 0) else loopO (prelaw3_LexStands_b1 a0 r2) (0, (r2.1.length : Int), 0)
noncomputable def pf_prelaw3_LexStands : PF := PF.of (E1 dS) (fun a => prelaw3_LexStands a) dB
set_option maxRecDepth 100000 in
set_option maxHeartbeats 4000000 in
theorem prelaw3_LexStands_ok : PureOk Try.prog 8 pf_prelaw3_LexStands := by
  refine xF mixed [(46, pf_prelaw3_alive), (30, pf_lex_Tokens), (16, pf_preref1_Splice)] [] ⟨⟨call_46, prelaw3_alive_ok⟩, ⟨call_30, lex_Tokens_ok⟩, ⟨call_16, preref1_Splice_ok⟩, trivial⟩ trivial Try.func8 ?_
  rintro a0 out H
  have G := True.intro
  have Y := xZ y_3 <| xZ y_9 <| xZ y_24 <| xZ y_33 <| xZ y_37 <| xZ y_49 <| xZ y_51 <| xZ Try.results8 <| xZ d_Spliced.eq_1 <| xZ d_Call.eq_1 <| xZ d_Token.eq_1 <| d_Fault.eq_1
  simp only [prelaw3_LexStands] at H
  refine xS ?_
  refine xr ?_
  obtain ⟨r1, hr1, H⟩ := osplit H
  have F := xC Y (prelaw3_alive_c  r1 hr1)
  refine xR ?_
  rcases bsplit H with ⟨hp1, H⟩ | ⟨hp1, H⟩
  · obtain ⟨F, G, hq1⟩ := xH Y G hp1
    refine xT ?_
    refine xr ?_
    cases H
    exact xN
  · obtain ⟨F, G, hq1⟩ := xH Y G hp1
    refine xE ?_
    obtain ⟨r2, hr2, H⟩ := osplit H
    have F := xC Y (lex_Tokens_c 0 a0 r2 hr2)
    refine xR ?_
    refine xr ?_
    rcases bsplit H with ⟨hp2, H⟩ | ⟨hp2, H⟩
    · obtain ⟨F, G, hq2⟩ := xH Y G hp2
      refine xT ?_
      refine xr ?_
      cases H
      exact xN
    · obtain ⟨F, G, hq2⟩ := xH Y G hp2
      refine xE ?_
      refine xr ?_
      refine xr ?_
      refine w_loop (prelaw3_LexStands_b1 a0 r2) (fun s => [(0, .c (.d (.v (str a0)))), (5, .c (.d (.v (.int .i64 s.1)))), (21, .c (.d (.sl 11 (List.map d_Token r2.1)))), (22, .c (.d (.v (.int .i64 s.2.1)))), (23, .c (.d (.v (.int .i64 s.2.2))))]) (fun s => []) [] H (xK ⟨[], []⟩) ?_
      rintro n1 ⟨x1, x2, x3⟩ o1 H hF1
      rw [prelaw3_LexStands_b1] at H
      refine xS ?_
      refine xr ?_
      rcases bsplit H with ⟨hp3, H⟩ | ⟨hp3, H⟩
      · obtain ⟨F, G, hq3⟩ := xH Y G hp3
        refine xT ?_
        obtain ⟨hg1, H⟩ := gsplit H
        have F := xZ Y (map_getD d_Token r2.1 x3.toNat default default (by omega))
        refine xR0 ?_
        refine then_normal ?_
        refine w_seq ?_
        refine w_cut (prelaw3_LexStands_j2 x2 x3) (fun s => [(0, .c (.d (.v (str a0)))), (7, .c (.pt 1 0)), (21, .c (.d (.sl 11 (List.map d_Token r2.1)))), (22, .c (.d (.v (.int .i64 x2)))), (23, .c (.d (.v (.int .i64 x3)))), (62, .c (.d (.v (.bool s.1))))]) (fun s => [[.d (.v (.int .i64 s.2.1)), .d (.v (str s.2.2.1)), .d (.v (.bool s.2.2.2.1)), .d (.v (.bool s.2.2.2.2.1)), .d (.v (.int .i64 s.2.2.2.2.2.1)), .d (.v (.int .i64 s.2.2.2.2.2.2.1)), .d (.v (.int .i64 s.2.2.2.2.2.2.2.1)), .d (.v (.int .i64 s.2.2.2.2.2.2.2.2.1)), .d (.sl 1 (List.map dS s.2.2.2.2.2.2.2.2.2.1)), .d (.sl 3 (List.map d_Call s.2.2.2.2.2.2.2.2.2.2.1)), .d (.v (.int .i64 s.2.2.2.2.2.2.2.2.2.2.2))]]) [] o1 ?_ ?_
        · rcases bsplit H with ⟨hp5, H⟩ | ⟨hp5, H⟩
          · obtain ⟨F, G, hq5⟩ := xH Y G hp5
            refine xR ?_
            exact cut_at H (xK ⟨[1], []⟩)
          · obtain ⟨F, G, hq5⟩ := xH Y G hp5
            rcases bsplit H with ⟨hp6, H⟩ | ⟨hp6, H⟩
            · obtain ⟨F, G, hq6⟩ := xH F G hp6
              refine xR ?_
              exact cut_at H (xK ⟨[1], []⟩)
            · obtain ⟨F, G, hq6⟩ := xH F G hp6
              rcases bsplit H with ⟨hp7, H⟩ | ⟨hp7, H⟩
              · obtain ⟨F, G, hq7⟩ := xH F G hp7
                refine xR ?_
                exact cut_at H (xK ⟨[1], []⟩)
              · obtain ⟨F, G, hq7⟩ := xH F G hp7
                rcases bsplit H with ⟨hp8, H⟩ | ⟨hp8, H⟩
                · obtain ⟨F, G, hq8⟩ := xH F G hp8
                  refine xR ?_
                  exact cut_at H (xK ⟨[1], []⟩)
                · obtain ⟨F, G, hq8⟩ := xH F G hp8
                  obtain ⟨hg2, H⟩ := gsplit H
                  obtain ⟨r3, hr3, H⟩ := osplit H
                  have F := xC F (preref1_Splice_c (List.take (((r2.1.getD x3.toNat default).End).toNat - ((r2.1.getD x3.toNat default).At).toNat) (List.drop (((r2.1.getD x3.toNat default).At).toNat) a0)) r3 hr3)
                  refine xR ?_
                  exact cut_at H (xK ⟨[1], []⟩)
        · rintro ⟨x4, x5, x6, x7, x8, x9, x10, x11, x12, x13, x14, x15⟩ H
          rw [prelaw3_LexStands_j2] at H
          rcases bsplit H with ⟨hp4, H⟩ | ⟨hp4, H⟩
          · obtain ⟨F, G, hq4⟩ := xH Y G hp4
            refine xT ?_
            replace H := inrO_fin H hF1
            refine xr ?_
            cases H
            exact xN
          · obtain ⟨F, G, hq4⟩ := xH Y G hp4
            refine xE ?_
            refine xr ?_
            refine xr ?_
            exact round_at (inl_fin H hF1) (xK ⟨[], []⟩)
      · obtain ⟨F, G, hq3⟩ := xH Y G hp3
        replace H := inrO_fin H hF1
        refine xE ?_
        refine xr ?_
        cases H
        exact xN
theorem prelaw3_LexStands_c (a0 : List UInt8) (r : Bool) (H : prelaw3_LexStands a0 = some r) : PC pf_prelaw3_LexStands [dS a0] (dB r) := PF.c (a := a0) H
noncomputable def prelaw3_LexAgain_j2 (x1 : Int) (x2 : Int) : Unit → Option ((Int × Int) ⊕ Bool)
  | () => some (.inl (x1, IntKind.i64.wrap (x2 + 1)))
noncomputable def prelaw3_LexAgain_j5 (x5 : Int) (x6 : Int) : Bool → Option ((Int × Int) ⊕ ((Int × Int) ⊕ Bool))
  | x7 => if x7 = true then inrO (inrO (some false)) else some (.inl (x5, IntKind.i64.wrap (x6 + 1)))
noncomputable def prelaw3_LexAgain_b4 (x1 : Int) (x2 : Int) (r6 : (List Token) × Fault) (x3 : List Token) : (Int × Int) → Option ((Int × Int) ⊕ ((Int × Int) ⊕ Bool))
  | (x5, x6) => if (ltI x6 x5) = true then if (0 : Int) ≤ x6 ∧ x6.toNat < x3.length then if (0 : Int) ≤ x6 ∧ x6.toNat < r6.1.length then if (!eqI ((x3.getD x6.toNat default).Kind) ((r6.1.getD x6.toNat default).Kind)) = true then prelaw3_LexAgain_j5 x5 x6 true else if (0 : Int) ≤ x6 ∧ x6.toNat < x3.length then if (0 : Int) ≤ x6 ∧ x6.toNat < r6.1.length then prelaw3_LexAgain_j5 x5 x6 (!eqS ((x3.getD x6.toNat default).Text) ((r6.1.getD x6.toNat default).Text)) else none else none else none else none else inrO (prelaw3_LexAgain_j2 x1 x2 ())
noncomputable def prelaw3_LexAgain_j3 (x1 : Int) (x2 : Int) (r6 : (List Token) × Fault) : ((List Token) × Bool) → Option ((Int × Int) ⊕ Bool)
  | (x3, x4) => if x4 = true then inrO (some false) else loopO (prelaw3_LexAgain_b4 x1 x2 r6 x3) ((x3.length : Int), 0)
noncomputable def prelaw3_LexAgain_b1 (r3 : (List (List Token))) : (Int × Int) → Option ((Int × Int) ⊕ Bool)
  | (x1, x2) => if (ltI x2 x1) = true then if (0 : Int) ≤ x2 ∧ x2.toNat < r3.length then (lex_Join (r3.getD x2.toNat default)).bind fun r4 => if (ltI 3000 (r4.length : Int)) = true then prelaw3_LexAgain_j2 x1 x2 () else (lex_Join (r3.getD x2.toNat default)).bind fun r5 => (lex_Tokens 0 r5).bind fun r6 => if (!eqI r6.2.Err 0) = true then prelaw3_LexAgain_j3 x1 x2 r6 ((r3.getD x2.toNat default), true) else prelaw3_LexAgain_j3 x1 x2 r6 ((r3.getD x2.toNat default), !eqI ((r3.getD x2.toNat default).length : Int) (r6.1.length : Int)) else none else inrO (some true)
noncomputable def prelaw3_LexAgain (a0 : List UInt8) : Option Bool :=
  (prelaw3_alive ).bind fun r1 => if (!r1) = true then some false else (lex_Tokens 0 a0).bind fun r2 => if (!eqI r2.2.Err 0) = true then some true else (lex_Lines r2.1).bind fun r3 => loopO (prelaw3_LexAgain_b1 r3) ((r3.length : Int), 0)
noncomputable def pf_prelaw3_LexAgain : PF := PF.of (E1 dS) (fun a => prelaw3_LexAgain a) dB
set_option maxRecDepth 100000 in
set_option maxHeartbeats 4000000 in
theorem prelaw3_LexAgain_ok : PureOk Try.prog 9 pf_prelaw3_LexAgain := by
  refine xF mixed [(46, pf_prelaw3_alive), (30, pf_lex_Tokens), (39, pf_lex_Lines), (37, pf_lex_Join)] [] ⟨⟨call_46, prelaw3_alive_ok⟩, ⟨call_30, lex_Tokens_ok⟩, ⟨call_39, lex_Lines_ok⟩, ⟨call_37, lex_Join_ok⟩, trivial⟩ trivial Try.func9 ?_
  rintro a0 out H
  have G := True.intro
  have Y := xZ y_3 <| xZ y_9 <| xZ y_33 <| xZ y_37 <| xZ y_49 <| xZ y_51 <| xZ y_57 <| xZ Try.results9 <| xZ d_Call.eq_1 <| xZ d_Token.eq_1 <| d_Fault.eq_1
  simp only [prelaw3_LexAgain] at H
  refine xS ?_
  refine xr ?_
  obtain ⟨r1, hr1, H⟩ := osplit H
  have F := xC Y (prelaw3_alive_c  r1 hr1)
  refine xR ?_
  rcases bsplit H with ⟨hp1, H⟩ | ⟨hp1, H⟩
  · obtain ⟨F, G, hq1⟩ := xH Y G hp1
    refine xT ?_
    refine xr ?_
    cases H
    exact xN
  · obtain ⟨F, G, hq1⟩ := xH Y G hp1
    refine xE ?_
    obtain ⟨r2, hr2, H⟩ := osplit H
    have F := xC Y (lex_Tokens_c 0 a0 r2 hr2)
    refine xR ?_
    refine xr ?_
    rcases bsplit H with ⟨hp2, H⟩ | ⟨hp2, H⟩
    · obtain ⟨F, G, hq2⟩ := xH Y G hp2
      refine xT ?_
      refine xr ?_
      cases H
      exact xN
    · obtain ⟨F, G, hq2⟩ := xH Y G hp2
      refine xE ?_
      obtain ⟨r3, hr3, H⟩ := osplit H
      have F := xC Y (lex_Lines_c r2.1 r3 hr3)
      refine xR ?_
      refine w_loop (prelaw3_LexAgain_b1 r3) (fun s => [(21, .c (.d (.sl 1 (List.map (dL 11 d_Token) r3)))), (22, .c (.d (.v (.int .i64 s.1)))), (23, .c (.d (.v (.int .i64 s.2))))]) (fun s => []) [] H (xK ⟨[], []⟩) ?_
      rintro n1 ⟨x1, x2⟩ o1 H hF1
      rw [prelaw3_LexAgain_b1] at H
      refine xS ?_
      refine xr ?_
      rcases bsplit H with ⟨hp3, H⟩ | ⟨hp3, H⟩
      · obtain ⟨F, G, hq3⟩ := xH Y G hp3
        refine xT0 ?_
        refine w_skip ?_
        refine then_normal ?_
        refine w_cut (prelaw3_LexAgain_j2 x1 x2) (fun s => [(21, .c (.d (.sl 1 (List.map (dL 11 d_Token) r3)))), (22, .c (.d (.v (.int .i64 x1)))), (23, .c (.d (.v (.int .i64 x2))))]) (fun s => []) [] o1 ?_ ?_
        · refine xS ?_
          obtain ⟨hg1, H⟩ := gsplit H
          have F := xZ Y (map_getD (dL 11 d_Token) r3 x2.toNat default default (by omega))
          refine xR ?_
          obtain ⟨r4, hr4, H⟩ := osplit H
          have F := xC Y (lex_Join_c (r3.getD x2.toNat default) r4 hr4)
          refine xR ?_
          rcases bsplit H with ⟨hp4, H⟩ | ⟨hp4, H⟩
          · obtain ⟨F, G, hq4⟩ := xH Y G hp4
            refine xT ?_
            exact cut_at H (xK ⟨[], []⟩)
          · obtain ⟨F, G, hq4⟩ := xH Y G hp4
            refine xE ?_
            obtain ⟨r5, hr5, H⟩ := osplit H
            have F := xC Y (lex_Join_c (r3.getD x2.toNat default) r5 hr5)
            obtain ⟨r6, hr6, H⟩ := osplit H
            have F := xC F (lex_Tokens_c 0 r5 r6 hr6)
            refine xR0 ?_
            refine then_normal ?_
            refine w_seq ?_
            refine w_cut (prelaw3_LexAgain_j3 x1 x2 r6) (fun s => [(6, .c (.d (.sl 11 (List.map d_Token s.1)))), (7, .c (.d (.sl 11 (List.map d_Token r6.1)))), (21, .c (.d (.sl 1 (List.map (dL 11 d_Token) r3)))), (22, .c (.d (.v (.int .i64 x1)))), (23, .c (.d (.v (.int .i64 x2)))), (46, .c (.d (.v (.bool s.2))))]) (fun s => []) [] o1 ?_ ?_
            · rcases bsplit H with ⟨hp9, H⟩ | ⟨hp9, H⟩
              · obtain ⟨F, G, hq9⟩ := xH Y G hp9
                refine xR ?_
                exact cut_at H (xK ⟨[], []⟩)
              · obtain ⟨F, G, hq9⟩ := xH Y G hp9
                refine xR ?_
                exact cut_at H (xK ⟨[], []⟩)
            · rintro ⟨x3, x4⟩ H
              rw [prelaw3_LexAgain_j3] at H
              rcases bsplit H with ⟨hp5, H⟩ | ⟨hp5, H⟩
              · obtain ⟨F, G, hq5⟩ := xH Y G hp5
                refine xT ?_
                replace H := inrO_fin H hF1
                refine xr ?_
                cases H
                exact xN
              · obtain ⟨F, G, hq5⟩ := xH Y G hp5
                refine xE ?_
                refine xr ?_
                refine w_loop (prelaw3_LexAgain_b4 x1 x2 r6 x3) (fun s => [(6, .c (.d (.sl 11 (List.map d_Token x3)))), (7, .c (.d (.sl 11 (List.map d_Token r6.1)))), (21, .c (.d (.sl 1 (List.map (dL 11 d_Token) r3)))), (22, .c (.d (.v (.int .i64 x1)))), (23, .c (.d (.v (.int .i64 x2)))), (48, .c (.d (.v (.int .i64 s.1)))), (49, .c (.d (.v (.int .i64 s.2))))]) (fun s => []) [] H (xK ⟨[], []⟩) ?_
                rintro n2 ⟨x5, x6⟩ o2 H hF2
                rw [prelaw3_LexAgain_b4] at H
                refine xS ?_
                refine xr ?_
                rcases bsplit H with ⟨hp6, H⟩ | ⟨hp6, H⟩
                · obtain ⟨F, G, hq6⟩ := xH Y G hp6
                  refine xT ?_
                  refine xr0 ?_
                  refine then_normal ?_
                  refine w_cut (prelaw3_LexAgain_j5 x5 x6) (fun s => [(6, .c (.d (.sl 11 (List.map d_Token x3)))), (7, .c (.d (.sl 11 (List.map d_Token r6.1)))), (21, .c (.d (.sl 1 (List.map (dL 11 d_Token) r3)))), (22, .c (.d (.v (.int .i64 x1)))), (23, .c (.d (.v (.int .i64 x2)))), (48, .c (.d (.v (.int .i64 x5)))), (49, .c (.d (.v (.int .i64 x6)))), (75, .c (.d (.v (.bool s))))]) (fun s => []) [] o2 ?_ ?_
                  · obtain ⟨hg2, H⟩ := gsplit H
                    have F := xZ Y (map_getD d_Token x3 x6.toNat default default (by omega))
                    obtain ⟨hg3, H⟩ := gsplit H
                    have F := xZ F (map_getD d_Token r6.1 x6.toNat default default (by omega))
                    rcases bsplit H with ⟨hp8, H⟩ | ⟨hp8, H⟩
                    · obtain ⟨F, G, hq8⟩ := xH F G hp8
                      refine xR ?_
                      exact cut_at H (xK ⟨[], []⟩)
                    · obtain ⟨F, G, hq8⟩ := xH F G hp8
                      obtain ⟨hg4, H⟩ := gsplit H
                      have F := xZ F (map_getD d_Token x3 x6.toNat default default (by omega))
                      obtain ⟨hg5, H⟩ := gsplit H
                      have F := xZ F (map_getD d_Token r6.1 x6.toNat default default (by omega))
                      refine xR ?_
                      exact cut_at H (xK ⟨[], []⟩)
                  · rintro x7 H
                    rw [prelaw3_LexAgain_j5] at H
                    rcases bsplit H with ⟨hp7, H⟩ | ⟨hp7, H⟩
                    · obtain ⟨F, G, hq7⟩ := xH Y G hp7
                      refine xT ?_
                      replace H := inrO_fin H hF2
                      replace H := inrO_fin H hF1
                      refine xr ?_
                      cases H
                      exact xN
                    · obtain ⟨F, G, hq7⟩ := xH Y G hp7
                      refine xE ?_
                      refine xr ?_
                      exact round_at (inl_fin H hF2) (xK ⟨[], []⟩)
                · obtain ⟨F, G, hq6⟩ := xH Y G hp6
                  replace H := inrO_fin H hF2
                  refine xE ?_
                  exact cut_at H (xK ⟨[], []⟩)
        · rintro ⟨⟩ H
          rw [prelaw3_LexAgain_j2] at H
          refine xr ?_
          exact round_at (inl_fin H hF1) (xK ⟨[], []⟩)
      · obtain ⟨F, G, hq3⟩ := xH Y G hp3
        replace H := inrO_fin H hF1
        refine xE ?_
        refine xr ?_
        cases H
        exact xN
theorem prelaw3_LexAgain_c (a0 : List UInt8) (r : Bool) (H : prelaw3_LexAgain a0 = some r) : PC pf_prelaw3_LexAgain [dS a0] (dB r) := PF.c (a := a0) H
noncomputable def prelaw3_LexBlank_j2 (x2 : Int) (x3 : Int) : (List UInt8) → Option (((List UInt8) × Int × Int) ⊕ Bool)
  | x4 => some (.inl (x4, x2, IntKind.i64.wrap (x3 + 1)))
noncomputable def prelaw3_LexBlank_j3 (a0 : List UInt8) (x1 : List UInt8) (x2 : Int) (x3 : Int) : Bool → Option (((List UInt8) × Int × Int) ⊕ Bool)
  | x5 => if x5 = true then inrO (some true) else if (0 : Int) ≤ x3 ∧ x3 ≤ (IntKind.i64.wrap (x3 + 1)) ∧ (IntKind.i64.wrap (x3 + 1)) ≤ (a0.length : Int) then if x1.length + (List.take ((IntKind.i64.wrap (x3 + 1)).toNat - x3.toNat) (List.drop x3.toNat a0)).length ≤ 9223372036854775807 then if (0 : Int) ≤ x3 ∧ x3.toNat < a0.length then if (eqI ((a0.getD x3.toNat 0).toNat : Int) 10) = true then if (x1 ++ (List.take ((IntKind.i64.wrap (x3 + 1)).toNat - x3.toNat) (List.drop x3.toNat a0))).length + 10 ≤ 9223372036854775807 then prelaw3_LexBlank_j2 x2 x3 ((x1 ++ (List.take ((IntKind.i64.wrap (x3 + 1)).toNat - x3.toNat) (List.drop x3.toNat a0))) ++ [32, 32, 47, 42, 32, 120, 32, 42, 47, 9]) else none else prelaw3_LexBlank_j2 x2 x3 (x1 ++ (List.take ((IntKind.i64.wrap (x3 + 1)).toNat - x3.toNat) (List.drop x3.toNat a0))) else none else none else none
noncomputable def prelaw3_LexBlank_j6 (x7 : Int) (x8 : Int) : Bool → Option ((Int × Int) ⊕ Bool)
  | x9 => if x9 = true then inrO (some false) else some (.inl (x7, IntKind.i64.wrap (x8 + 1)))
noncomputable def prelaw3_LexBlank_b5 (r2 : (List Token) × Fault) (r3 : (List Token) × Fault) : (Int × Int) → Option ((Int × Int) ⊕ Bool)
  | (x7, x8) => if (ltI x8 x7) = true then if (0 : Int) ≤ x8 ∧ x8.toNat < r2.1.length then if (0 : Int) ≤ x8 ∧ x8.toNat < r3.1.length then if (!eqI ((r2.1.getD x8.toNat default).Kind) ((r3.1.getD x8.toNat default).Kind)) = true then prelaw3_LexBlank_j6 x7 x8 true else if (0 : Int) ≤ x8 ∧ x8.toNat < r2.1.length then if (0 : Int) ≤ x8 ∧ x8.toNat < r3.1.length then if (!eqS ((r2.1.getD x8.toNat default).Text) ((r3.1.getD x8.toNat default).Text)) = true then prelaw3_LexBlank_j6 x7 x8 true else if (0 : Int) ≤ x8 ∧ x8.toNat < r2.1.length then if (0 : Int) ≤ x8 ∧ x8.toNat < r3.1.length then prelaw3_LexBlank_j6 x7 x8 (!eqB ((r2.1.getD x8.toNat default).First) ((r3.1.getD x8.toNat default).First)) else none else none else none else none else none else none else inrO (some true)
noncomputable def prelaw3_LexBlank_j4 (r2 : (List Token) × Fault) (x1 : List UInt8) (r3 : (List Token) × Fault) : Bool → Option Bool
  | x6 => if x6 = true then some (ltI 3000 (IntKind.i64.wrap ((x1.length : Int) + 4))) else loopO (prelaw3_LexBlank_b5 r2 r3) ((r2.1.length : Int), 0)
noncomputable def prelaw3_LexBlank_b1 (a0 : List UInt8) (r2 : (List Token) × Fault) : ((List UInt8) × Int × Int) → Option (((List UInt8) × Int × Int) ⊕ Bool)
  | (x1, x2, x3) => if (ltI x3 x2) = true then if (0 : Int) ≤ x3 ∧ x3.toNat < a0.length then if (eqI ((a0.getD x3.toNat 0).toNat : Int) 92) = true then prelaw3_LexBlank_j3 a0 x1 x2 x3 true else if (0 : Int) ≤ x3 ∧ x3.toNat < a0.length then if (eqI ((a0.getD x3.toNat 0).toNat : Int) 47) = true then prelaw3_LexBlank_j3 a0 x1 x2 x3 true else if (0 : Int) ≤ x3 ∧ x3.toNat < a0.length then if (eqI ((a0.getD x3.toNat 0).toNat : Int) 42) = true then prelaw3_LexBlank_j3 a0 x1 x2 x3 true else if (0 : Int) ≤ x3 ∧ x3.toNat < a0.length then prelaw3_LexBlank_j3 a0 x1 x2 x3 (eqI ((a0.getD x3.toNat 0).toNat : Int) 13) else none else none else none else none else inrO (if (ltI 3000 (x1.length : Int)) = true then some true else if x1.length + 4 ≤ 9223372036854775807 then (lex_Tokens 0 (x1 ++ [47, 47, 32, 121])).bind fun r3 => if (!eqI r3.2.Err 0) = true then prelaw3_LexBlank_j4 r2 x1 r3 true else prelaw3_LexBlank_j4 r2 x1 r3 (!eqI (r2.1.length : Int) (r3.1.length : Int)) else none)
noncomputable def prelaw3_LexBlank (a0 : List UInt8) : Option Bool :=
  (prelaw3_alive ).bind fun r1 => if (!r1) = true then some false else (lex_Tokens 0 a0).bind fun r2 => if (!eqI r2.2.Err 0) = true then some true else loopO (prelaw3_LexBlank_b1 a0 r2) ([], (a0.length : Int), 0)
noncomputable def pf_prelaw3_LexBlank : PF := PF.of (E1 dS) (fun a => prelaw3_LexBlank a) dB
set_option maxRecDepth 100000 in
set_option maxHeartbeats 4000000 in
theorem prelaw3_LexBlank_ok : PureOk Try.prog 10 pf_prelaw3_LexBlank := by
  refine xF mixed [(46, pf_prelaw3_alive), (30, pf_lex_Tokens)] [] ⟨⟨call_46, prelaw3_alive_ok⟩, ⟨call_30, lex_Tokens_ok⟩, trivial⟩ trivial Try.func10 ?_
  rintro a0 out H
  have G := True.intro
  have Y := xZ y_3 <| xZ y_4 <| xZ y_9 <| xZ y_33 <| xZ y_37 <| xZ y_49 <| xZ y_51 <| xZ Try.results10 <| xZ d_Call.eq_1 <| xZ d_Token.eq_1 <| d_Fault.eq_1
  simp only [prelaw3_LexBlank] at H
  refine xS ?_
  refine xr ?_
  obtain ⟨r1, hr1, H⟩ := osplit H
  have F := xC Y (prelaw3_alive_c  r1 hr1)
  refine xR ?_
  rcases bsplit H with ⟨hp1, H⟩ | ⟨hp1, H⟩
  · obtain ⟨F, G, hq1⟩ := xH Y G hp1
    refine xT ?_
    refine xr ?_
    cases H
    exact xN
  · obtain ⟨F, G, hq1⟩ := xH Y G hp1
    refine xE ?_
    obtain ⟨r2, hr2, H⟩ := osplit H
    have F := xC Y (lex_Tokens_c 0 a0 r2 hr2)
    refine xR ?_
    refine xr ?_
    rcases bsplit H with ⟨hp2, H⟩ | ⟨hp2, H⟩
    · obtain ⟨F, G, hq2⟩ := xH Y G hp2
      refine xT ?_
      refine xr ?_
      cases H
      exact xN
    · obtain ⟨F, G, hq2⟩ := xH Y G hp2
      refine xE ?_
      refine xr ?_
      refine xr ?_
      refine w_loop (prelaw3_LexBlank_b1 a0 r2) (fun s => [(0, .c (.d (.v (str a0)))), (3, .c (.d (.sl 11 (List.map d_Token r2.1)))), (4, .c (.pt 1 0)), (5, .c (.d (.v (str s.1)))), (20, .c (.d (.v (.int .i64 s.2.1)))), (21, .c (.d (.v (.int .i64 s.2.2))))]) (fun s => [[.d (.v (.int .i64 r2.2.Err)), .d (.v (.int .i64 r2.2.File)), .d (.v (.int .i64 r2.2.At))]]) [] H (xK ⟨[1], []⟩) ?_
      rintro n1 ⟨x1, x2, x3⟩ o1 H hF1
      rw [prelaw3_LexBlank_b1] at H
      refine xS ?_
      refine xr ?_
      rcases bsplit H with ⟨hp3, H⟩ | ⟨hp3, H⟩
      · obtain ⟨F, G, hq3⟩ := xH Y G hp3
        refine xT0 ?_
        refine w_skip ?_
        refine then_normal ?_
        refine w_cut (prelaw3_LexBlank_j2 x2 x3) (fun s => [(0, .c (.d (.v (str a0)))), (3, .c (.d (.sl 11 (List.map d_Token r2.1)))), (4, .c (.pt 1 0)), (5, .c (.d (.v (str s)))), (20, .c (.d (.v (.int .i64 x2)))), (21, .c (.d (.v (.int .i64 x3))))]) (fun s => [[.d (.v (.int .i64 r2.2.Err)), .d (.v (.int .i64 r2.2.File)), .d (.v (.int .i64 r2.2.At))]]) [] o1 ?_ ?_
        · refine xS ?_
          refine xr0 ?_
          refine then_normal ?_
          refine w_seq ?_
          refine w_cut (prelaw3_LexBlank_j3 a0 x1 x2 x3) (fun s => [(0, .c (.d (.v (str a0)))), (3, .c (.d (.sl 11 (List.map d_Token r2.1)))), (4, .c (.pt 1 0)), (5, .c (.d (.v (str x1)))), (6, .c (.d (.v (.int .i64 x3)))), (20, .c (.d (.v (.int .i64 x2)))), (21, .c (.d (.v (.int .i64 x3)))), (45, .c (.d (.v (.bool s))))]) (fun s => [[.d (.v (.int .i64 r2.2.Err)), .d (.v (.int .i64 r2.2.File)), .d (.v (.int .i64 r2.2.At))]]) [] o1 ?_ ?_
          · obtain ⟨hg5, H⟩ := gsplit H
            rcases bsplit H with ⟨hp6, H⟩ | ⟨hp6, H⟩
            · obtain ⟨F, G, hq6⟩ := xH Y G hp6
              refine xR ?_
              exact cut_at H (xK ⟨[1], []⟩)
            · obtain ⟨F, G, hq6⟩ := xH Y G hp6
              obtain ⟨hg6, H⟩ := gsplit H
              rcases bsplit H with ⟨hp7, H⟩ | ⟨hp7, H⟩
              · obtain ⟨F, G, hq7⟩ := xH F G hp7
                refine xR ?_
                exact cut_at H (xK ⟨[1], []⟩)
              · obtain ⟨F, G, hq7⟩ := xH F G hp7
                obtain ⟨hg7, H⟩ := gsplit H
                rcases bsplit H with ⟨hp8, H⟩ | ⟨hp8, H⟩
                · obtain ⟨F, G, hq8⟩ := xH F G hp8
                  refine xR ?_
                  exact cut_at H (xK ⟨[1], []⟩)
                · obtain ⟨F, G, hq8⟩ := xH F G hp8
                  obtain ⟨hg8, H⟩ := gsplit H
                  refine xR ?_
                  exact cut_at H (xK ⟨[1], []⟩)
          · rintro x5 H
            rw [prelaw3_LexBlank_j3] at H
            rcases bsplit H with ⟨hp4, H⟩ | ⟨hp4, H⟩
            · obtain ⟨F, G, hq4⟩ := xH Y G hp4
              refine xT ?_
              replace H := inrO_fin H hF1
              refine xr ?_
              cases H
              exact xN
            · obtain ⟨F, G, hq4⟩ := xH Y G hp4
              refine xE ?_
              obtain ⟨hg1, H⟩ := gsplit H
              obtain ⟨hg2, H⟩ := gsplit H
              refine xr ?_
              obtain ⟨hg3, H⟩ := gsplit H
              refine xr ?_
              rcases bsplit H with ⟨hp5, H⟩ | ⟨hp5, H⟩
              · obtain ⟨F, G, hq5⟩ := xH Y G hp5
                refine xT ?_
                obtain ⟨hg4, H⟩ := gsplit H
                refine xr ?_
                exact cut_at H (xK ⟨[1], []⟩)
              · obtain ⟨F, G, hq5⟩ := xH Y G hp5
                refine xE ?_
                exact cut_at H (xK ⟨[1], []⟩)
        · rintro x4 H
          rw [prelaw3_LexBlank_j2] at H
          refine xr ?_
          exact round_at (inl_fin H hF1) (xK ⟨[1], []⟩)
      · obtain ⟨F, G, hq3⟩ := xH Y G hp3
        replace H := inrO_fin H hF1
        refine xE ?_
        refine xr ?_
        rcases bsplit H with ⟨hp9, H⟩ | ⟨hp9, H⟩
        · obtain ⟨F, G, hq9⟩ := xH Y G hp9
          refine xT ?_
          refine xr ?_
          cases H
          exact xN
        · obtain ⟨F, G, hq9⟩ := xH Y G hp9
          refine xE ?_
          obtain ⟨hg9, H⟩ := gsplit H
          obtain ⟨r3, hr3, H⟩ := osplit H
          have F := xC Y (lex_Tokens_c 0 (x1 ++ [47, 47, 32, 121]) r3 hr3)
          refine xR0 ?_
          refine then_normal ?_
          refine w_seq ?_
          refine w_cut (prelaw3_LexBlank_j4 r2 x1 r3) (fun s => [(3, .c (.d (.sl 11 (List.map d_Token r2.1)))), (5, .c (.d (.v (str x1)))), (7, .c (.d (.sl 11 (List.map d_Token r3.1)))), (78, .c (.d (.v (.bool s))))]) (fun s => []) [] out ?_ ?_
          · rcases bsplit H with ⟨hp15, H⟩ | ⟨hp15, H⟩
            · obtain ⟨F, G, hq15⟩ := xH Y G hp15
              refine xR ?_
              exact cut_at H (xK ⟨[], []⟩)
            · obtain ⟨F, G, hq15⟩ := xH Y G hp15
              refine xR ?_
              exact cut_at H (xK ⟨[], []⟩)
          · rintro x6 H
            rw [prelaw3_LexBlank_j4] at H
            rcases bsplit H with ⟨hp10, H⟩ | ⟨hp10, H⟩
            · obtain ⟨F, G, hq10⟩ := xH Y G hp10
              refine xT ?_
              refine xr ?_
              cases H
              exact xN
            · obtain ⟨F, G, hq10⟩ := xH Y G hp10
              refine xE ?_
              refine xr ?_
              refine w_loop (prelaw3_LexBlank_b5 r2 r3) (fun s => [(3, .c (.d (.sl 11 (List.map d_Token r2.1)))), (7, .c (.d (.sl 11 (List.map d_Token r3.1)))), (84, .c (.d (.v (.int .i64 s.1)))), (85, .c (.d (.v (.int .i64 s.2))))]) (fun s => []) [] H (xK ⟨[], []⟩) ?_
              rintro n2 ⟨x7, x8⟩ o2 H hF2
              rw [prelaw3_LexBlank_b5] at H
              refine xS ?_
              refine xr ?_
              rcases bsplit H with ⟨hp11, H⟩ | ⟨hp11, H⟩
              · obtain ⟨F, G, hq11⟩ := xH Y G hp11
                refine xT ?_
                refine xr0 ?_
                refine then_normal ?_
                refine w_cut (prelaw3_LexBlank_j6 x7 x8) (fun s => [(3, .c (.d (.sl 11 (List.map d_Token r2.1)))), (7, .c (.d (.sl 11 (List.map d_Token r3.1)))), (84, .c (.d (.v (.int .i64 x7)))), (85, .c (.d (.v (.int .i64 x8)))), (124, .c (.d (.v (.bool s))))]) (fun s => []) [] o2 ?_ ?_
                · obtain ⟨hg10, H⟩ := gsplit H
                  have F := xZ Y (map_getD d_Token r2.1 x8.toNat default default (by omega))
                  obtain ⟨hg11, H⟩ := gsplit H
                  have F := xZ F (map_getD d_Token r3.1 x8.toNat default default (by omega))
                  rcases bsplit H with ⟨hp13, H⟩ | ⟨hp13, H⟩
                  · obtain ⟨F, G, hq13⟩ := xH F G hp13
                    refine xR ?_
                    exact cut_at H (xK ⟨[], []⟩)
                  · obtain ⟨F, G, hq13⟩ := xH F G hp13
                    obtain ⟨hg12, H⟩ := gsplit H
                    have F := xZ F (map_getD d_Token r2.1 x8.toNat default default (by omega))
                    obtain ⟨hg13, H⟩ := gsplit H
                    have F := xZ F (map_getD d_Token r3.1 x8.toNat default default (by omega))
                    rcases bsplit H with ⟨hp14, H⟩ | ⟨hp14, H⟩
                    · obtain ⟨F, G, hq14⟩ := xH F G hp14
                      refine xR ?_
                      exact cut_at H (xK ⟨[], []⟩)
                    · obtain ⟨F, G, hq14⟩ := xH F G hp14
                      obtain ⟨hg14, H⟩ := gsplit H
                      have F := xZ F (map_getD d_Token r2.1 x8.toNat default default (by omega))
                      obtain ⟨hg15, H⟩ := gsplit H
                      have F := xZ F (map_getD d_Token r3.1 x8.toNat default default (by omega))
                      refine xR ?_
                      exact cut_at H (xK ⟨[], []⟩)
                · rintro x9 H
                  rw [prelaw3_LexBlank_j6] at H
                  rcases bsplit H with ⟨hp12, H⟩ | ⟨hp12, H⟩
                  · obtain ⟨F, G, hq12⟩ := xH Y G hp12
                    refine xT ?_
                    replace H := inrO_fin H hF2
                    refine xr ?_
                    cases H
                    exact xN
                  · obtain ⟨F, G, hq12⟩ := xH Y G hp12
                    refine xE ?_
                    refine xr ?_
                    exact round_at (inl_fin H hF2) (xK ⟨[], []⟩)
              · obtain ⟨F, G, hq11⟩ := xH Y G hp11
                replace H := inrO_fin H hF2
                refine xE ?_
                refine xr ?_
                cases H
                exact xN
theorem prelaw3_LexBlank_c (a0 : List UInt8) (r : Bool) (H : prelaw3_LexBlank a0 = some r) : PC pf_prelaw3_LexBlank [dS a0] (dB r) := PF.c (a := a0) H
end Go.Proofs.Ytgkacglpjmndbaa
