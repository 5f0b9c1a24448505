/- Functions of data for functions of the program: prelaw3_LexTells. Written by dec.py. -/
import Derived.Test.YtgkacglpjmndbaaQn
namespace Go.Proofs.Ytgkacglpjmndbaa
open Go.RowKit
set_option linter.unusedVariables false
set_option linter.unusedSimpArgs false

noncomputable def prelaw3_LexTells_b4 (x2 : Int) (x3 : Int) (x4 : Int) (x5 : List Token) : ((List Token) × Int × Int) → Option (((List Token) × Int × Int) ⊕ ((Int × Int × Int) ⊕ Bool))
  | (x7, x8, x9) => if (ltI x9 x8) = true then if (0 : Int) ≤ x9 ∧ x9.toNat < x7.length then if ((x7.getD x9.toNat default).First) = true then inrO (inrO (some false)) else some (.inl (x7, x8, IntKind.i64.wrap (x9 + 1))) else none else inrO (some (.inl (IntKind.i64.wrap (x2 + (x5.length : Int)), x3, IntKind.i64.wrap (x4 + 1))))
noncomputable def prelaw3_LexTells_j3 (x2 : Int) (x3 : Int) (x4 : Int) : ((List Token) × Bool) → Option ((Int × Int × Int) ⊕ Bool)
  | (x5, x6) => if x6 = true then inrO (some false) else if (0 : Int) ≤ 1 ∧ 1 ≤ (x5.length : Int) ∧ (x5.length : Int) ≤ (x5.length : Int) then loopO (prelaw3_LexTells_b4 x2 x3 x4 x5) (List.drop 1 x5, ((List.drop 1 x5).length : Int), 0) else none
noncomputable def prelaw3_LexTells_j7 (x12 : Int) (x13 : Int) : Bool → Option ((Int × Int) ⊕ Bool)
  | x14 => if x14 = true then inrO (some false) else some (.inl (x12, IntKind.i64.wrap (x13 + 1)))
noncomputable def prelaw3_LexTells_b6 (a2 : List UInt8) (r2 : (List Token) × Fault) (x2 : Int) : (Int × Int) → Option ((Int × Int) ⊕ Bool)
  | (x12, x13) => if (ltI x13 x12) = true then if (0 : Int) ≤ x13 ∧ x13.toNat < a2.length then (lex_Letter (a2.getD x13.toNat 0)).bind fun r9 => if (0 : Int) ≤ x13 ∧ x13.toNat < a2.length then (preref1_Letter (a2.getD x13.toNat 0)).bind fun r10 => if (!eqB r9 r10) = true then prelaw3_LexTells_j7 x12 x13 true else if (0 : Int) ≤ x13 ∧ x13.toNat < a2.length then (lex_Digit (a2.getD x13.toNat 0)).bind fun r11 => if (0 : Int) ≤ x13 ∧ x13.toNat < a2.length then (preref1_Digit (a2.getD x13.toNat 0)).bind fun r12 => prelaw3_LexTells_j7 x12 x13 (!eqB r11 r12) else none else none else none else none else inrO (some (eqI x2 (r2.1.length : Int)))
noncomputable def prelaw3_LexTells_b5 (a2 : List UInt8) (r2 : (List Token) × Fault) (x2 : Int) (r7 : (List (List UInt8))) : (Int × Int) → Option ((Int × Int) ⊕ Bool)
  | (x10, x11) => if (ltI x11 x10) = true then if (0 : Int) ≤ x11 ∧ x11.toNat < r7.length then (preref1_Signs ).bind fun r8 => if (0 : Int) ≤ x11 ∧ x11.toNat < r8.length then if (!eqS (r7.getD x11.toNat default) (r8.getD x11.toNat default)) = true then inrO (some false) else some (.inl (x10, IntKind.i64.wrap (x11 + 1))) else none else none else inrO (loopO (prelaw3_LexTells_b6 a2 r2 x2) ((a2.length : Int), 0))
noncomputable def prelaw3_LexTells_b2 (a2 : List UInt8) (r2 : (List Token) × Fault) (r3 : (List (List Token))) : (Int × Int × Int) → Option ((Int × Int × Int) ⊕ Bool)
  | (x2, x3, x4) => if (ltI x4 x3) = true then if (0 : Int) ≤ x4 ∧ x4.toNat < r3.length then if (eqI ((r3.getD x4.toNat default).length : Int) 0) = true then prelaw3_LexTells_j3 x2 x3 x4 ((r3.getD x4.toNat default), true) else if (leI (r2.1.length : Int) x2) = true then prelaw3_LexTells_j3 x2 x3 x4 ((r3.getD x4.toNat default), true) else if (0 : Int) ≤ x2 ∧ x2 ≤ (if (r2.1.length : Int) < (IntKind.i64.wrap (x2 + ((r3.getD x4.toNat default).length : Int))) then (r2.1.length : Int) else (IntKind.i64.wrap (x2 + ((r3.getD x4.toNat default).length : Int)))) ∧ (if (r2.1.length : Int) < (IntKind.i64.wrap (x2 + ((r3.getD x4.toNat default).length : Int))) then (r2.1.length : Int) else (IntKind.i64.wrap (x2 + ((r3.getD x4.toNat default).length : Int)))) ≤ (r2.1.length : Int) then (preref1_SameTokens (r3.getD x4.toNat default) (List.take ((if (r2.1.length : Int) < (IntKind.i64.wrap (x2 + ((r3.getD x4.toNat default).length : Int))) then (r2.1.length : Int) else (IntKind.i64.wrap (x2 + ((r3.getD x4.toNat default).length : Int)))).toNat - x2.toNat) (List.drop x2.toNat r2.1))).bind fun r4 => if (!r4) = true then prelaw3_LexTells_j3 x2 x3 x4 ((r3.getD x4.toNat default), true) else if 0 < (r3.getD x4.toNat default).length then prelaw3_LexTells_j3 x2 x3 x4 ((r3.getD x4.toNat default), !(((r3.getD x4.toNat default).getD 0 default).First)) else none else none else none else inrO ((lex_Signs ).bind fun r5 => (preref1_Signs ).bind fun r6 => if (!eqI (r5.length : Int) (r6.length : Int)) = true then some false else (lex_Signs ).bind fun r7 => loopO (prelaw3_LexTells_b5 a2 r2 x2 r7) ((r7.length : Int), 0))
noncomputable def prelaw3_LexTells_j1 (a2 : List UInt8) (r2 : (List Token) × Fault) : Bool → Option Bool
  | x1 => if x1 = true then some false else (lex_Lines r2.1).bind fun r3 => loopO (prelaw3_LexTells_b2 a2 r2 r3) (0, (r3.length : Int), 0)
noncomputable def prelaw3_LexTells (a0 : List UInt8) (a1 : Int) (a2 : List UInt8) (a3 : List UInt8) : Option Bool :=
  (lex_Tokens a1 a0).bind fun r1 => (preref1_Tokens a1 a0).bind fun r2 => if (!(eqI r1.2.Err r2.2.Err && (eqI r1.2.File r2.2.File && (eqI r1.2.At r2.2.At)))) = true then prelaw3_LexTells_j1 a2 r2 true else (preref1_SameTokens r1.1 r2.1).bind fun r13 => if (!r13) = true then prelaw3_LexTells_j1 a2 r2 true else (lex_Name a2).bind fun r14 => (preref1_Name a2).bind fun r15 => if (!eqB r14 r15) = true then prelaw3_LexTells_j1 a2 r2 true else if (ltI (IntKind.i64.wrap ((a2.length : Int) + (a3.length : Int))) 100) = true then (lex_Sticks a2 a3).bind fun r16 => (preref1_Sticks a2 a3).bind fun r17 => if (!eqB r16 r17) = true then prelaw3_LexTells_j1 a2 r2 true else (lex_Join r2.1).bind fun r18 => (preref1_Join r2.1).bind fun r19 => prelaw3_LexTells_j1 a2 r2 (!eqS r18 r19) else (lex_Join r2.1).bind fun r20 => (preref1_Join r2.1).bind fun r21 => prelaw3_LexTells_j1 a2 r2 (!eqS r20 r21)
noncomputable def pf_prelaw3_LexTells : PF := PF.of (E4 dS dI dS dS) (fun a => prelaw3_LexTells a.1 a.2.1 a.2.2.1 a.2.2.2) dB
set_option maxRecDepth 100000 in
set_option maxHeartbeats 4000000 in
theorem prelaw3_LexTells_ok : PureOk Try.prog 7 pf_prelaw3_LexTells := by
  refine xF mixed [(30, pf_lex_Tokens), (31, pf_preref1_Tokens), (39, pf_lex_Lines), (32, pf_preref1_SameTokens), (40, pf_lex_Signs), (41, pf_preref1_Signs), (42, pf_lex_Letter), (43, pf_preref1_Letter), (44, pf_lex_Digit), (45, pf_preref1_Digit), (33, pf_lex_Name), (34, pf_preref1_Name), (35, pf_lex_Sticks), (36, pf_preref1_Sticks), (37, pf_lex_Join), (38, pf_preref1_Join)] [] ⟨⟨call_30, lex_Tokens_ok⟩, ⟨call_31, preref1_Tokens_ok⟩, ⟨call_39, lex_Lines_ok⟩, ⟨call_32, preref1_SameTokens_ok⟩, ⟨call_40, lex_Signs_ok⟩, ⟨call_41, preref1_Signs_ok⟩, ⟨call_42, lex_Letter_ok⟩, ⟨call_43, preref1_Letter_ok⟩, ⟨call_44, lex_Digit_ok⟩, ⟨call_45, preref1_Digit_ok⟩, ⟨call_33, lex_Name_ok⟩, ⟨call_34, preref1_Name_ok⟩, ⟨call_35, lex_Sticks_ok⟩, ⟨call_36, preref1_Sticks_ok⟩, ⟨call_37, lex_Join_ok⟩, ⟨call_38, preref1_Join_ok⟩, trivial⟩ trivial Try.func7 ?_
  rintro ⟨a0, a1, a2, a3⟩ out H
  have G := True.intro
  have Y := xZ y_3 <| xZ y_4 <| xZ y_9 <| xZ y_33 <| xZ y_34 <| xZ y_37 <| xZ y_51 <| xZ y_57 <| xZ Try.results7 <| xZ d_Call.eq_1 <| xZ d_Token.eq_1 <| d_Fault.eq_1
  simp only [prelaw3_LexTells] at H
  refine xS ?_
  refine xr ?_
  obtain ⟨r1, hr1, H⟩ := osplit H
  have F := xC Y (lex_Tokens_c a1 a0 r1 hr1)
  refine xR ?_
  obtain ⟨r2, hr2, H⟩ := osplit H
  have F := xC Y (preref1_Tokens_c a1 a0 r2 hr2)
  refine xR0 ?_
  refine then_normal ?_
  refine w_seq ?_
  refine w_cut (prelaw3_LexTells_j1 a2 r2) (fun s => [(2, .c (.d (.v (str a2)))), (11, .c (.d (.sl 11 (List.map d_Token r2.1)))), (72, .c (.d (.v (.bool s))))]) (fun s => []) [] out ?_ ?_
  · rcases bsplit H with ⟨hp15, H⟩ | ⟨hp15, H⟩
    · obtain ⟨F, G, hq15⟩ := xH Y G hp15
      refine xR ?_
      exact cut_at H (xK ⟨[], []⟩)
    · obtain ⟨F, G, hq15⟩ := xH Y G hp15
      obtain ⟨r13, hr13, H⟩ := osplit H
      have F := xC F (preref1_SameTokens_c r1.1 r2.1 r13 hr13)
      rcases bsplit H with ⟨hp16, H⟩ | ⟨hp16, H⟩
      · obtain ⟨F, G, hq16⟩ := xH F G hp16
        refine xR ?_
        exact cut_at H (xK ⟨[], []⟩)
      · obtain ⟨F, G, hq16⟩ := xH F G hp16
        obtain ⟨r14, hr14, H⟩ := osplit H
        have F := xC F (lex_Name_c a2 r14 hr14)
        obtain ⟨r15, hr15, H⟩ := osplit H
        have F := xC F (preref1_Name_c a2 r15 hr15)
        rcases bsplit H with ⟨hp17, H⟩ | ⟨hp17, H⟩
        · obtain ⟨F, G, hq17⟩ := xH F G hp17
          refine xR ?_
          exact cut_at H (xK ⟨[], []⟩)
        · obtain ⟨F, G, hq17⟩ := xH F G hp17
          rcases bsplit H with ⟨hp18, H⟩ | ⟨hp18, H⟩
          · obtain ⟨F, G, hq18⟩ := xH F G hp18
            obtain ⟨r16, hr16, H⟩ := osplit H
            have F := xC F (lex_Sticks_c a2 a3 r16 hr16)
            obtain ⟨r17, hr17, H⟩ := osplit H
            have F := xC F (preref1_Sticks_c a2 a3 r17 hr17)
            rcases bsplit H with ⟨hp19, H⟩ | ⟨hp19, H⟩
            · obtain ⟨F, G, hq19⟩ := xH F G hp19
              refine xR ?_
              exact cut_at H (xK ⟨[], []⟩)
            · obtain ⟨F, G, hq19⟩ := xH F G hp19
              obtain ⟨r18, hr18, H⟩ := osplit H
              have F := xC F (lex_Join_c r2.1 r18 hr18)
              obtain ⟨r19, hr19, H⟩ := osplit H
              have F := xC F (preref1_Join_c r2.1 r19 hr19)
              refine xR ?_
              exact cut_at H (xK ⟨[], []⟩)
          · obtain ⟨F, G, hq18⟩ := xH F G hp18
            obtain ⟨r20, hr20, H⟩ := osplit H
            have F := xC F (lex_Join_c r2.1 r20 hr20)
            obtain ⟨r21, hr21, H⟩ := osplit H
            have F := xC F (preref1_Join_c r2.1 r21 hr21)
            refine xR ?_
            exact cut_at H (xK ⟨[], []⟩)
  · rintro x1 H
    rw [prelaw3_LexTells_j1] at H
    rcases bsplit H with ⟨hp1, H⟩ | ⟨hp1, H⟩
    · obtain ⟨F, G, hq1⟩ := xH Y G hp1
      refine xT ?_
      refine xr ?_
      cases H
      exact xN
    · obtain ⟨F, G, hq1⟩ := xH Y G hp1
      refine xE ?_
      refine xr ?_
      obtain ⟨r3, hr3, H⟩ := osplit H
      have F := xC Y (lex_Lines_c r2.1 r3 hr3)
      refine xR ?_
      refine w_loop (prelaw3_LexTells_b2 a2 r2 r3) (fun s => [(2, .c (.d (.v (str a2)))), (11, .c (.d (.sl 11 (List.map d_Token r2.1)))), (13, .c (.d (.v (.int .i64 s.1)))), (74, .c (.d (.sl 1 (List.map (dL 11 d_Token) r3)))), (75, .c (.d (.v (.int .i64 s.2.1)))), (76, .c (.d (.v (.int .i64 s.2.2))))]) (fun s => []) [] H (xK ⟨[], []⟩) ?_
      rintro n1 ⟨x2, x3, x4⟩ o1 H hF1
      rw [prelaw3_LexTells_b2] at H
      refine xS ?_
      refine xr ?_
      rcases bsplit H with ⟨hp2, H⟩ | ⟨hp2, H⟩
      · obtain ⟨F, G, hq2⟩ := xH Y G hp2
        refine xT ?_
        obtain ⟨hg1, H⟩ := gsplit H
        have F := xZ Y (map_getD (dL 11 d_Token) r3 x4.toNat default default (by omega))
        refine xR0 ?_
        refine then_normal ?_
        refine w_seq ?_
        refine w_cut (prelaw3_LexTells_j3 x2 x3 x4) (fun s => [(2, .c (.d (.v (str a2)))), (11, .c (.d (.sl 11 (List.map d_Token r2.1)))), (13, .c (.d (.v (.int .i64 x2)))), (15, .c (.d (.sl 11 (List.map d_Token s.1)))), (74, .c (.d (.sl 1 (List.map (dL 11 d_Token) r3)))), (75, .c (.d (.v (.int .i64 x3)))), (76, .c (.d (.v (.int .i64 x4)))), (110, .c (.d (.v (.bool s.2))))]) (fun s => []) [] o1 ?_ ?_
        · rcases bsplit H with ⟨hp6, H⟩ | ⟨hp6, H⟩
          · obtain ⟨F, G, hq6⟩ := xH Y G hp6
            refine xR ?_
            exact cut_at H (xK ⟨[], []⟩)
          · obtain ⟨F, G, hq6⟩ := xH Y G hp6
            rcases bsplit H with ⟨hp7, H⟩ | ⟨hp7, H⟩
            · obtain ⟨F, G, hq7⟩ := xH F G hp7
              refine xR ?_
              exact cut_at H (xK ⟨[], []⟩)
            · obtain ⟨F, G, hq7⟩ := xH F G hp7
              obtain ⟨hg4, H⟩ := gsplit H
              obtain ⟨r4, hr4, H⟩ := osplit H
              have F := xC F (preref1_SameTokens_c (r3.getD x4.toNat default) (List.take ((if (r2.1.length : Int) < (IntKind.i64.wrap (x2 + ((r3.getD x4.toNat default).length : Int))) then (r2.1.length : Int) else (IntKind.i64.wrap (x2 + ((r3.getD x4.toNat default).length : Int)))).toNat - x2.toNat) (List.drop x2.toNat r2.1)) r4 hr4)
              rcases bsplit H with ⟨hp8, H⟩ | ⟨hp8, H⟩
              · obtain ⟨F, G, hq8⟩ := xH F G hp8
                refine xR ?_
                exact cut_at H (xK ⟨[], []⟩)
              · obtain ⟨F, G, hq8⟩ := xH F G hp8
                obtain ⟨hg5, H⟩ := gsplit H
                have F := xZ F (map_getD d_Token (r3.getD x4.toNat default) 0 default default (by omega))
                refine xR ?_
                exact cut_at H (xK ⟨[], []⟩)
        · rintro ⟨x5, x6⟩ H
          rw [prelaw3_LexTells_j3] at H
          rcases bsplit H with ⟨hp3, H⟩ | ⟨hp3, H⟩
          · obtain ⟨F, G, hq3⟩ := xH Y G hp3
            refine xT ?_
            replace H := inrO_fin H hF1
            refine xr ?_
            cases H
            exact xN
          · obtain ⟨F, G, hq3⟩ := xH Y G hp3
            refine xE ?_
            obtain ⟨hg2, H⟩ := gsplit H
            refine xr ?_
            refine w_loop (prelaw3_LexTells_b4 x2 x3 x4 x5) (fun s => [(2, .c (.d (.v (str a2)))), (11, .c (.d (.sl 11 (List.map d_Token r2.1)))), (13, .c (.d (.v (.int .i64 x2)))), (15, .c (.d (.sl 11 (List.map d_Token x5)))), (74, .c (.d (.sl 1 (List.map (dL 11 d_Token) r3)))), (75, .c (.d (.v (.int .i64 x3)))), (76, .c (.d (.v (.int .i64 x4)))), (112, .c (.d (.sl 11 (List.map d_Token s.1)))), (113, .c (.d (.v (.int .i64 s.2.1)))), (114, .c (.d (.v (.int .i64 s.2.2))))]) (fun s => []) [] H (xK ⟨[], []⟩) ?_
            rintro n2 ⟨x7, x8, x9⟩ o2 H hF2
            rw [prelaw3_LexTells_b4] at H
            refine xS ?_
            refine xr ?_
            rcases bsplit H with ⟨hp4, H⟩ | ⟨hp4, H⟩
            · obtain ⟨F, G, hq4⟩ := xH Y G hp4
              refine xT ?_
              obtain ⟨hg3, H⟩ := gsplit H
              have F := xZ Y (map_getD d_Token x7 x9.toNat default default (by omega))
              refine xR ?_
              refine xr ?_
              rcases bsplit H with ⟨hp5, H⟩ | ⟨hp5, H⟩
              · obtain ⟨F, G, hq5⟩ := xH Y G hp5
                refine xT ?_
                replace H := inrO_fin H hF2
                replace H := inrO_fin H hF1
                refine xr ?_
                cases H
                exact xN
              · obtain ⟨F, G, hq5⟩ := xH Y G hp5
                refine xE ?_
                refine xr ?_
                exact round_at (inl_fin H hF2) (xK ⟨[], []⟩)
            · obtain ⟨F, G, hq4⟩ := xH Y G hp4
              replace H := inrO_fin H hF2
              refine xE ?_
              refine xr ?_
              refine xr ?_
              exact round_at (inl_fin H hF1) (xK ⟨[], []⟩)
      · obtain ⟨F, G, hq2⟩ := xH Y G hp2
        replace H := inrO_fin H hF1
        refine xE ?_
        obtain ⟨r5, hr5, H⟩ := osplit H
        have F := xC Y (lex_Signs_c  r5 hr5)
        obtain ⟨r6, hr6, H⟩ := osplit H
        have F := xC F (preref1_Signs_c  r6 hr6)
        refine xR ?_
        rcases bsplit H with ⟨hp9, H⟩ | ⟨hp9, H⟩
        · obtain ⟨F, G, hq9⟩ := xH Y G hp9
          refine xT ?_
          refine xr ?_
          cases H
          exact xN
        · obtain ⟨F, G, hq9⟩ := xH Y G hp9
          refine xE ?_
          obtain ⟨r7, hr7, H⟩ := osplit H
          have F := xC Y (lex_Signs_c  r7 hr7)
          refine xR ?_
          refine w_loop (prelaw3_LexTells_b5 a2 r2 x2 r7) (fun s => [(2, .c (.d (.v (str a2)))), (11, .c (.d (.sl 11 (List.map d_Token r2.1)))), (13, .c (.d (.v (.int .i64 x2)))), (131, .c (.d (.sl 1 (List.map dS r7)))), (132, .c (.d (.v (.int .i64 s.1)))), (133, .c (.d (.v (.int .i64 s.2))))]) (fun s => []) [] H (xK ⟨[], []⟩) ?_
          rintro n3 ⟨x10, x11⟩ o3 H hF3
          rw [prelaw3_LexTells_b5] at H
          refine xS ?_
          refine xr ?_
          rcases bsplit H with ⟨hp10, H⟩ | ⟨hp10, H⟩
          · obtain ⟨F, G, hq10⟩ := xH Y G hp10
            refine xT ?_
            obtain ⟨hg6, H⟩ := gsplit H
            have F := xZ Y (map_getD dS r7 x11.toNat default default (by omega))
            refine xR ?_
            obtain ⟨r8, hr8, H⟩ := osplit H
            have F := xC Y (preref1_Signs_c  r8 hr8)
            obtain ⟨hg7, H⟩ := gsplit H
            have F := xZ F (map_getD dS r8 x11.toNat default default (by omega))
            refine xR ?_
            rcases bsplit H with ⟨hp11, H⟩ | ⟨hp11, H⟩
            · obtain ⟨F, G, hq11⟩ := xH Y G hp11
              refine xT ?_
              replace H := inrO_fin H hF3
              refine xr ?_
              cases H
              exact xN
            · obtain ⟨F, G, hq11⟩ := xH Y G hp11
              refine xE ?_
              refine xr ?_
              exact round_at (inl_fin H hF3) (xK ⟨[], []⟩)
          · obtain ⟨F, G, hq10⟩ := xH Y G hp10
            replace H := inrO_fin H hF3
            refine xE ?_
            refine xr ?_
            refine w_loop (prelaw3_LexTells_b6 a2 r2 x2) (fun s => [(2, .c (.d (.v (str a2)))), (11, .c (.d (.sl 11 (List.map d_Token r2.1)))), (13, .c (.d (.v (.int .i64 x2)))), (146, .c (.d (.v (.int .i64 s.1)))), (147, .c (.d (.v (.int .i64 s.2))))]) (fun s => []) [] H (xK ⟨[], []⟩) ?_
            rintro n4 ⟨x12, x13⟩ o4 H hF4
            rw [prelaw3_LexTells_b6] at H
            refine xS ?_
            refine xr ?_
            rcases bsplit H with ⟨hp12, H⟩ | ⟨hp12, H⟩
            · obtain ⟨F, G, hq12⟩ := xH Y G hp12
              refine xT ?_
              refine xr0 ?_
              refine then_normal ?_
              refine w_cut (prelaw3_LexTells_j7 x12 x13) (fun s => [(2, .c (.d (.v (str a2)))), (11, .c (.d (.sl 11 (List.map d_Token r2.1)))), (13, .c (.d (.v (.int .i64 x2)))), (146, .c (.d (.v (.int .i64 x12)))), (147, .c (.d (.v (.int .i64 x13)))), (169, .c (.d (.v (.bool s))))]) (fun s => []) [] o4 ?_ ?_
              · obtain ⟨hg8, H⟩ := gsplit H
                obtain ⟨r9, hr9, H⟩ := osplit H
                have F := xC Y (lex_Letter_c (a2.getD x13.toNat 0) r9 hr9)
                obtain ⟨hg9, H⟩ := gsplit H
                obtain ⟨r10, hr10, H⟩ := osplit H
                have F := xC F (preref1_Letter_c (a2.getD x13.toNat 0) r10 hr10)
                rcases bsplit H with ⟨hp14, H⟩ | ⟨hp14, H⟩
                · obtain ⟨F, G, hq14⟩ := xH F G hp14
                  refine xR ?_
                  exact cut_at H (xK ⟨[], []⟩)
                · obtain ⟨F, G, hq14⟩ := xH F G hp14
                  obtain ⟨hg10, H⟩ := gsplit H
                  obtain ⟨r11, hr11, H⟩ := osplit H
                  have F := xC F (lex_Digit_c (a2.getD x13.toNat 0) r11 hr11)
                  obtain ⟨hg11, H⟩ := gsplit H
                  obtain ⟨r12, hr12, H⟩ := osplit H
                  have F := xC F (preref1_Digit_c (a2.getD x13.toNat 0) r12 hr12)
                  refine xR ?_
                  exact cut_at H (xK ⟨[], []⟩)
              · rintro x14 H
                rw [prelaw3_LexTells_j7] at H
                rcases bsplit H with ⟨hp13, H⟩ | ⟨hp13, H⟩
                · obtain ⟨F, G, hq13⟩ := xH Y G hp13
                  refine xT ?_
                  replace H := inrO_fin H hF4
                  refine xr ?_
                  cases H
                  exact xN
                · obtain ⟨F, G, hq13⟩ := xH Y G hp13
                  refine xE ?_
                  refine xr ?_
                  exact round_at (inl_fin H hF4) (xK ⟨[], []⟩)
            · obtain ⟨F, G, hq12⟩ := xH Y G hp12
              replace H := inrO_fin H hF4
              refine xE ?_
              refine xr ?_
              cases H
              exact xN
theorem prelaw3_LexTells_c (a0 : List UInt8) (a1 : Int) (a2 : List UInt8) (a3 : List UInt8) (r : Bool) (H : prelaw3_LexTells a0 a1 a2 a3 = some r) : PC pf_prelaw3_LexTells [dS a0, dI a1, dS a2, dS a3] (dB r) := PF.c (a := (a0, a1, a2, a3)) H
end Go.Proofs.Ytgkacglpjmndbaa
