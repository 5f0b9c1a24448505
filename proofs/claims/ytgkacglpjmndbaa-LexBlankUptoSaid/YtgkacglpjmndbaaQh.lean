/- Functions of data for functions of the program: prelaw8_OriginTells. Written by dec.py. -/
import Derived.Test.YtgkacglpjmndbaaQg
namespace Go.Proofs.Ytgkacglpjmndbaa
open Go.RowKit
set_option linter.unusedVariables false
set_option linter.unusedSimpArgs false

noncomputable def prelaw8_OriginTells_j2 (x3 : Int) (x4 : Int) : ((List Int) × (List Int)) → Option (((List Int) × (List Int) × Int × Int) ⊕ Bool)
  | (x5, x6) => some (.inl (x5, x6, x3, IntKind.i64.wrap (x4 + 1)))
noncomputable def prelaw8_OriginTells_j6 (x1 : List Int) (x3 : Int) (x4 : Int) (x19 : List Int) : Bool → Option (((List Int) × (List Int) × Int × Int) ⊕ Bool)
  | x23 => if x23 = true then if (x1.length + [x4].length) * 8 ≤ 140737488355328 then prelaw8_OriginTells_j2 x3 x4 (x1 ++ [x4], x19) else none else prelaw8_OriginTells_j2 x3 x4 (x1, x19)
noncomputable def prelaw8_OriginTells_j5 (a2 : Int) (a3 : Int) (x1 : List Int) (x3 : Int) (x4 : Int) (x12 : Int) (x13 : Int) (x14 : Int) (x18 : Int) (x19 : List Int) : Bool → Option (((List Int) × (List Int) × Int × Int) ⊕ Bool)
  | x22 => if x22 = true then inrO (some false) else if (eqI x18 0) = true then if (eqI x12 a2) = true then if (leI x13 a3) = true then prelaw8_OriginTells_j6 x1 x3 x4 x19 (ltI a3 x14) else prelaw8_OriginTells_j6 x1 x3 x4 x19 false else prelaw8_OriginTells_j6 x1 x3 x4 x19 false else prelaw8_OriginTells_j6 x1 x3 x4 x19 false
noncomputable def prelaw8_OriginTells_j4 (a2 : Int) (a3 : Int) (x1 : List Int) (x3 : Int) (x4 : Int) (x12 : Int) (x13 : Int) (x14 : Int) (x18 : Int) (r3 : Int × Int) : ((List Int) × Int × Int) → Option (((List Int) × (List Int) × Int × Int) ⊕ Bool)
  | (x19, x20, x21) => if (!eqI r3.1 x20) = true then prelaw8_OriginTells_j5 a2 a3 x1 x3 x4 x12 x13 x14 x18 x19 true else prelaw8_OriginTells_j5 a2 a3 x1 x3 x4 x12 x13 x14 x18 x19 (!eqI r3.2 x21)
noncomputable def prelaw8_OriginTells_j3 (a2 : Int) (a3 : Int) (x1 : List Int) (x2 : List Int) (x3 : Int) (x4 : Int) : (Bool × Int × (List UInt8) × Bool × Bool × Int × Int × Int × Int × (List (List UInt8)) × (List Call) × Int) → Option (((List Int) × (List Int) × Int × Int) ⊕ Bool)
  | (x7, x8, x9, x10, x11, x12, x13, x14, x15, x16, x17, x18) => if x7 = true then inrO (some false) else (origin_Outer (⟨x8, x9, x10, x11, x12, x13, x14, x15, x16, x17, x18⟩ : Token)).bind fun r3 => if (ltI 0 (x17.length : Int)) = true then if 0 < x17.length then if 0 < x17.length then prelaw8_OriginTells_j4 a2 a3 x1 x3 x4 x12 x13 x14 x18 r3 (x2, (x17.getD 0 default).File, (x17.getD 0 default).At) else none else none else if (x2.length + [x4].length) * 8 ≤ 140737488355328 then prelaw8_OriginTells_j4 a2 a3 x1 x3 x4 x12 x13 x14 x18 r3 (x2 ++ [x4], x12, x13) else none
noncomputable def prelaw8_OriginTells_j7 : Bool → Option Bool
  | x24 => some x24
noncomputable def prelaw8_OriginTells_b1 (a0 : List Source) (a1 : List Token) (a2 : Int) (a3 : Int) : ((List Int) × (List Int) × Int × Int) → Option (((List Int) × (List Int) × Int × Int) ⊕ Bool)
  | (x1, x2, x3, x4) => if (ltI x4 x3) = true then if (0 : Int) ≤ x4 ∧ x4.toNat < a1.length then (origin_Span a0 (a1.getD x4.toNat default)).bind fun r1 => (preref7_Span a0 (a1.getD x4.toNat default)).bind fun r2 => if (!eqS r1.1 r2.1) = true then prelaw8_OriginTells_j3 a2 a3 x1 x2 x3 x4 (true, (a1.getD x4.toNat default).Kind, (a1.getD x4.toNat default).Text, (a1.getD x4.toNat default).Space, (a1.getD x4.toNat default).First, (a1.getD x4.toNat default).File, (a1.getD x4.toNat default).At, (a1.getD x4.toNat default).End, (a1.getD x4.toNat default).Line, (a1.getD x4.toNat default).Hide, (a1.getD x4.toNat default).Calls, (a1.getD x4.toNat default).Made) else if (!eqB r1.2 r2.2) = true then prelaw8_OriginTells_j3 a2 a3 x1 x2 x3 x4 (true, (a1.getD x4.toNat default).Kind, (a1.getD x4.toNat default).Text, (a1.getD x4.toNat default).Space, (a1.getD x4.toNat default).First, (a1.getD x4.toNat default).File, (a1.getD x4.toNat default).At, (a1.getD x4.toNat default).End, (a1.getD x4.toNat default).Line, (a1.getD x4.toNat default).Hide, (a1.getD x4.toNat default).Calls, (a1.getD x4.toNat default).Made) else (origin_Right a0 (a1.getD x4.toNat default)).bind fun r4 => (preref7_Right a0 (a1.getD x4.toNat default)).bind fun r5 => prelaw8_OriginTells_j3 a2 a3 x1 x2 x3 x4 (!eqB r4 r5, (a1.getD x4.toNat default).Kind, (a1.getD x4.toNat default).Text, (a1.getD x4.toNat default).Space, (a1.getD x4.toNat default).First, (a1.getD x4.toNat default).File, (a1.getD x4.toNat default).At, (a1.getD x4.toNat default).End, (a1.getD x4.toNat default).Line, (a1.getD x4.toNat default).Hide, (a1.getD x4.toNat default).Calls, (a1.getD x4.toNat default).Made) else none else inrO ((origin_At a1 a2 a3).bind fun r6 => (prelaw8_same r6 x1).bind fun r7 => if r7 = true then (origin_Here a1).bind fun r8 => (prelaw8_same r8 x2).bind fun r9 => prelaw8_OriginTells_j7 r9 else prelaw8_OriginTells_j7 false)
noncomputable def prelaw8_OriginTells (a0 : List Source) (a1 : List Token) (a2 : Int) (a3 : Int) : Option Bool :=
  loopO (prelaw8_OriginTells_b1 a0 a1 a2 a3) (([] : List Int), ([] : List Int), (a1.length : Int), 0)
noncomputable def pf_prelaw8_OriginTells : PF := PF.of (E4 (dL 2 d_Source) (dL 11 d_Token) dI dI) (fun a => prelaw8_OriginTells a.1 a.2.1 a.2.2.1 a.2.2.2) dB
set_option maxRecDepth 100000 in
set_option maxHeartbeats 4000000 in
theorem prelaw8_OriginTells_ok : PureOk Try.prog 6 pf_prelaw8_OriginTells := by
  refine xF mixed [(22, pf_origin_Span), (23, pf_preref7_Span), (26, pf_origin_Outer), (24, pf_origin_Right), (25, pf_preref7_Right), (28, pf_origin_At), (27, pf_prelaw8_same), (29, pf_origin_Here)] [] ⟨⟨call_22, origin_Span_ok⟩, ⟨call_23, preref7_Span_ok⟩, ⟨call_26, origin_Outer_ok⟩, ⟨call_24, origin_Right_ok⟩, ⟨call_25, preref7_Right_ok⟩, ⟨call_28, origin_At_ok⟩, ⟨call_27, prelaw8_same_ok⟩, ⟨call_29, origin_Here_ok⟩, trivial⟩ trivial Try.func6 ?_
  rintro ⟨a0, a1, a2, a3⟩ out H
  have G := True.intro
  have Y := xZ y_3 <| xZ y_4 <| xZ y_22 <| xZ y_33 <| xZ y_35 <| xZ y_37 <| xZ y_44 <| xZ Try.results6 <| xZ d_Call.eq_1 <| xZ d_Token.eq_1 <| d_Source.eq_1
  simp only [prelaw8_OriginTells] at H
  refine xS ?_
  refine xr ?_
  refine xr ?_
  refine xr ?_
  refine w_loop (prelaw8_OriginTells_b1 a0 a1 a2 a3) (fun s => [(0, .c (.d (.sl 2 (List.map d_Source a0)))), (1, .c (.d (.sl 11 (List.map d_Token a1)))), (2, .c (.d (.v (.int .i64 a2)))), (3, .c (.d (.v (.int .i64 a3)))), (9, .c (.sl 1 (List.map dI s.1) 1)), (10, .c (.sl 1 (List.map dI s.2.1) 2)), (21, .c (.d (.sl 11 (List.map d_Token a1)))), (22, .c (.d (.v (.int .i64 s.2.2.1)))), (23, .c (.d (.v (.int .i64 s.2.2.2))))]) (fun s => []) [3, 3] H (xK ⟨[], [0,0]⟩) ?_
  rintro n1 ⟨x1, x2, x3, x4⟩ o1 H hF1
  rw [prelaw8_OriginTells_b1] at H
  refine xS ?_
  refine xr ?_
  rcases bsplit H with ⟨hp1, H⟩ | ⟨hp1, H⟩
  · obtain ⟨F, G, hq1⟩ := xH Y G hp1
    refine xT0 ?_
    refine w_skip ?_
    refine then_normal ?_
    refine w_cut (prelaw8_OriginTells_j2 x3 x4) (fun s => [(0, .c (.d (.sl 2 (List.map d_Source a0)))), (1, .c (.d (.sl 11 (List.map d_Token a1)))), (2, .c (.d (.v (.int .i64 a2)))), (3, .c (.d (.v (.int .i64 a3)))), (9, .c (.sl 1 (List.map dI s.1) 1)), (10, .c (.sl 1 (List.map dI s.2) 2)), (21, .c (.d (.sl 11 (List.map d_Token a1)))), (22, .c (.d (.v (.int .i64 x3)))), (23, .c (.d (.v (.int .i64 x4))))]) (fun s => []) [3, 3] o1 ?_ ?_
    · refine xS ?_
      obtain ⟨hg1, H⟩ := gsplit H
      have F := xZ Y (map_getD d_Token a1 x4.toNat default default (by omega))
      refine xR ?_
      obtain ⟨r1, hr1, H⟩ := osplit H
      have F := xC Y (origin_Span_c a0 (a1.getD x4.toNat default) r1 hr1)
      refine xR ?_
      obtain ⟨r2, hr2, H⟩ := osplit H
      have F := xC Y (preref7_Span_c a0 (a1.getD x4.toNat default) r2 hr2)
      refine xR0 ?_
      refine then_normal ?_
      refine w_seq ?_
      refine w_cut (prelaw8_OriginTells_j3 a2 a3 x1 x2 x3 x4) (fun s => [(0, .c (.d (.sl 2 (List.map d_Source a0)))), (1, .c (.d (.sl 11 (List.map d_Token a1)))), (2, .c (.d (.v (.int .i64 a2)))), (3, .c (.d (.v (.int .i64 a3)))), (9, .c (.sl 1 (List.map dI x1) 2)), (10, .c (.sl 1 (List.map dI x2) 3)), (11, .c (.d (.v (.int .i64 x4)))), (12, .c (.pt 1 0)), (21, .c (.d (.sl 11 (List.map d_Token a1)))), (22, .c (.d (.v (.int .i64 x3)))), (23, .c (.d (.v (.int .i64 x4)))), (56, .c (.d (.v (.bool s.1))))]) (fun s => [[.d (.v (.int .i64 s.2.1)), .d (.v (str s.2.2.1)), .d (.v (.bool s.2.2.2.1)), .d (.v (.bool s.2.2.2.2.1)), .d (.v (.int .i64 s.2.2.2.2.2.1)), .d (.v (.int .i64 s.2.2.2.2.2.2.1)), .d (.v (.int .i64 s.2.2.2.2.2.2.2.1)), .d (.v (.int .i64 s.2.2.2.2.2.2.2.2.1)), .d (.sl 1 (List.map dS s.2.2.2.2.2.2.2.2.2.1)), .d (.sl 3 (List.map d_Call s.2.2.2.2.2.2.2.2.2.2.1)), .d (.v (.int .i64 s.2.2.2.2.2.2.2.2.2.2.2))]]) [3, 3] o1 ?_ ?_
      · rcases bsplit H with ⟨hp10, H⟩ | ⟨hp10, H⟩
        · obtain ⟨F, G, hq10⟩ := xH Y G hp10
          refine xR ?_
          exact cut_at H (xK ⟨[3], [1,2]⟩)
        · obtain ⟨F, G, hq10⟩ := xH Y G hp10
          rcases bsplit H with ⟨hp11, H⟩ | ⟨hp11, H⟩
          · obtain ⟨F, G, hq11⟩ := xH F G hp11
            refine xR ?_
            exact cut_at H (xK ⟨[3], [1,2]⟩)
          · obtain ⟨F, G, hq11⟩ := xH F G hp11
            obtain ⟨r4, hr4, H⟩ := osplit H
            have F := xC F (origin_Right_c a0 (a1.getD x4.toNat default) r4 hr4)
            obtain ⟨r5, hr5, H⟩ := osplit H
            have F := xC F (preref7_Right_c a0 (a1.getD x4.toNat default) r5 hr5)
            refine xR ?_
            exact cut_at H (xK ⟨[3], [1,2]⟩)
      · rintro ⟨x7, x8, x9, x10, x11, x12, x13, x14, x15, x16, x17, x18⟩ H
        rw [prelaw8_OriginTells_j3] at H
        rcases bsplit H with ⟨hp2, H⟩ | ⟨hp2, H⟩
        · obtain ⟨F, G, hq2⟩ := xH Y G hp2
          refine xT ?_
          replace H := inrO_fin H hF1
          refine xr ?_
          cases H
          exact xN
        · obtain ⟨F, G, hq2⟩ := xH Y G hp2
          refine xE ?_
          obtain ⟨r3, hr3, H⟩ := osplit H
          have F := xC Y (origin_Outer_c (⟨x8, x9, x10, x11, x12, x13, x14, x15, x16, x17, x18⟩ : Token) r3 hr3)
          refine xR ?_
          refine xr0 ?_
          refine then_normal ?_
          refine w_cut (prelaw8_OriginTells_j4 a2 a3 x1 x3 x4 x12 x13 x14 x18 r3) (fun s => [(0, .c (.d (.sl 2 (List.map d_Source a0)))), (1, .c (.d (.sl 11 (List.map d_Token a1)))), (2, .c (.d (.v (.int .i64 a2)))), (3, .c (.d (.v (.int .i64 a3)))), (9, .c (.sl 1 (List.map dI x1) 2)), (10, .c (.sl 1 (List.map dI s.1) 3)), (11, .c (.d (.v (.int .i64 x4)))), (12, .c (.pt 1 0)), (17, .c (.d (.v (.int .i64 r3.1)))), (18, .c (.d (.v (.int .i64 r3.2)))), (19, .c (.d (.v (.int .i64 s.2.1)))), (20, .c (.d (.v (.int .i64 s.2.2)))), (21, .c (.d (.sl 11 (List.map d_Token a1)))), (22, .c (.d (.v (.int .i64 x3)))), (23, .c (.d (.v (.int .i64 x4))))]) (fun s => [[.d (.v (.int .i64 x8)), .d (.v (str x9)), .d (.v (.bool x10)), .d (.v (.bool x11)), .d (.v (.int .i64 x12)), .d (.v (.int .i64 x13)), .d (.v (.int .i64 x14)), .d (.v (.int .i64 x15)), .d (.sl 1 (List.map dS x16)), .d (.sl 3 (List.map d_Call x17)), .d (.v (.int .i64 x18))]]) [3, 3] o1 ?_ ?_
          · refine xS ?_
            refine xr ?_
            rcases bsplit H with ⟨hp9, H⟩ | ⟨hp9, H⟩
            · obtain ⟨F, G, hq9⟩ := xH Y G hp9
              refine xT ?_
              obtain ⟨hg3, H⟩ := gsplit H
              have F := xZ Y (map_getD d_Call x17 0 default default (by omega))
              obtain ⟨hg4, H⟩ := gsplit H
              have F := xZ F (map_getD d_Call x17 0 default default (by omega))
              refine xR ?_
              exact cut_at H (xK ⟨[1], [2,3]⟩)
            · obtain ⟨F, G, hq9⟩ := xH Y G hp9
              refine xE ?_
              obtain ⟨hg5, H⟩ := gsplit H
              have F := xZ Y (all_map one_dI [x4])
              refine xR ?_
              exact cut_at H (xK ⟨[1], [2,4]⟩)
          · rintro ⟨x19, x20, x21⟩ H
            rw [prelaw8_OriginTells_j4] at H
            refine w_seq ?_
            refine w_cut (prelaw8_OriginTells_j5 a2 a3 x1 x3 x4 x12 x13 x14 x18 x19) (fun s => [(0, .c (.d (.sl 2 (List.map d_Source a0)))), (1, .c (.d (.sl 11 (List.map d_Token a1)))), (2, .c (.d (.v (.int .i64 a2)))), (3, .c (.d (.v (.int .i64 a3)))), (9, .c (.sl 1 (List.map dI x1) 2)), (10, .c (.sl 1 (List.map dI x19) 3)), (11, .c (.d (.v (.int .i64 x4)))), (12, .c (.pt 1 0)), (21, .c (.d (.sl 11 (List.map d_Token a1)))), (22, .c (.d (.v (.int .i64 x3)))), (23, .c (.d (.v (.int .i64 x4)))), (91, .c (.d (.v (.bool s))))]) (fun s => [[.d (.v (.int .i64 x8)), .d (.v (str x9)), .d (.v (.bool x10)), .d (.v (.bool x11)), .d (.v (.int .i64 x12)), .d (.v (.int .i64 x13)), .d (.v (.int .i64 x14)), .d (.v (.int .i64 x15)), .d (.sl 1 (List.map dS x16)), .d (.sl 3 (List.map d_Call x17)), .d (.v (.int .i64 x18))]]) [3, 3] o1 ?_ ?_
            · rcases bsplit H with ⟨hp8, H⟩ | ⟨hp8, H⟩
              · obtain ⟨F, G, hq8⟩ := xH Y G hp8
                refine xR ?_
                exact cut_at H (xK ⟨[1], [2,3]⟩)
              · obtain ⟨F, G, hq8⟩ := xH Y G hp8
                refine xR ?_
                exact cut_at H (xK ⟨[1], [2,3]⟩)
            · rintro x22 H
              rw [prelaw8_OriginTells_j5] at H
              rcases bsplit H with ⟨hp3, H⟩ | ⟨hp3, H⟩
              · obtain ⟨F, G, hq3⟩ := xH Y G hp3
                refine xT ?_
                replace H := inrO_fin H hF1
                refine xr ?_
                cases H
                exact xN
              · obtain ⟨F, G, hq3⟩ := xH Y G hp3
                refine xE0 ?_
                refine w_skip ?_
                refine then_normal ?_
                refine w_cut (prelaw8_OriginTells_j6 x1 x3 x4 x19) (fun s => [(0, .c (.d (.sl 2 (List.map d_Source a0)))), (1, .c (.d (.sl 11 (List.map d_Token a1)))), (2, .c (.d (.v (.int .i64 a2)))), (3, .c (.d (.v (.int .i64 a3)))), (9, .c (.sl 1 (List.map dI x1) 1)), (10, .c (.sl 1 (List.map dI x19) 2)), (11, .c (.d (.v (.int .i64 x4)))), (21, .c (.d (.sl 11 (List.map d_Token a1)))), (22, .c (.d (.v (.int .i64 x3)))), (23, .c (.d (.v (.int .i64 x4)))), (112, .c (.d (.v (.bool s))))]) (fun s => []) [3, 3] o1 ?_ ?_
                · rcases bsplit H with ⟨hp5, H⟩ | ⟨hp5, H⟩
                  · obtain ⟨F, G, hq5⟩ := xH Y G hp5
                    rcases bsplit H with ⟨hp6, H⟩ | ⟨hp6, H⟩
                    · obtain ⟨F, G, hq6⟩ := xH F G hp6
                      rcases bsplit H with ⟨hp7, H⟩ | ⟨hp7, H⟩
                      · obtain ⟨F, G, hq7⟩ := xH F G hp7
                        refine xR ?_
                        exact cut_at H (xK ⟨[], [2,3]⟩)
                      · obtain ⟨F, G, hq7⟩ := xH F G hp7
                        refine xR ?_
                        exact cut_at H (xK ⟨[], [2,3]⟩)
                    · obtain ⟨F, G, hq6⟩ := xH F G hp6
                      refine xR ?_
                      exact cut_at H (xK ⟨[], [2,3]⟩)
                  · obtain ⟨F, G, hq5⟩ := xH Y G hp5
                    refine xR ?_
                    exact cut_at H (xK ⟨[], [2,3]⟩)
                · rintro x23 H
                  rw [prelaw8_OriginTells_j6] at H
                  rcases bsplit H with ⟨hp4, H⟩ | ⟨hp4, H⟩
                  · obtain ⟨F, G, hq4⟩ := xH Y G hp4
                    refine xT ?_
                    obtain ⟨hg2, H⟩ := gsplit H
                    have F := xZ Y (all_map one_dI [x4])
                    refine xR ?_
                    exact cut_at H (xK ⟨[], [3,2]⟩)
                  · obtain ⟨F, G, hq4⟩ := xH Y G hp4
                    refine xE ?_
                    exact cut_at H (xK ⟨[], [1,2]⟩)
    · rintro ⟨x5, x6⟩ H
      rw [prelaw8_OriginTells_j2] at H
      refine xr ?_
      exact round_at (inl_fin H hF1) (xK ⟨[], [1,2]⟩)
  · obtain ⟨F, G, hq1⟩ := xH Y G hp1
    replace H := inrO_fin H hF1
    refine xE0 ?_
    refine w_exit ?_
    refine then_exit ?_
    refine round_exit ?_
    refine block_exit ?_
    refine then_normal ?_
    refine w_cut prelaw8_OriginTells_j7 (fun s => [(8, .c (.d (.v (.bool s))))]) (fun s => []) [] out ?_ ?_
    · obtain ⟨r6, hr6, H⟩ := osplit H
      have F := xC Y (origin_At_c a1 a2 a3 r6 hr6)
      obtain ⟨r7, hr7, H⟩ := osplit H
      have F := xC F (prelaw8_same_c r6 x1 r7 hr7)
      rcases bsplit H with ⟨hp12, H⟩ | ⟨hp12, H⟩
      · obtain ⟨F, G, hq12⟩ := xH F G hp12
        obtain ⟨r8, hr8, H⟩ := osplit H
        have F := xC F (origin_Here_c a1 r8 hr8)
        obtain ⟨r9, hr9, H⟩ := osplit H
        have F := xC F (prelaw8_same_c r8 x2 r9 hr9)
        refine xR ?_
        exact cut_at H (xK ⟨[], []⟩)
      · obtain ⟨F, G, hq12⟩ := xH F G hp12
        refine xR ?_
        exact cut_at H (xK ⟨[], []⟩)
    · rintro x24 H
      rw [prelaw8_OriginTells_j7] at H
      refine xS ?_
      cases H
      exact xN
theorem prelaw8_OriginTells_c (a0 : List Source) (a1 : List Token) (a2 : Int) (a3 : Int) (r : Bool) (H : prelaw8_OriginTells a0 a1 a2 a3 = some r) : PC pf_prelaw8_OriginTells [(dL 2 d_Source) a0, (dL 11 d_Token) a1, dI a2, dI a3] (dB r) := PF.c (a := (a0, a1, a2, a3)) H
end Go.Proofs.Ytgkacglpjmndbaa
