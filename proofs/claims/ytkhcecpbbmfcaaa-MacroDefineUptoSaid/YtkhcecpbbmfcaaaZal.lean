/- Functions of data for functions of the program. Written by dec3.py. -/
import Derived.Test.YtkhcecpbbmfcaaaZai
set_option linter.unusedVariables false
set_option linter.unusedSimpArgs false
namespace Go.Proofs.Ytkhcecpbbmfcaaa
open Go.RowKit
noncomputable def macro_params_v2_j5 (a0 : List Token) (x5 : List (List UInt8)) (x6 : Bool) : (Int × Bool) → Option ((Int × (List (List UInt8)) × Bool) ⊕ (Int × Int × Int × Int × (List (List UInt8)) × Bool))
  | (x9, x10) => if x10 = true then (macro_at a0 x9 2).bind fun r2 => inrO (some (0, r2.Err, r2.File, r2.At, x5, x6)) else some (.inl (x9, x5, x6))
noncomputable def macro_params_v2_j6 (a0 : List Token) (x5 : List (List UInt8)) (x6 : Bool) (x7 : Int) : Bool → Option ((Int × (List (List UInt8)) × Bool) ⊕ (Int × Int × Int × Int × (List (List UInt8)) × Bool))
  | x11 => if x11 = true then (macro_at a0 x7 2).bind fun r3 => inrO (some (0, r3.Err, r3.File, r3.At, x5, x6)) else some (.inl (x7, x5, x6))
noncomputable def macro_params_v2_j4 (a0 : List Token) (x5 : List (List UInt8)) (x6 : Bool) : (Int × Bool) → Option ((Int × (List (List UInt8)) × Bool) ⊕ (Int × Int × Int × Int × (List (List UInt8)) × Bool))
  | (x7, x8) => if x8 = true then if (ltI (IntKind.i64.wrap (x7 + 1)) (a0.length : Int)) = true then if (0 : Int) ≤ (IntKind.i64.wrap (x7 + 1)) ∧ (IntKind.i64.wrap (x7 + 1)).toNat < a0.length then macro_params_v2_j5 a0 x5 x6 (IntKind.i64.wrap (x7 + 1), eqS ((a0.getD ((IntKind.i64.wrap (x7 + 1)).toNat) default).Text) [41]) else none else macro_params_v2_j5 a0 x5 x6 (IntKind.i64.wrap (x7 + 1), false) else if (ltI x7 (a0.length : Int)) = true then if (0 : Int) ≤ x7 ∧ x7.toNat < a0.length then macro_params_v2_j6 a0 x5 x6 x7 (!eqS ((a0.getD x7.toNat default).Text) [41]) else none else macro_params_v2_j6 a0 x5 x6 x7 false
noncomputable def macro_params_v2_j3 (a0 : List Token) (x1 : Int) : ((List (List UInt8)) × Bool) → Option ((Int × (List (List UInt8)) × Bool) ⊕ (Int × Int × Int × Int × (List (List UInt8)) × Bool))
  | (x5, x6) => if (ltI 6 (x5.length : Int)) = true then (macro_at a0 x1 5).bind fun r1 => inrO (some (0, r1.Err, r1.File, r1.At, x5, x6)) else if (ltI (IntKind.i64.wrap (x1 + 1)) (a0.length : Int)) = true then if (0 : Int) ≤ (IntKind.i64.wrap (x1 + 1)) ∧ (IntKind.i64.wrap (x1 + 1)).toNat < a0.length then macro_params_v2_j4 a0 x5 x6 (IntKind.i64.wrap (x1 + 1), eqS ((a0.getD ((IntKind.i64.wrap (x1 + 1)).toNat) default).Text) [44]) else none else macro_params_v2_j4 a0 x5 x6 (IntKind.i64.wrap (x1 + 1), false)
noncomputable def macro_params_v2_j7 (a0 : List Token) (x1 : Int) (x2 : List (List UInt8)) (x3 : Bool) : Bool → Option ((Int × (List (List UInt8)) × Bool) ⊕ (Int × Int × Int × Int × (List (List UInt8)) × Bool))
  | x12 => if x12 = true then (macro_at a0 x1 2).bind fun r5 => inrO (some (0, r5.Err, r5.File, r5.At, x2, x3)) else if (0 : Int) ≤ x1 ∧ x1.toNat < a0.length then (slices_Contains_s_string_string x2 ((a0.getD x1.toNat default).Text)).bind fun r6 => if r6 = true then (macro_at a0 x1 7).bind fun r7 => inrO (some (0, r7.Err, r7.File, r7.At, x2, x3)) else if (0 : Int) ≤ x1 ∧ x1.toNat < a0.length then if (x2.length + [(a0.getD x1.toNat default).Text].length) * 16 ≤ 140737488355328 then macro_params_v2_j3 a0 x1 (x2 ++ [(a0.getD x1.toNat default).Text], x3) else none else none else none
noncomputable def macro_params_v2_j2 (a0 : List Token) (x1 : Int) (x2 : List (List UInt8)) (x3 : Bool) : Bool → Option ((Int × (List (List UInt8)) × Bool) ⊕ (Int × Int × Int × Int × (List (List UInt8)) × Bool))
  | x4 => if x4 = true then if x3 = true then (macro_at a0 x1 2).bind fun r4 => inrO (some (0, r4.Err, r4.File, r4.At, x2, x3)) else if (0 : Int) ≤ x1 ∧ x1.toNat < a0.length then if (eqS ((a0.getD x1.toNat default).Text) [46, 46, 46]) = true then if (x2.length + [[95, 95, 86, 65, 95, 65, 82, 71, 83, 95, 95]].length) * 16 ≤ 140737488355328 then macro_params_v2_j3 a0 x1 (x2 ++ [[95, 95, 86, 65, 95, 65, 82, 71, 83, 95, 95]], true) else none else if (0 : Int) ≤ x1 ∧ x1.toNat < a0.length then if (!eqI ((a0.getD x1.toNat default).Kind) 1) = true then macro_params_v2_j7 a0 x1 x2 x3 true else if (0 : Int) ≤ x1 ∧ x1.toNat < a0.length then macro_params_v2_j7 a0 x1 x2 x3 (eqS ((a0.getD x1.toNat default).Text) [95, 95, 86, 65, 95, 65, 82, 71, 83, 95, 95]) else none else none else none else inrO (if (eqI x1 (a0.length : Int)) = true then (macro_at a0 x1 2).bind fun r8 => some (0, r8.Err, r8.File, r8.At, x2, x3) else some (IntKind.i64.wrap (x1 + 1), 0, (-1), 0, x2, x3))
noncomputable def macro_params_v2_b1 (a0 : List Token) : (Int × (List (List UInt8)) × Bool) → Option ((Int × (List (List UInt8)) × Bool) ⊕ (Int × Int × Int × Int × (List (List UInt8)) × Bool))
  | (x1, x2, x3) => if (ltI x1 (a0.length : Int)) = true then if (0 : Int) ≤ x1 ∧ x1.toNat < a0.length then macro_params_v2_j2 a0 x1 x2 x3 (!eqS ((a0.getD x1.toNat default).Text) [41]) else none else macro_params_v2_j2 a0 x1 x2 x3 false
noncomputable def macro_params_v2 (a0 : List Token) (a1 : Int) (a2 : List UInt8) (a3 : Bool) (a4 : List (List UInt8)) (a5 : Bool) (a6 : List Token) : Option (Int × Int × Int × Int × (List (List UInt8)) × Bool) :=
  loopO (macro_params_v2_b1 a0) (a1, a4, a5)
def g_macro_params_v2 (a0 : List Token) (a1 : Int) (a2 : List UInt8) (a3 : Bool) (a4 : List (List UInt8)) (a5 : Bool) (a6 : List Token) (r : (Int × Int × Int × Int × (List (List UInt8)) × Bool)) : GI :=
  ⟨[.c (.d (.sl 11 (List.map d_Token a0))), .c (.d (.v (.int .i64 a1))), .c (.pt 1 0)], [[.d (.v (str a2)), .d (.v (.bool a3)), .sl 1 (List.map dS a4) 2, .d (.v (.bool a5)), .sl 11 (List.map d_Token a6) 3]], [9, 45], .ret (.tu [(false, [.d (.v (.int .i64 r.1))]), (true, [.d (.v (.int .i64 r.2.1)), .d (.v (.int .i64 r.2.2.1)), .d (.v (.int .i64 r.2.2.2.1))])]) [[.d (.v (str a2)), .d (.v (.bool a3)), .sl 1 (List.map dS r.2.2.2.2.1) 2, .d (.v (.bool r.2.2.2.2.2)), .sl 11 (List.map d_Token a6) 3]] [9, 45]⟩
def S_macro_params_v2 : GI → Prop := fun g => ∃ (a0 : List Token) (a1 : Int) (a2 : List UInt8) (a3 : Bool) (a4 : List (List UInt8)) (a5 : Bool) (a6 : List Token) (r : (Int × Int × Int × Int × (List (List UInt8)) × Bool)), macro_params_v2 a0 a1 a2 a3 a4 a5 a6 = some r ∧ g = g_macro_params_v2 a0 a1 a2 a3 a4 a5 a6 r
theorem macro_params_v2_c (a0 : List Token) (a1 : Int) (a2 : List UInt8) (a3 : Bool) (a4 : List (List UInt8)) (a5 : Bool) (a6 : List Token) (r : (Int × Int × Int × Int × (List (List UInt8)) × Bool)) (H : macro_params_v2 a0 a1 a2 a3 a4 a5 a6 = some r) : S_macro_params_v2 (g_macro_params_v2 a0 a1 a2 a3 a4 a5 a6 r) := ⟨a0, a1, a2, a3, a4, a5, a6, r, H, rfl⟩
set_option maxRecDepth 100000 in
set_option maxHeartbeats 4000000 in
theorem macro_params_v2_ok : ∀ g, S_macro_params_v2 g → GenOk Try.prog 43 g := by
  rintro _ ⟨a0, a1, a2, a3, a4, a5, a6, r, H, rfl⟩
  refine xGn mixed [(42, pf_macro_at), (72, pf_slices_Contains_s_string_string)] [] [] ⟨⟨call_42, macro_at_ok⟩, ⟨call_72, slices_Contains_s_string_string_ok⟩, trivial⟩ trivial trivial Try.func43 _ ?_
  have G := True.intro
  have Y := xZ y_3 <| xZ y_4 <| xZ y_9 <| xZ y_22 <| xZ y_24 <| xZ y_28 <| xZ y_30 <| xZ y_32 <| xZ y_45 <| xZ Try.results43 <| xZ d_Call.eq_1 <| xZ d_Token.eq_1 <| xZ d_Fault.eq_1 <| xZ d_Macro.eq_1 <| g_macro_params_v2.eq_1
  dsimp only [g_macro_params_v2]
  simp only [macro_params_v2] at H
  refine xS ?_
  refine xr ?_
  refine w_loop (macro_params_v2_b1 a0) (fun s => [(0, .c (.d (.sl 11 (List.map d_Token a0)))), (1, .c (.d (.v (.int .i64 s.1)))), (2, .c (.pt 1 0)), (7, .c (.pt 2 0))]) (fun s => [[.d (.v (str a2)), .d (.v (.bool a3)), .sl 1 (List.map dS s.2.1) 3, .d (.v (.bool s.2.2)), .sl 11 (List.map d_Token a6) 4], [.d (.v (.int .i64 0)), .d (.v (.int .i64 0)), .d (.v (.int .i64 0))]]) [9, 45] H (xK ⟨[1,4], [2,3]⟩) ?_
  rintro n1 ⟨x1, x2, x3⟩ o1 H hF1
  rw [macro_params_v2_b1] at H
  refine w_seq ?_
  refine w_cut (macro_params_v2_j2 a0 x1 x2 x3) (fun s => [(0, .c (.d (.sl 11 (List.map d_Token a0)))), (1, .c (.d (.v (.int .i64 x1)))), (2, .c (.pt 1 0)), (7, .c (.pt 2 0)), (19, .c (.d (.v (.bool s))))]) (fun s => [[.d (.v (str a2)), .d (.v (.bool a3)), .sl 1 (List.map dS x2) 3, .d (.v (.bool x3)), .sl 11 (List.map d_Token a6) 4], [.d (.v (.int .i64 0)), .d (.v (.int .i64 0)), .d (.v (.int .i64 0))]]) [9, 45] o1 ?_ ?_
  · rcases bsplit H with ⟨hp15, H⟩ | ⟨hp15, H⟩
    · obtain ⟨F, G, hq15⟩ := xH Y G hp15
      obtain ⟨hg11, H⟩ := gsplit H
      have F := xZ F (map_getD d_Token a0 x1.toNat default default (by omega))
      refine xR ?_
      exact cut_at H (xK ⟨[1,2], [3,4]⟩)
    · obtain ⟨F, G, hq15⟩ := xH Y G hp15
      refine xR ?_
      exact cut_at H (xK ⟨[1,2], [3,4]⟩)
  · rintro x4 H
    rw [macro_params_v2_j2] at H
    rcases bsplit H with ⟨hp1, H⟩ | ⟨hp1, H⟩
    · obtain ⟨F, G, hq1⟩ := xH Y G hp1
      refine xT0 ?_
      refine w_skip ?_
      refine then_normal ?_
      refine w_block ?_
      refine w_cut (macro_params_v2_j3 a0 x1) (fun s => [(0, .c (.d (.sl 11 (List.map d_Token a0)))), (1, .c (.d (.v (.int .i64 x1)))), (2, .c (.pt 1 0)), (7, .c (.pt 2 0))]) (fun s => [[.d (.v (str a2)), .d (.v (.bool a3)), .sl 1 (List.map dS s.1) 3, .d (.v (.bool s.2)), .sl 11 (List.map d_Token a6) 4], [.d (.v (.int .i64 0)), .d (.v (.int .i64 0)), .d (.v (.int .i64 0))]]) [9, 45] o1 ?_ ?_
      · refine xS ?_
        refine xr ?_
        rcases bsplit H with ⟨hp9, H⟩ | ⟨hp9, H⟩
        · obtain ⟨F, G, hq9⟩ := xH Y G hp9
          refine xT ?_
          obtain ⟨r4, hr4, H⟩ := osplit H
          have F := xC Y (macro_at_c a0 x1 2 r4 hr4)
          replace H := inrO_fin H hF1
          replace H := Option.some.inj H
          refine xR ?_
          subst H
          refine xOr ?_
          refine qDf [] ?_
          exact xO ⟨[1], [3, 4]⟩
        · obtain ⟨F, G, hq9⟩ := xH Y G hp9
          refine xE ?_
          obtain ⟨hg4, H⟩ := gsplit H
          have F := xZ Y (map_getD d_Token a0 x1.toNat default default (by omega))
          refine xR ?_
          rcases bsplit H with ⟨hp10, H⟩ | ⟨hp10, H⟩
          · obtain ⟨F, G, hq10⟩ := xH Y G hp10
            refine xT ?_
            refine xr ?_
            obtain ⟨hg5, H⟩ := gsplit H
            have F := xZ Y (all_map one_dS [[95, 95, 86, 65, 95, 65, 82, 71, 83, 95, 95]])
            refine xR ?_
            exact cut_at H (xK ⟨[1,2], [5,4]⟩)
          · obtain ⟨F, G, hq10⟩ := xH Y G hp10
            refine xE0 ?_
            refine w_cut (macro_params_v2_j7 a0 x1 x2 x3) (fun s => [(0, .c (.d (.sl 11 (List.map d_Token a0)))), (1, .c (.d (.v (.int .i64 x1)))), (2, .c (.pt 1 0)), (7, .c (.pt 2 0)), (61, .c (.d (.v (.bool s))))]) (fun s => [[.d (.v (str a2)), .d (.v (.bool a3)), .sl 1 (List.map dS x2) 3, .d (.v (.bool x3)), .sl 11 (List.map d_Token a6) 4], [.d (.v (.int .i64 0)), .d (.v (.int .i64 0)), .d (.v (.int .i64 0))]]) [9, 45] o1 ?_ ?_
            · obtain ⟨hg9, H⟩ := gsplit H
              have F := xZ Y (map_getD d_Token a0 x1.toNat default default (by omega))
              rcases bsplit H with ⟨hp13, H⟩ | ⟨hp13, H⟩
              · obtain ⟨F, G, hq13⟩ := xH F G hp13
                refine xR ?_
                exact cut_at H (xK ⟨[1,2], [3,4]⟩)
              · obtain ⟨F, G, hq13⟩ := xH F G hp13
                obtain ⟨hg10, H⟩ := gsplit H
                have F := xZ F (map_getD d_Token a0 x1.toNat default default (by omega))
                refine xR ?_
                exact cut_at H (xK ⟨[1,2], [3,4]⟩)
            · rintro x12 H
              rw [macro_params_v2_j7] at H
              rcases bsplit H with ⟨hp11, H⟩ | ⟨hp11, H⟩
              · obtain ⟨F, G, hq11⟩ := xH Y G hp11
                refine xT ?_
                obtain ⟨r5, hr5, H⟩ := osplit H
                have F := xC Y (macro_at_c a0 x1 2 r5 hr5)
                replace H := inrO_fin H hF1
                replace H := Option.some.inj H
                refine xR ?_
                subst H
                refine xOr ?_
                refine qDf [] ?_
                exact xO ⟨[1], [3, 4]⟩
              · obtain ⟨F, G, hq11⟩ := xH Y G hp11
                refine xE ?_
                obtain ⟨hg6, H⟩ := gsplit H
                have F := xZ Y (map_getD d_Token a0 x1.toNat default default (by omega))
                obtain ⟨r6, hr6, H⟩ := osplit H
                have F := xCf F (slices_Contains_s_string_string_c x2 ((a0.getD x1.toNat default).Text) r6 hr6)
                refine xR ?_
                rcases bsplit H with ⟨hp12, H⟩ | ⟨hp12, H⟩
                · obtain ⟨F, G, hq12⟩ := xH Y G hp12
                  refine xT ?_
                  obtain ⟨r7, hr7, H⟩ := osplit H
                  have F := xC Y (macro_at_c a0 x1 7 r7 hr7)
                  replace H := inrO_fin H hF1
                  replace H := Option.some.inj H
                  refine xR ?_
                  subst H
                  refine xOr ?_
                  refine qDf [] ?_
                  exact xO ⟨[1], [3, 4]⟩
                · obtain ⟨F, G, hq12⟩ := xH Y G hp12
                  refine xE ?_
                  obtain ⟨hg7, H⟩ := gsplit H
                  have F := xZ Y (map_getD d_Token a0 x1.toNat default default (by omega))
                  obtain ⟨hg8, H⟩ := gsplit H
                  have F := xZ F (all_map one_dS [(a0.getD x1.toNat default).Text])
                  refine xR ?_
                  exact cut_at H (xK ⟨[1,2], [5,4]⟩)
      · rintro ⟨x5, x6⟩ H
        rw [macro_params_v2_j3] at H
        refine xS ?_
        refine xr ?_
        rcases bsplit H with ⟨hp2, H⟩ | ⟨hp2, H⟩
        · obtain ⟨F, G, hq2⟩ := xH Y G hp2
          refine xT ?_
          obtain ⟨r1, hr1, H⟩ := osplit H
          have F := xC Y (macro_at_c a0 x1 5 r1 hr1)
          replace H := inrO_fin H hF1
          replace H := Option.some.inj H
          refine xR ?_
          subst H
          refine xOr ?_
          refine qDf [] ?_
          exact xO ⟨[1], [3, 4]⟩
        · obtain ⟨F, G, hq2⟩ := xH Y G hp2
          refine xE ?_
          refine xr0 ?_
          refine then_normal ?_
          refine w_cut (macro_params_v2_j4 a0 x5 x6) (fun s => [(0, .c (.d (.sl 11 (List.map d_Token a0)))), (1, .c (.d (.v (.int .i64 s.1)))), (2, .c (.pt 1 0)), (7, .c (.pt 2 0)), (115, .c (.d (.v (.bool s.2))))]) (fun s => [[.d (.v (str a2)), .d (.v (.bool a3)), .sl 1 (List.map dS x5) 3, .d (.v (.bool x6)), .sl 11 (List.map d_Token a6) 4], [.d (.v (.int .i64 0)), .d (.v (.int .i64 0)), .d (.v (.int .i64 0))]]) [9, 45] o1 ?_ ?_
          · rcases bsplit H with ⟨hp8, H⟩ | ⟨hp8, H⟩
            · obtain ⟨F, G, hq8⟩ := xH Y G hp8
              obtain ⟨hg3, H⟩ := gsplit H
              have F := xZ F (map_getD d_Token a0 ((IntKind.i64.wrap (x1 + 1)).toNat) default default (by omega))
              refine xR ?_
              exact cut_at H (xK ⟨[1,2], [3,4]⟩)
            · obtain ⟨F, G, hq8⟩ := xH Y G hp8
              refine xR ?_
              exact cut_at H (xK ⟨[1,2], [3,4]⟩)
          · rintro ⟨x7, x8⟩ H
            rw [macro_params_v2_j4] at H
            rcases bsplit H with ⟨hp3, H⟩ | ⟨hp3, H⟩
            · obtain ⟨F, G, hq3⟩ := xH Y G hp3
              refine xT ?_
              refine xr0 ?_
              refine then_normal ?_
              refine w_cut (macro_params_v2_j5 a0 x5 x6) (fun s => [(0, .c (.d (.sl 11 (List.map d_Token a0)))), (1, .c (.d (.v (.int .i64 s.1)))), (2, .c (.pt 1 0)), (7, .c (.pt 2 0)), (129, .c (.d (.v (.bool s.2))))]) (fun s => [[.d (.v (str a2)), .d (.v (.bool a3)), .sl 1 (List.map dS x5) 3, .d (.v (.bool x6)), .sl 11 (List.map d_Token a6) 4], [.d (.v (.int .i64 0)), .d (.v (.int .i64 0)), .d (.v (.int .i64 0))]]) [9, 45] o1 ?_ ?_
              · rcases bsplit H with ⟨hp5, H⟩ | ⟨hp5, H⟩
                · obtain ⟨F, G, hq5⟩ := xH Y G hp5
                  obtain ⟨hg1, H⟩ := gsplit H
                  have F := xZ F (map_getD d_Token a0 ((IntKind.i64.wrap (x7 + 1)).toNat) default default (by omega))
                  refine xR ?_
                  exact cut_at H (xK ⟨[1,2], [3,4]⟩)
                · obtain ⟨F, G, hq5⟩ := xH Y G hp5
                  refine xR ?_
                  exact cut_at H (xK ⟨[1,2], [3,4]⟩)
              · rintro ⟨x9, x10⟩ H
                rw [macro_params_v2_j5] at H
                rcases bsplit H with ⟨hp4, H⟩ | ⟨hp4, H⟩
                · obtain ⟨F, G, hq4⟩ := xH Y G hp4
                  refine xT ?_
                  obtain ⟨r2, hr2, H⟩ := osplit H
                  have F := xC Y (macro_at_c a0 x9 2 r2 hr2)
                  replace H := inrO_fin H hF1
                  replace H := Option.some.inj H
                  refine xR ?_
                  subst H
                  refine xOr ?_
                  refine qDf [] ?_
                  exact xO ⟨[1], [3, 4]⟩
                · obtain ⟨F, G, hq4⟩ := xH Y G hp4
                  refine xE ?_
                  exact round_at (inl_fin H hF1) (xK ⟨[1,2], [3,4]⟩)
            · obtain ⟨F, G, hq3⟩ := xH Y G hp3
              refine xE0 ?_
              refine w_cut (macro_params_v2_j6 a0 x5 x6 x7) (fun s => [(0, .c (.d (.sl 11 (List.map d_Token a0)))), (1, .c (.d (.v (.int .i64 x7)))), (2, .c (.pt 1 0)), (7, .c (.pt 2 0)), (144, .c (.d (.v (.bool s))))]) (fun s => [[.d (.v (str a2)), .d (.v (.bool a3)), .sl 1 (List.map dS x5) 3, .d (.v (.bool x6)), .sl 11 (List.map d_Token a6) 4], [.d (.v (.int .i64 0)), .d (.v (.int .i64 0)), .d (.v (.int .i64 0))]]) [9, 45] o1 ?_ ?_
              · rcases bsplit H with ⟨hp7, H⟩ | ⟨hp7, H⟩
                · obtain ⟨F, G, hq7⟩ := xH Y G hp7
                  obtain ⟨hg2, H⟩ := gsplit H
                  have F := xZ F (map_getD d_Token a0 x7.toNat default default (by omega))
                  refine xR ?_
                  exact cut_at H (xK ⟨[1,2], [3,4]⟩)
                · obtain ⟨F, G, hq7⟩ := xH Y G hp7
                  refine xR ?_
                  exact cut_at H (xK ⟨[1,2], [3,4]⟩)
              · rintro x11 H
                rw [macro_params_v2_j6] at H
                rcases bsplit H with ⟨hp6, H⟩ | ⟨hp6, H⟩
                · obtain ⟨F, G, hq6⟩ := xH Y G hp6
                  refine xT ?_
                  obtain ⟨r3, hr3, H⟩ := osplit H
                  have F := xC Y (macro_at_c a0 x7 2 r3 hr3)
                  replace H := inrO_fin H hF1
                  replace H := Option.some.inj H
                  refine xR ?_
                  subst H
                  refine xOr ?_
                  refine qDf [] ?_
                  exact xO ⟨[1], [3, 4]⟩
                · obtain ⟨F, G, hq6⟩ := xH Y G hp6
                  refine xE ?_
                  exact round_at (inl_fin H hF1) (xK ⟨[1,2], [3,4]⟩)
    · obtain ⟨F, G, hq1⟩ := xH Y G hp1
      replace H := inrO_fin H hF1
      refine xE ?_
      refine xr ?_
      rcases bsplit H with ⟨hp14, H⟩ | ⟨hp14, H⟩
      · obtain ⟨F, G, hq14⟩ := xH Y G hp14
        refine xT ?_
        obtain ⟨r8, hr8, H⟩ := osplit H
        have F := xC Y (macro_at_c a0 x1 2 r8 hr8)
        replace H := Option.some.inj H
        refine xR ?_
        subst H
        refine xOr ?_
        refine qDf [] ?_
        exact xO ⟨[1], [3, 4]⟩
      · obtain ⟨F, G, hq14⟩ := xH Y G hp14
        refine xE ?_
        replace H := Option.some.inj H
        refine xr ?_
        subst H
        refine xOr ?_
        refine qDf [] ?_
        exact xO ⟨[1], [3, 4]⟩
theorem macro_params_v2_k : Callable Try.prog 43 ∧ (∀ g, S_macro_params_v2 g → GenOk Try.prog 43 g) ∧ (true = true → ∀ g, S_macro_params_v2 g → ∃ val bs ts, g.out = .ret val bs ts) :=
  ⟨call_43, macro_params_v2_ok, fun _ => by rintro _ ⟨_, _, _, _, _, _, _, _, _, rfl⟩; exact ⟨_, _, _, rfl⟩⟩
noncomputable def macro_body_j2 (x1 : Int) (x2 : Int) : Unit → Option ((Int × Int) ⊕ (Int × Int × Int))
  | () => some (.inl (x1, IntKind.i64.wrap (x2 + 1)))
noncomputable def macro_body_j3 (a4 : List Token) (x1 : Int) (x2 : Int) : Bool → Option ((Int × Int) ⊕ (Int × Int × Int))
  | x3 => if x3 = true then (macro_at a4 x2 7).bind fun r1 => inrO (some (r1.Err, r1.File, r1.At)) else macro_body_j2 x1 x2 ()
noncomputable def macro_body_j5 (a4 : List Token) (x1 : Int) (x2 : Int) : Bool → Option ((Int × Int) ⊕ (Int × Int × Int))
  | x16 => if x16 = true then (macro_at a4 x2 2).bind fun r3 => inrO (some (r3.Err, r3.File, r3.At)) else macro_body_j2 x1 x2 ()
noncomputable def macro_body_j4 (a1 : Bool) (a2 : List (List UInt8)) (a4 : List Token) (x1 : Int) (x2 : Int) : (Bool × Int × (List UInt8) × Bool × Bool × Int × Int × Int × Int × (List (List UInt8)) × (List Call) × Int) → Option ((Int × Int) ⊕ (Int × Int × Int))
  | (x4, x5, x6, x7, x8, x9, x10, x11, x12, x13, x14, x15) => if x4 = true then (macro_at a4 x2 2).bind fun r2 => inrO (some (r2.Err, r2.File, r2.At)) else if (eqS x6 [35]) = true then if a1 = true then if (eqI x2 (IntKind.i64.wrap ((a4.length : Int) - 1))) = true then macro_body_j5 a4 x1 x2 true else if (0 : Int) ≤ (IntKind.i64.wrap (x2 + 1)) ∧ (IntKind.i64.wrap (x2 + 1)).toNat < a4.length then (slices_Contains_s_string_string a2 ((a4.getD ((IntKind.i64.wrap (x2 + 1)).toNat) default).Text)).bind fun r4 => macro_body_j5 a4 x1 x2 (!r4) else none else macro_body_j5 a4 x1 x2 false else macro_body_j5 a4 x1 x2 false
noncomputable def macro_body_b1 (a1 : Bool) (a2 : List (List UInt8)) (a3 : Bool) (a4 : List Token) : (Int × Int) → Option ((Int × Int) ⊕ (Int × Int × Int))
  | (x1, x2) => if (ltI x2 x1) = true then if (0 : Int) ≤ x2 ∧ x2.toNat < a4.length then if (!eqI ((a4.getD x2.toNat default).Kind) 5) = true then if (eqS ((a4.getD x2.toNat default).Text) [95, 95, 86, 65, 95, 65, 82, 71, 83, 95, 95]) = true then macro_body_j3 a4 x1 x2 (!a3) else macro_body_j3 a4 x1 x2 false else if (eqS ((a4.getD x2.toNat default).Text) [35, 35]) = true then if (eqI x2 0) = true then macro_body_j4 a1 a2 a4 x1 x2 (true, (a4.getD x2.toNat default).Kind, (a4.getD x2.toNat default).Text, (a4.getD x2.toNat default).Space, (a4.getD x2.toNat default).First, (a4.getD x2.toNat default).File, (a4.getD x2.toNat default).At, (a4.getD x2.toNat default).End, (a4.getD x2.toNat default).Line, (a4.getD x2.toNat default).Hide, (a4.getD x2.toNat default).Calls, (a4.getD x2.toNat default).Made) else macro_body_j4 a1 a2 a4 x1 x2 (eqI x2 (IntKind.i64.wrap ((a4.length : Int) - 1)), (a4.getD x2.toNat default).Kind, (a4.getD x2.toNat default).Text, (a4.getD x2.toNat default).Space, (a4.getD x2.toNat default).First, (a4.getD x2.toNat default).File, (a4.getD x2.toNat default).At, (a4.getD x2.toNat default).End, (a4.getD x2.toNat default).Line, (a4.getD x2.toNat default).Hide, (a4.getD x2.toNat default).Calls, (a4.getD x2.toNat default).Made) else macro_body_j4 a1 a2 a4 x1 x2 (false, (a4.getD x2.toNat default).Kind, (a4.getD x2.toNat default).Text, (a4.getD x2.toNat default).Space, (a4.getD x2.toNat default).First, (a4.getD x2.toNat default).File, (a4.getD x2.toNat default).At, (a4.getD x2.toNat default).End, (a4.getD x2.toNat default).Line, (a4.getD x2.toNat default).Hide, (a4.getD x2.toNat default).Calls, (a4.getD x2.toNat default).Made) else none else inrO (some (0, (-1), 0))
noncomputable def macro_body (a0 : List UInt8) (a1 : Bool) (a2 : List (List UInt8)) (a3 : Bool) (a4 : List Token) : Option (Int × Int × Int) :=
  loopO (macro_body_b1 a1 a2 a3 a4) ((a4.length : Int), 0)
def g_macro_body (a0 : List UInt8) (a1 : Bool) (a2 : List (List UInt8)) (a3 : Bool) (a4 : List Token) (r : (Int × Int × Int)) : GI :=
  ⟨[.c (.pt 1 0)], [[.d (.v (str a0)), .d (.v (.bool a1)), .sl 1 (List.map dS a2) 2, .d (.v (.bool a3)), .sl 11 (List.map d_Token a4) 3]], [9, 45], .ret (.ag [.d (.v (.int .i64 r.1)), .d (.v (.int .i64 r.2.1)), .d (.v (.int .i64 r.2.2))]) [[.d (.v (str a0)), .d (.v (.bool a1)), .sl 1 (List.map dS a2) 2, .d (.v (.bool a3)), .sl 11 (List.map d_Token a4) 3]] [9, 45]⟩
def S_macro_body : GI → Prop := fun g => ∃ (a0 : List UInt8) (a1 : Bool) (a2 : List (List UInt8)) (a3 : Bool) (a4 : List Token) (r : (Int × Int × Int)), macro_body a0 a1 a2 a3 a4 = some r ∧ g = g_macro_body a0 a1 a2 a3 a4 r
theorem macro_body_c (a0 : List UInt8) (a1 : Bool) (a2 : List (List UInt8)) (a3 : Bool) (a4 : List Token) (r : (Int × Int × Int)) (H : macro_body a0 a1 a2 a3 a4 = some r) : S_macro_body (g_macro_body a0 a1 a2 a3 a4 r) := ⟨a0, a1, a2, a3, a4, r, H, rfl⟩
set_option maxRecDepth 100000 in
set_option maxHeartbeats 4000000 in
theorem macro_body_ok : ∀ g, S_macro_body g → GenOk Try.prog 44 g := by
  rintro _ ⟨a0, a1, a2, a3, a4, r, H, rfl⟩
  refine xGn mixed [(42, pf_macro_at), (72, pf_slices_Contains_s_string_string)] [] [] ⟨⟨call_42, macro_at_ok⟩, ⟨call_72, slices_Contains_s_string_string_ok⟩, trivial⟩ trivial trivial Try.func44 _ ?_
  have G := True.intro
  have Y := xZ y_3 <| xZ y_4 <| xZ y_9 <| xZ y_22 <| xZ y_24 <| xZ y_28 <| xZ y_30 <| xZ y_32 <| xZ y_45 <| xZ Try.results44 <| xZ d_Call.eq_1 <| xZ d_Token.eq_1 <| xZ d_Fault.eq_1 <| xZ d_Macro.eq_1 <| g_macro_body.eq_1
  dsimp only [g_macro_body]
  simp only [macro_body] at H
  refine xS ?_
  refine xr ?_
  refine xr ?_
  refine w_loop (macro_body_b1 a1 a2 a3 a4) (fun s => [(0, .c (.pt 1 0)), (2, .c (.pt 2 0)), (8, .c (.d (.sl 11 (List.map d_Token a4)))), (9, .c (.d (.v (.int .i64 s.1)))), (10, .c (.d (.v (.int .i64 s.2))))]) (fun s => [[.d (.v (str a0)), .d (.v (.bool a1)), .sl 1 (List.map dS a2) 3, .d (.v (.bool a3)), .sl 11 (List.map d_Token a4) 4], [.d (.v (.int .i64 0)), .d (.v (.int .i64 0)), .d (.v (.int .i64 0))]]) [9, 45] H (xK ⟨[1,4], [2,3]⟩) ?_
  rintro n1 ⟨x1, x2⟩ o1 H hF1
  rw [macro_body_b1] at H
  refine xS ?_
  refine xr ?_
  rcases bsplit H with ⟨hp1, H⟩ | ⟨hp1, H⟩
  · obtain ⟨F, G, hq1⟩ := xH Y G hp1
    refine xT0 ?_
    refine w_skip ?_
    refine then_normal ?_
    refine w_cut (macro_body_j2 x1 x2) (fun s => [(0, .c (.pt 1 0)), (2, .c (.pt 2 0)), (8, .c (.d (.sl 11 (List.map d_Token a4)))), (9, .c (.d (.v (.int .i64 x1)))), (10, .c (.d (.v (.int .i64 x2))))]) (fun s => [[.d (.v (str a0)), .d (.v (.bool a1)), .sl 1 (List.map dS a2) 3, .d (.v (.bool a3)), .sl 11 (List.map d_Token a4) 4], [.d (.v (.int .i64 0)), .d (.v (.int .i64 0)), .d (.v (.int .i64 0))]]) [9, 45] o1 ?_ ?_
    · refine xS ?_
      obtain ⟨hg1, H⟩ := gsplit H
      have F := xZ Y (map_getD d_Token a4 x2.toNat default default (by omega))
      refine xR ?_
      refine xr ?_
      rcases bsplit H with ⟨hp2, H⟩ | ⟨hp2, H⟩
      · obtain ⟨F, G, hq2⟩ := xH Y G hp2
        refine xT0 ?_
        refine w_seq ?_
        refine w_cut (macro_body_j3 a4 x1 x2) (fun s => [(0, .c (.pt 1 0)), (2, .c (.pt 2 0)), (3, .c (.d (.v (.int .i64 x2)))), (8, .c (.d (.sl 11 (List.map d_Token a4)))), (9, .c (.d (.v (.int .i64 x1)))), (10, .c (.d (.v (.int .i64 x2)))), (27, .c (.d (.v (.bool s))))]) (fun s => [[.d (.v (str a0)), .d (.v (.bool a1)), .sl 1 (List.map dS a2) 3, .d (.v (.bool a3)), .sl 11 (List.map d_Token a4) 4], [.d (.v (.int .i64 0)), .d (.v (.int .i64 0)), .d (.v (.int .i64 0))]]) [9, 45] o1 ?_ ?_
        · rcases bsplit H with ⟨hp4, H⟩ | ⟨hp4, H⟩
          · obtain ⟨F, G, hq4⟩ := xH Y G hp4
            refine xR ?_
            exact cut_at H (xK ⟨[1,2], [3,4]⟩)
          · obtain ⟨F, G, hq4⟩ := xH Y G hp4
            refine xR ?_
            exact cut_at H (xK ⟨[1,2], [3,4]⟩)
        · rintro x3 H
          rw [macro_body_j3] at H
          rcases bsplit H with ⟨hp3, H⟩ | ⟨hp3, H⟩
          · obtain ⟨F, G, hq3⟩ := xH Y G hp3
            refine xT ?_
            obtain ⟨r1, hr1, H⟩ := osplit H
            have F := xC Y (macro_at_c a4 x2 7 r1 hr1)
            replace H := inrO_fin H hF1
            replace H := Option.some.inj H
            refine xR ?_
            subst H
            refine xOr ?_
            refine qDf [] ?_
            exact xO ⟨[1], [3, 4]⟩
          · obtain ⟨F, G, hq3⟩ := xH Y G hp3
            refine xE ?_
            exact cut_at H (xK ⟨[1,2], [3,4]⟩)
      · obtain ⟨F, G, hq2⟩ := xH Y G hp2
        refine xE0 ?_
        refine w_skip ?_
        refine then_normal ?_
        refine w_block ?_
        refine w_cut (macro_body_j4 a1 a2 a4 x1 x2) (fun s => [(0, .c (.pt 1 0)), (2, .c (.pt 2 0)), (3, .c (.d (.v (.int .i64 x2)))), (4, .c (.pt 3 0)), (8, .c (.d (.sl 11 (List.map d_Token a4)))), (9, .c (.d (.v (.int .i64 x1)))), (10, .c (.d (.v (.int .i64 x2)))), (34, .c (.d (.v (.bool s.1))))]) (fun s => [[.d (.v (str a0)), .d (.v (.bool a1)), .sl 1 (List.map dS a2) 4, .d (.v (.bool a3)), .sl 11 (List.map d_Token a4) 5], [.d (.v (.int .i64 0)), .d (.v (.int .i64 0)), .d (.v (.int .i64 0))], [.d (.v (.int .i64 s.2.1)), .d (.v (str s.2.2.1)), .d (.v (.bool s.2.2.2.1)), .d (.v (.bool s.2.2.2.2.1)), .d (.v (.int .i64 s.2.2.2.2.2.1)), .d (.v (.int .i64 s.2.2.2.2.2.2.1)), .d (.v (.int .i64 s.2.2.2.2.2.2.2.1)), .d (.v (.int .i64 s.2.2.2.2.2.2.2.2.1)), .d (.sl 1 (List.map dS s.2.2.2.2.2.2.2.2.2.1)), .d (.sl 3 (List.map d_Call s.2.2.2.2.2.2.2.2.2.2.1)), .d (.v (.int .i64 s.2.2.2.2.2.2.2.2.2.2.2))]]) [9, 45] o1 ?_ ?_
        · rcases bsplit H with ⟨hp10, H⟩ | ⟨hp10, H⟩
          · obtain ⟨F, G, hq10⟩ := xH Y G hp10
            rcases bsplit H with ⟨hp11, H⟩ | ⟨hp11, H⟩
            · obtain ⟨F, G, hq11⟩ := xH F G hp11
              refine xR ?_
              exact cut_at H (xK ⟨[1,2,5], [3,4]⟩)
            · obtain ⟨F, G, hq11⟩ := xH F G hp11
              refine xR ?_
              exact cut_at H (xK ⟨[1,2,5], [3,4]⟩)
          · obtain ⟨F, G, hq10⟩ := xH Y G hp10
            refine xR ?_
            exact cut_at H (xK ⟨[1,2,5], [3,4]⟩)
        · rintro ⟨x4, x5, x6, x7, x8, x9, x10, x11, x12, x13, x14, x15⟩ H
          rw [macro_body_j4] at H
          rcases bsplit H with ⟨hp5, H⟩ | ⟨hp5, H⟩
          · obtain ⟨F, G, hq5⟩ := xH Y G hp5
            refine xT ?_
            obtain ⟨r2, hr2, H⟩ := osplit H
            have F := xC Y (macro_at_c a4 x2 2 r2 hr2)
            replace H := inrO_fin H hF1
            replace H := Option.some.inj H
            refine xR ?_
            subst H
            refine xOr ?_
            refine qDf [] ?_
            exact xO ⟨[1], [4, 5]⟩
          · obtain ⟨F, G, hq5⟩ := xH Y G hp5
            refine xE0 ?_
            refine w_cut (macro_body_j5 a4 x1 x2) (fun s => [(0, .c (.pt 1 0)), (2, .c (.pt 2 0)), (3, .c (.d (.v (.int .i64 x2)))), (8, .c (.d (.sl 11 (List.map d_Token a4)))), (9, .c (.d (.v (.int .i64 x1)))), (10, .c (.d (.v (.int .i64 x2)))), (58, .c (.d (.v (.bool s))))]) (fun s => [[.d (.v (str a0)), .d (.v (.bool a1)), .sl 1 (List.map dS a2) 3, .d (.v (.bool a3)), .sl 11 (List.map d_Token a4) 4], [.d (.v (.int .i64 0)), .d (.v (.int .i64 0)), .d (.v (.int .i64 0))]]) [9, 45] o1 ?_ ?_
            · rcases bsplit H with ⟨hp7, H⟩ | ⟨hp7, H⟩
              · obtain ⟨F, G, hq7⟩ := xH Y G hp7
                rcases bsplit H with ⟨hp8, H⟩ | ⟨hp8, H⟩
                · obtain ⟨F, G, hq8⟩ := xH F G hp8
                  rcases bsplit H with ⟨hp9, H⟩ | ⟨hp9, H⟩
                  · obtain ⟨F, G, hq9⟩ := xH F G hp9
                    refine xR ?_
                    exact cut_at H (xK ⟨[1,2], [4,5]⟩)
                  · obtain ⟨F, G, hq9⟩ := xH F G hp9
                    obtain ⟨hg2, H⟩ := gsplit H
                    have F := xZ F (map_getD d_Token a4 ((IntKind.i64.wrap (x2 + 1)).toNat) default default (by omega))
                    obtain ⟨r4, hr4, H⟩ := osplit H
                    have F := xCf F (slices_Contains_s_string_string_c a2 ((a4.getD ((IntKind.i64.wrap (x2 + 1)).toNat) default).Text) r4 hr4)
                    refine xR ?_
                    exact cut_at H (xK ⟨[1,2], [4,5]⟩)
                · obtain ⟨F, G, hq8⟩ := xH F G hp8
                  refine xR ?_
                  exact cut_at H (xK ⟨[1,2], [4,5]⟩)
              · obtain ⟨F, G, hq7⟩ := xH Y G hp7
                refine xR ?_
                exact cut_at H (xK ⟨[1,2], [4,5]⟩)
            · rintro x16 H
              rw [macro_body_j5] at H
              rcases bsplit H with ⟨hp6, H⟩ | ⟨hp6, H⟩
              · obtain ⟨F, G, hq6⟩ := xH Y G hp6
                refine xT ?_
                obtain ⟨r3, hr3, H⟩ := osplit H
                have F := xC Y (macro_at_c a4 x2 2 r3 hr3)
                replace H := inrO_fin H hF1
                replace H := Option.some.inj H
                refine xR ?_
                subst H
                refine xOr ?_
                refine qDf [] ?_
                exact xO ⟨[1], [3, 4]⟩
              · obtain ⟨F, G, hq6⟩ := xH Y G hp6
                refine xE ?_
                exact cut_at H (xK ⟨[1,2], [3,4]⟩)
    · rintro ⟨⟩ H
      rw [macro_body_j2] at H
      refine xr ?_
      exact round_at (inl_fin H hF1) (xK ⟨[1,2], [3,4]⟩)
  · obtain ⟨F, G, hq1⟩ := xH Y G hp1
    replace H := inrO_fin H hF1
    refine xE ?_
    replace H := Option.some.inj H
    refine xr ?_
    subst H
    refine xOr ?_
    refine qDf [] ?_
    exact xO ⟨[1], [3, 4]⟩
theorem macro_body_k : Callable Try.prog 44 ∧ (∀ g, S_macro_body g → GenOk Try.prog 44 g) ∧ (true = true → ∀ g, S_macro_body g → ∃ val bs ts, g.out = .ret val bs ts) :=
  ⟨call_44, macro_body_ok, fun _ => by rintro _ ⟨_, _, _, _, _, _, _, rfl⟩; exact ⟨_, _, _, rfl⟩⟩
noncomputable def macro_Parse_j4 (x8 : List Token) (x9 : Int) (x10 : Int) (x11 : List Token) : (Int × (List UInt8) × Bool × Bool × Int × Int × Int × Int × (List (List UInt8)) × (List Call) × Int) → Option (((List Token) × Int × Int × (List Token)) ⊕ (Macro × Fault))
  | (x12, x13, x14, x15, x16, x17, x18, x19, x20, x21, x22) => if (x11.length + [(⟨x12, x13, x14, false, x16, x17, x18, x19, ([] : List (List UInt8)), ([] : List Call), x22⟩ : Token)].length) * 120 ≤ 140737488355328 then some (.inl (x8, x9, IntKind.i64.wrap (x10 + 1), x11 ++ [(⟨x12, x13, x14, false, x16, x17, x18, x19, ([] : List (List UInt8)), ([] : List Call), x22⟩ : Token)])) else none
noncomputable def macro_Parse_b3 (x4 : List UInt8) (x5 : Bool) (x6 : List (List UInt8)) (x7 : Bool) : ((List Token) × Int × Int × (List Token)) → Option (((List Token) × Int × Int × (List Token)) ⊕ (Macro × Fault))
  | (x8, x9, x10, x11) => if (ltI x10 x9) = true then if (0 : Int) ≤ x10 ∧ x10.toNat < x8.length then if ((x8.getD x10.toNat default).Space) = true then macro_Parse_j4 x8 x9 x10 x11 ((x8.getD x10.toNat default).Kind, (x8.getD x10.toNat default).Text, ltI 0 x10, (x8.getD x10.toNat default).First, (x8.getD x10.toNat default).File, (x8.getD x10.toNat default).At, (x8.getD x10.toNat default).End, (x8.getD x10.toNat default).Line, (x8.getD x10.toNat default).Hide, (x8.getD x10.toNat default).Calls, (x8.getD x10.toNat default).Made) else macro_Parse_j4 x8 x9 x10 x11 ((x8.getD x10.toNat default).Kind, (x8.getD x10.toNat default).Text, false, (x8.getD x10.toNat default).First, (x8.getD x10.toNat default).File, (x8.getD x10.toNat default).At, (x8.getD x10.toNat default).End, (x8.getD x10.toNat default).Line, (x8.getD x10.toNat default).Hide, (x8.getD x10.toNat default).Calls, (x8.getD x10.toNat default).Made) else none else inrO ((macro_body x4 x5 x6 x7 x11).bind fun r8 => if (!eqI r8.1 0) = true then (macro_Parse_1 (⟨r8.1, r8.2.1, r8.2.2⟩ : Fault)).bind fun r9 => some (r9.1, r9.2) else some ((⟨x4, x5, x6, x7, x11⟩ : Macro), (⟨0, (-1), 0⟩ : Fault)))
noncomputable def macro_Parse_j2 (a0 : List Token) : (Int × (List UInt8) × Bool × (List (List UInt8)) × Bool) → Option (Macro × Fault)
  | (x3, x4, x5, x6, x7) => if (ltI 60 (IntKind.i64.wrap ((a0.length : Int) - x3))) = true then (macro_at a0 (IntKind.i64.wrap (x3 + 60)) 4).bind fun r6 => (macro_Parse_1 r6).bind fun r7 => some (r7.1, r7.2) else if (0 : Int) ≤ x3 ∧ x3 ≤ (a0.length : Int) ∧ (a0.length : Int) ≤ (a0.length : Int) then loopO (macro_Parse_b3 x4 x5 x6 x7) (List.drop x3.toNat a0, ((List.drop x3.toNat a0).length : Int), 0, ([] : List Token)) else none
noncomputable def macro_Parse_j5 (a0 : List Token) : (Bool × (List UInt8)) → Option (Macro × Fault)
  | (x23, x24) => if x23 = true then (macro_params_v2 a0 (IntKind.i64.wrap (1 + 1)) x24 true ([] : List (List UInt8)) false ([] : List Token)).bind fun r10 => if (!eqI r10.2.1 0) = true then (macro_Parse_1 (⟨r10.2.1, r10.2.2.1, r10.2.2.2.1⟩ : Fault)).bind fun r11 => some (r11.1, r11.2) else macro_Parse_j2 a0 (r10.1, x24, true, r10.2.2.2.2.1, r10.2.2.2.2.2) else macro_Parse_j2 a0 (1, x24, false, ([] : List (List UInt8)), false)
noncomputable def macro_Parse_j1 (a0 : List Token) : (Bool × (List UInt8)) → Option (Macro × Fault)
  | (x1, x2) => if x1 = true then (macro_at a0 0 2).bind fun r1 => (macro_Parse_1 r1).bind fun r2 => some (r2.1, r2.2) else if 0 < a0.length then (macro_Builtin ((a0.getD 0 default).Text)).bind fun r3 => if r3 = true then (macro_at a0 0 7).bind fun r4 => (macro_Parse_1 r4).bind fun r5 => some (r5.1, r5.2) else if 0 < a0.length then if (ltI 1 (a0.length : Int)) = true then if 1 < a0.length then if (eqS ((a0.getD 1 default).Text) [40]) = true then if 1 < a0.length then macro_Parse_j5 a0 (!((a0.getD 1 default).Space), (a0.getD 0 default).Text) else none else macro_Parse_j5 a0 (false, (a0.getD 0 default).Text) else none else macro_Parse_j5 a0 (false, (a0.getD 0 default).Text) else none else none
noncomputable def macro_Parse (a0 : List Token) : Option (Macro × Fault) :=
  if (eqI (a0.length : Int) 0) = true then macro_Parse_j1 a0 (true, []) else if 0 < a0.length then macro_Parse_j1 a0 (!eqI ((a0.getD 0 default).Kind) 1, []) else none
noncomputable def pf_macro_Parse : PF := PF.of (E1 (dL 11 d_Token)) (fun a => macro_Parse a) (T2 d_Macro d_Fault)
set_option maxRecDepth 100000 in
set_option maxHeartbeats 4000000 in
theorem macro_Parse_ok : PureOk Try.prog 10 pf_macro_Parse := by
  refine xF mixed [(42, pf_macro_at), (41, pf_macro_Parse_1), (23, pf_macro_Builtin)] [(44, true, S_macro_body), (43, true, S_macro_params_v2)] ⟨⟨call_42, macro_at_ok⟩, ⟨call_41, macro_Parse_1_ok⟩, ⟨call_23, macro_Builtin_ok⟩, trivial⟩ ⟨macro_body_k, macro_params_v2_k, trivial⟩ Try.func10 ?_
  rintro a0 out H
  have G := True.intro
  have Y := xZ y_3 <| xZ y_4 <| xZ y_9 <| xZ y_22 <| xZ y_24 <| xZ y_28 <| xZ y_30 <| xZ y_32 <| xZ y_43 <| xZ y_45 <| xZ Try.results10 <| xZ d_Call.eq_1 <| xZ d_Token.eq_1 <| xZ d_Fault.eq_1 <| xZ d_Macro.eq_1 <| xZ g_macro_body.eq_1 <| g_macro_params_v2.eq_1
  simp only [macro_Parse] at H
  refine xS ?_
  refine xr ?_
  refine xr0 ?_
  refine then_normal ?_
  refine w_seq ?_
  refine w_cut (macro_Parse_j1 a0) (fun s => [(0, .c (.d (.sl 11 (List.map d_Token a0)))), (2, .c (.pt 1 0)), (3, .c (.pt 2 0)), (4, .c (.d (.v (.func (.func 41) #[] #[])))), (21, .c (.d (.v (.bool s.1))))]) (fun s => [[.d (.v (str s.2)), .d (.v (.bool false)), .sl 1 [] 0, .d (.v (.bool false)), .sl 11 [] 0], [.d (.v (.int .i64 0)), .d (.v (.int .i64 0)), .d (.v (.int .i64 0))]]) [] out ?_ ?_
  · rcases bsplit H with ⟨hp11, H⟩ | ⟨hp11, H⟩
    · obtain ⟨F, G, hq11⟩ := xH Y G hp11
      refine xR ?_
      exact cut_at H (xK ⟨[1,2], []⟩)
    · obtain ⟨F, G, hq11⟩ := xH Y G hp11
      obtain ⟨hg8, H⟩ := gsplit H
      have F := xZ F (map_getD d_Token a0 0 default default (by omega))
      refine xR ?_
      exact cut_at H (xK ⟨[1,2], []⟩)
  · rintro ⟨x1, x2⟩ H
    rw [macro_Parse_j1] at H
    rcases bsplit H with ⟨hp1, H⟩ | ⟨hp1, H⟩
    · obtain ⟨F, G, hq1⟩ := xH Y G hp1
      refine xT ?_
      obtain ⟨r1, hr1, H⟩ := osplit H
      have F := xC Y (macro_at_c a0 0 2 r1 hr1)
      obtain ⟨r2, hr2, H⟩ := osplit H
      have F := xCf F (macro_Parse_1_c r1 r2 hr2)
      replace H := Option.some.inj H
      refine xR ?_
      subst H
      exact xN
    · obtain ⟨F, G, hq1⟩ := xH Y G hp1
      refine xE ?_
      obtain ⟨hg1, H⟩ := gsplit H
      have F := xZ Y (map_getD d_Token a0 0 default default (by omega))
      obtain ⟨r3, hr3, H⟩ := osplit H
      have F := xCf F (macro_Builtin_c ((a0.getD 0 default).Text) r3 hr3)
      refine xR ?_
      rcases bsplit H with ⟨hp2, H⟩ | ⟨hp2, H⟩
      · obtain ⟨F, G, hq2⟩ := xH Y G hp2
        refine xT ?_
        obtain ⟨r4, hr4, H⟩ := osplit H
        have F := xC Y (macro_at_c a0 0 7 r4 hr4)
        obtain ⟨r5, hr5, H⟩ := osplit H
        have F := xCf F (macro_Parse_1_c r4 r5 hr5)
        replace H := Option.some.inj H
        refine xR ?_
        subst H
        exact xN
      · obtain ⟨F, G, hq2⟩ := xH Y G hp2
        refine xE ?_
        obtain ⟨hg2, H⟩ := gsplit H
        have F := xZ Y (map_getD d_Token a0 0 default default (by omega))
        refine xR ?_
        refine xr0 ?_
        refine then_normal ?_
        refine w_cut (macro_Parse_j2 a0) (fun s => [(0, .c (.d (.sl 11 (List.map d_Token a0)))), (2, .c (.pt 1 0)), (3, .c (.pt 2 0)), (4, .c (.d (.v (.func (.func 41) #[] #[])))), (5, .c (.pt 3 0)), (6, .c (.d (.v (.int .i64 s.1))))]) (fun s => [[.d (.v (str x2)), .d (.v (.bool false)), .sl 1 [] 0, .d (.v (.bool false)), .sl 11 [] 0], [.d (.v (.int .i64 0)), .d (.v (.int .i64 0)), .d (.v (.int .i64 0))], [.d (.v (str s.2.1)), .d (.v (.bool s.2.2.1)), .sl 1 (List.map dS s.2.2.2.1) 4, .d (.v (.bool s.2.2.2.2)), .sl 11 (List.map d_Token ([] : List Token)) 5]]) [9, 45] out ?_ ?_
        · refine w_cut (macro_Parse_j5 a0) (fun s => [(0, .c (.d (.sl 11 (List.map d_Token a0)))), (2, .c (.pt 1 0)), (3, .c (.pt 2 0)), (4, .c (.d (.v (.func (.func 41) #[] #[])))), (5, .c (.pt 3 0)), (6, .c (.d (.v (.int .i64 1)))), (63, .c (.d (.v (.bool s.1))))]) (fun s => [[.d (.v (str x2)), .d (.v (.bool false)), .sl 1 [] 0, .d (.v (.bool false)), .sl 11 [] 0], [.d (.v (.int .i64 0)), .d (.v (.int .i64 0)), .d (.v (.int .i64 0))], [.d (.v (str s.2)), .d (.v (.bool false)), .sl 1 [] 0, .d (.v (.bool false)), .sl 11 [] 0]]) [] out ?_ ?_
          · rcases bsplit H with ⟨hp9, H⟩ | ⟨hp9, H⟩
            · obtain ⟨F, G, hq9⟩ := xH Y G hp9
              obtain ⟨hg6, H⟩ := gsplit H
              have F := xZ F (map_getD d_Token a0 1 default default (by omega))
              rcases bsplit H with ⟨hp10, H⟩ | ⟨hp10, H⟩
              · obtain ⟨F, G, hq10⟩ := xH F G hp10
                obtain ⟨hg7, H⟩ := gsplit H
                have F := xZ F (map_getD d_Token a0 1 default default (by omega))
                refine xR ?_
                exact cut_at H (xK ⟨[1,2,3], []⟩)
              · obtain ⟨F, G, hq10⟩ := xH F G hp10
                refine xR ?_
                exact cut_at H (xK ⟨[1,2,3], []⟩)
            · obtain ⟨F, G, hq9⟩ := xH Y G hp9
              refine xR ?_
              exact cut_at H (xK ⟨[1,2,3], []⟩)
          · rintro ⟨x23, x24⟩ H
            rw [macro_Parse_j5] at H
            rcases bsplit H with ⟨hp7, H⟩ | ⟨hp7, H⟩
            · obtain ⟨F, G, hq7⟩ := xH Y G hp7
              refine xT ?_
              refine xr ?_
              obtain ⟨r10, hr10, H⟩ := osplit H
              have F := Y
              refine xQ ?_
              refine xs 3 ?_
              refine xc ⟨[3], [0, 0]⟩ (tabG 1 (macro_params_v2_c a0 (IntKind.i64.wrap (1 + 1)) x24 true ([] : List (List UInt8)) false ([] : List Token) r10 hr10)) ?_
              refine xs 6 ?_
              refine xl ?_
              refine xS ?_
              refine xr ?_
              rcases bsplit H with ⟨hp8, H⟩ | ⟨hp8, H⟩
              · obtain ⟨F, G, hq8⟩ := xH Y G hp8
                refine xT ?_
                obtain ⟨r11, hr11, H⟩ := osplit H
                have F := xC Y (macro_Parse_1_c (⟨r10.2.1, r10.2.2.1, r10.2.2.2.1⟩ : Fault) r11 hr11)
                replace H := Option.some.inj H
                refine xR ?_
                subst H
                exact xN
              · obtain ⟨F, G, hq8⟩ := xH Y G hp8
                refine xE ?_
                refine xr ?_
                exact cut_at H (xK ⟨[1,2,3], [5,6]⟩)
            · obtain ⟨F, G, hq7⟩ := xH Y G hp7
              refine xE ?_
              exact cut_at H (xK ⟨[1,2,3], [0,0]⟩)
        · rintro ⟨x3, x4, x5, x6, x7⟩ H
          rw [macro_Parse_j2] at H
          refine xS ?_
          refine xr ?_
          rcases bsplit H with ⟨hp3, H⟩ | ⟨hp3, H⟩
          · obtain ⟨F, G, hq3⟩ := xH Y G hp3
            refine xT ?_
            obtain ⟨r6, hr6, H⟩ := osplit H
            have F := xC Y (macro_at_c a0 (IntKind.i64.wrap (x3 + 60)) 4 r6 hr6)
            obtain ⟨r7, hr7, H⟩ := osplit H
            have F := xCf F (macro_Parse_1_c r6 r7 hr7)
            replace H := Option.some.inj H
            refine xR ?_
            subst H
            exact xN
          · obtain ⟨F, G, hq3⟩ := xH Y G hp3
            refine xE ?_
            obtain ⟨hg3, H⟩ := gsplit H
            refine xr ?_
            refine w_loop (macro_Parse_b3 x4 x5 x6 x7) (fun s => [(2, .c (.pt 1 0)), (3, .c (.pt 2 0)), (4, .c (.d (.v (.func (.func 41) #[] #[])))), (5, .c (.pt 3 0)), (96, .c (.d (.sl 11 (List.map d_Token s.1)))), (97, .c (.d (.v (.int .i64 s.2.1)))), (98, .c (.d (.v (.int .i64 s.2.2.1))))]) (fun s => [[.d (.v (str x2)), .d (.v (.bool false)), .sl 1 [] 0, .d (.v (.bool false)), .sl 11 [] 0], [.d (.v (.int .i64 0)), .d (.v (.int .i64 0)), .d (.v (.int .i64 0))], [.d (.v (str x4)), .d (.v (.bool x5)), .sl 1 (List.map dS x6) 4, .d (.v (.bool x7)), .sl 11 (List.map d_Token s.2.2.2) 5]]) [9, 45] H (xK ⟨[1,2,3], [4,5]⟩) ?_
            rintro n1 ⟨x8, x9, x10, x11⟩ o1 H hF1
            rw [macro_Parse_b3] at H
            refine xS ?_
            refine xr ?_
            rcases bsplit H with ⟨hp4, H⟩ | ⟨hp4, H⟩
            · obtain ⟨F, G, hq4⟩ := xH Y G hp4
              refine xT ?_
              obtain ⟨hg4, H⟩ := gsplit H
              have F := xZ Y (map_getD d_Token x8 x10.toNat default default (by omega))
              refine xR0 ?_
              refine then_normal ?_
              refine w_cut (macro_Parse_j4 x8 x9 x10 x11) (fun s => [(2, .c (.pt 1 0)), (3, .c (.pt 2 0)), (4, .c (.d (.v (.func (.func 41) #[] #[])))), (5, .c (.pt 3 0)), (10, .c (.pt 4 0)), (96, .c (.d (.sl 11 (List.map d_Token x8)))), (97, .c (.d (.v (.int .i64 x9)))), (98, .c (.d (.v (.int .i64 x10))))]) (fun s => [[.d (.v (str x2)), .d (.v (.bool false)), .sl 1 [] 0, .d (.v (.bool false)), .sl 11 [] 0], [.d (.v (.int .i64 0)), .d (.v (.int .i64 0)), .d (.v (.int .i64 0))], [.d (.v (str x4)), .d (.v (.bool x5)), .sl 1 (List.map dS x6) 5, .d (.v (.bool x7)), .sl 11 (List.map d_Token x11) 6], [.d (.v (.int .i64 s.1)), .d (.v (str s.2.1)), .d (.v (.bool s.2.2.1)), .d (.v (.bool s.2.2.2.1)), .d (.v (.int .i64 s.2.2.2.2.1)), .d (.v (.int .i64 s.2.2.2.2.2.1)), .d (.v (.int .i64 s.2.2.2.2.2.2.1)), .d (.v (.int .i64 s.2.2.2.2.2.2.2.1)), .d (.sl 1 (List.map dS s.2.2.2.2.2.2.2.2.1)), .d (.sl 3 (List.map d_Call s.2.2.2.2.2.2.2.2.2.1)), .d (.v (.int .i64 s.2.2.2.2.2.2.2.2.2.2))]]) [9, 45] o1 ?_ ?_
              · rcases bsplit H with ⟨hp5, H⟩ | ⟨hp5, H⟩
                · obtain ⟨F, G, hq5⟩ := xH Y G hp5
                  refine xR ?_
                  exact cut_at H (xK ⟨[1,2,3,6], [4,5]⟩)
                · obtain ⟨F, G, hq5⟩ := xH Y G hp5
                  refine xR ?_
                  exact cut_at H (xK ⟨[1,2,3,6], [4,5]⟩)
              · rintro ⟨x12, x13, x14, x15, x16, x17, x18, x19, x20, x21, x22⟩ H
                rw [macro_Parse_j4] at H
                refine xS ?_
                refine xr ?_
                obtain ⟨hg5, H⟩ := gsplit H
                have F := xZ Y (all_map one_Token [(⟨x12, x13, x14, false, x16, x17, x18, x19, ([] : List (List UInt8)), ([] : List Call), x22⟩ : Token)])
                refine xR ?_
                refine xr ?_
                exact round_at (inl_fin H hF1) (xK ⟨[1,2,3], [5,7]⟩)
            · obtain ⟨F, G, hq4⟩ := xH Y G hp4
              replace H := inrO_fin H hF1
              refine xE ?_
              obtain ⟨r8, hr8, H⟩ := osplit H
              have F := Y
              refine xQ ?_
              refine xc ⟨[3], [4, 5]⟩ (tabG 0 (macro_body_c x4 x5 x6 x7 x11 r8 hr8)) ?_
              refine xs 2 ?_
              refine xl ?_
              refine xS ?_
              refine xr ?_
              rcases bsplit H with ⟨hp6, H⟩ | ⟨hp6, H⟩
              · obtain ⟨F, G, hq6⟩ := xH Y G hp6
                refine xT ?_
                obtain ⟨r9, hr9, H⟩ := osplit H
                have F := xC Y (macro_Parse_1_c (⟨r8.1, r8.2.1, r8.2.2⟩ : Fault) r9 hr9)
                replace H := Option.some.inj H
                refine xR ?_
                subst H
                exact xN
              · obtain ⟨F, G, hq6⟩ := xH Y G hp6
                refine xE ?_
                replace H := Option.some.inj H
                refine xr ?_
                subst H
                exact xN
theorem macro_Parse_c (a0 : List Token) (r : Macro × Fault) (H : macro_Parse a0 = some r) : PC pf_macro_Parse [(dL 11 d_Token) a0] (T2 d_Macro d_Fault r) := PF.c (a := a0) H
end Go.Proofs.Ytkhcecpbbmfcaaa
