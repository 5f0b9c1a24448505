/- Functions of data for functions of the program. Written by dec3.py. -/
import Derived.Test.YtkhcecpbbmfcaaaZai
set_option linter.unusedVariables false
set_option linter.unusedSimpArgs false
namespace Go.Proofs.Ytkhcecpbbmfcaaa
open Go.RowKit
noncomputable def preref4_SameMacro_j5 (x4 : Int) (x5 : Int) : Bool → Option ((Int × Int) ⊕ Bool)
  | x28 => if x28 = true then inrO (some false) else some (.inl (x4, IntKind.i64.wrap (x5 + 1)))
noncomputable def preref4_SameMacro_j4 (x4 : Int) (x5 : Int) : (Int × (List UInt8) × Bool × Bool × Int × Int × Int × Int × (List (List UInt8)) × (List Call) × Int × Int × (List UInt8) × Bool × Bool × Int × Int × Int × Int × (List (List UInt8)) × (List Call) × Int) → Option ((Int × Int) ⊕ Bool)
  | (x6, x7, x8, x9, x10, x11, x12, x13, x14, x15, x16, x17, x18, x19, x20, x21, x22, x23, x24, x25, x26, x27) => if (!eqI x6 x17) = true then preref4_SameMacro_j5 x4 x5 true else if (!eqS x7 x18) = true then preref4_SameMacro_j5 x4 x5 true else preref4_SameMacro_j5 x4 x5 (!eqB x8 x19)
noncomputable def preref4_SameMacro_b3 (a0 : Macro) (a1 : Macro) : (Int × Int) → Option ((Int × Int) ⊕ Bool)
  | (x4, x5) => if (ltI x5 x4) = true then if (0 : Int) ≤ x5 ∧ x5.toNat < a0.Body.length then if (0 : Int) ≤ x5 ∧ x5.toNat < a1.Body.length then preref4_SameMacro_j4 x4 x5 ((a0.Body.getD x5.toNat default).Kind, (a0.Body.getD x5.toNat default).Text, (a0.Body.getD x5.toNat default).Space, (a0.Body.getD x5.toNat default).First, (a0.Body.getD x5.toNat default).File, (a0.Body.getD x5.toNat default).At, (a0.Body.getD x5.toNat default).End, (a0.Body.getD x5.toNat default).Line, (a0.Body.getD x5.toNat default).Hide, (a0.Body.getD x5.toNat default).Calls, (a0.Body.getD x5.toNat default).Made, (a1.Body.getD x5.toNat default).Kind, (a1.Body.getD x5.toNat default).Text, (a1.Body.getD x5.toNat default).Space, (a1.Body.getD x5.toNat default).First, (a1.Body.getD x5.toNat default).File, (a1.Body.getD x5.toNat default).At, (a1.Body.getD x5.toNat default).End, (a1.Body.getD x5.toNat default).Line, (a1.Body.getD x5.toNat default).Hide, (a1.Body.getD x5.toNat default).Calls, (a1.Body.getD x5.toNat default).Made) else none else none else inrO (some true)
noncomputable def preref4_SameMacro_b2 (a0 : Macro) (a1 : Macro) : (Int × Int) → Option ((Int × Int) ⊕ Bool)
  | (x2, x3) => if (ltI x3 x2) = true then if (0 : Int) ≤ x3 ∧ x3.toNat < a0.Params.length then if (0 : Int) ≤ x3 ∧ x3.toNat < a1.Params.length then if (!eqS (a0.Params.getD x3.toNat default) (a1.Params.getD x3.toNat default)) = true then inrO (some false) else some (.inl (x2, IntKind.i64.wrap (x3 + 1))) else none else none else inrO (loopO (preref4_SameMacro_b3 a0 a1) ((a0.Body.length : Int), 0))
noncomputable def preref4_SameMacro_j1 (a0 : Macro) (a1 : Macro) : Bool → Option Bool
  | x1 => if x1 = true then some false else loopO (preref4_SameMacro_b2 a0 a1) ((a0.Params.length : Int), 0)
noncomputable def preref4_SameMacro (a0 : Macro) (a1 : Macro) : Option Bool :=
  if (!eqS a0.Name a1.Name) = true then preref4_SameMacro_j1 a0 a1 true else if (!eqB a0.Call a1.Call) = true then preref4_SameMacro_j1 a0 a1 true else if (!eqB a0.More a1.More) = true then preref4_SameMacro_j1 a0 a1 true else if (!eqI (a0.Params.length : Int) (a1.Params.length : Int)) = true then preref4_SameMacro_j1 a0 a1 true else preref4_SameMacro_j1 a0 a1 (!eqI (a0.Body.length : Int) (a1.Body.length : Int))
noncomputable def pf_preref4_SameMacro : PF := PF.of (E2 d_Macro d_Macro) (fun a => preref4_SameMacro a.1 a.2) dB
set_option maxRecDepth 100000 in
set_option maxHeartbeats 4000000 in
theorem preref4_SameMacro_ok : PureOk Try.prog 15 pf_preref4_SameMacro := by
  refine xFl mixed [12] [] [] trivial trivial Try.func15 ?_
  rintro ⟨a0, a1⟩ out H
  have G := True.intro
  have Y := xZ y_3 <| xZ y_4 <| xZ y_9 <| xZ y_28 <| xZ y_30 <| xZ y_32 <| xZ y_45 <| xZ Try.results15 <| xZ d_Call.eq_1 <| xZ d_Token.eq_1 <| d_Macro.eq_1
  simp only [preref4_SameMacro] at H
  refine xS ?_
  refine xr0 ?_
  refine then_normal ?_
  refine w_seq ?_
  refine w_cut (preref4_SameMacro_j1 a0 a1) (fun s => [(2, .c (.pt 1 0)), (3, .c (.pt 2 0)), (45, .c (.d (.v (.bool s))))]) (fun s => [[.d (.v (str a0.Name)), .d (.v (.bool a0.Call)), .d (.sl 1 (List.map dS a0.Params)), .d (.v (.bool a0.More)), .d (.sl 11 (List.map d_Token a0.Body))], [.d (.v (str a1.Name)), .d (.v (.bool a1.Call)), .d (.sl 1 (List.map dS a1.Params)), .d (.v (.bool a1.More)), .d (.sl 11 (List.map d_Token a1.Body))]]) [] out ?_ ?_
  · rcases bsplit H with ⟨hp8, H⟩ | ⟨hp8, H⟩
    · obtain ⟨F, G, hq8⟩ := xH Y G hp8
      refine xR ?_
      exact cut_at H (xK ⟨[1,2], []⟩)
    · obtain ⟨F, G, hq8⟩ := xH Y G hp8
      rcases bsplit H with ⟨hp9, H⟩ | ⟨hp9, H⟩
      · obtain ⟨F, G, hq9⟩ := xH F G hp9
        refine xR ?_
        exact cut_at H (xK ⟨[1,2], []⟩)
      · obtain ⟨F, G, hq9⟩ := xH F G hp9
        rcases bsplit H with ⟨hp10, H⟩ | ⟨hp10, H⟩
        · obtain ⟨F, G, hq10⟩ := xH F G hp10
          refine xR ?_
          exact cut_at H (xK ⟨[1,2], []⟩)
        · obtain ⟨F, G, hq10⟩ := xH F G hp10
          rcases bsplit H with ⟨hp11, H⟩ | ⟨hp11, H⟩
          · obtain ⟨F, G, hq11⟩ := xH F G hp11
            refine xR ?_
            exact cut_at H (xK ⟨[1,2], []⟩)
          · obtain ⟨F, G, hq11⟩ := xH F G hp11
            refine xR ?_
            exact cut_at H (xK ⟨[1,2], []⟩)
  · rintro x1 H
    rw [preref4_SameMacro_j1] at H
    rcases bsplit H with ⟨hp1, H⟩ | ⟨hp1, H⟩
    · obtain ⟨F, G, hq1⟩ := xH Y G hp1
      refine xT ?_
      replace H := Option.some.inj H
      refine xr ?_
      subst H
      exact xN
    · obtain ⟨F, G, hq1⟩ := xH Y G hp1
      refine xE ?_
      refine xr ?_
      refine w_loop (preref4_SameMacro_b2 a0 a1) (fun s => [(2, .c (.pt 1 0)), (3, .c (.pt 2 0)), (48, .c (.d (.v (.int .i64 s.1)))), (49, .c (.d (.v (.int .i64 s.2))))]) (fun s => [[.d (.v (str a0.Name)), .d (.v (.bool a0.Call)), .d (.sl 1 (List.map dS a0.Params)), .d (.v (.bool a0.More)), .d (.sl 11 (List.map d_Token a0.Body))], [.d (.v (str a1.Name)), .d (.v (.bool a1.Call)), .d (.sl 1 (List.map dS a1.Params)), .d (.v (.bool a1.More)), .d (.sl 11 (List.map d_Token a1.Body))]]) [] H (xK ⟨[1,2], []⟩) ?_
      rintro n1 ⟨x2, x3⟩ o1 H hF1
      rw [preref4_SameMacro_b2] at H
      refine xS ?_
      refine xr ?_
      rcases bsplit H with ⟨hp2, H⟩ | ⟨hp2, H⟩
      · obtain ⟨F, G, hq2⟩ := xH Y G hp2
        refine xT ?_
        refine xr ?_
        obtain ⟨hg1, H⟩ := gsplit H
        have F := xZ Y (map_getD dS a0.Params x3.toNat default default (by omega))
        obtain ⟨hg2, H⟩ := gsplit H
        have F := xZ F (map_getD dS a1.Params x3.toNat default default (by omega))
        refine xR ?_
        rcases bsplit H with ⟨hp3, H⟩ | ⟨hp3, H⟩
        · obtain ⟨F, G, hq3⟩ := xH Y G hp3
          refine xT ?_
          replace H := inrO_fin H hF1
          replace H := Option.some.inj H
          refine xr ?_
          subst H
          exact xN
        · obtain ⟨F, G, hq3⟩ := xH Y G hp3
          refine xE ?_
          refine xr ?_
          exact round_at (inl_fin H hF1) (xK ⟨[1,2], []⟩)
      · obtain ⟨F, G, hq2⟩ := xH Y G hp2
        replace H := inrO_fin H hF1
        refine xE ?_
        refine xr ?_
        refine w_loop (preref4_SameMacro_b3 a0 a1) (fun s => [(2, .c (.pt 1 0)), (3, .c (.pt 2 0)), (66, .c (.d (.v (.int .i64 s.1)))), (67, .c (.d (.v (.int .i64 s.2))))]) (fun s => [[.d (.v (str a0.Name)), .d (.v (.bool a0.Call)), .d (.sl 1 (List.map dS a0.Params)), .d (.v (.bool a0.More)), .d (.sl 11 (List.map d_Token a0.Body))], [.d (.v (str a1.Name)), .d (.v (.bool a1.Call)), .d (.sl 1 (List.map dS a1.Params)), .d (.v (.bool a1.More)), .d (.sl 11 (List.map d_Token a1.Body))]]) [] H (xK ⟨[1,2], []⟩) ?_
        rintro n2 ⟨x4, x5⟩ o2 H hF2
        rw [preref4_SameMacro_b3] at H
        refine xS ?_
        refine xr ?_
        rcases bsplit H with ⟨hp4, H⟩ | ⟨hp4, H⟩
        · obtain ⟨F, G, hq4⟩ := xH Y G hp4
          refine xT ?_
          refine xr0 ?_
          refine then_normal ?_
          refine w_cut (preref4_SameMacro_j4 x4 x5) (fun s => [(2, .c (.pt 1 0)), (3, .c (.pt 2 0)), (7, .c (.pt 3 0)), (8, .c (.pt 4 0)), (66, .c (.d (.v (.int .i64 x4)))), (67, .c (.d (.v (.int .i64 x5))))]) (fun s => [[.d (.v (str a0.Name)), .d (.v (.bool a0.Call)), .d (.sl 1 (List.map dS a0.Params)), .d (.v (.bool a0.More)), .d (.sl 11 (List.map d_Token a0.Body))], [.d (.v (str a1.Name)), .d (.v (.bool a1.Call)), .d (.sl 1 (List.map dS a1.Params)), .d (.v (.bool a1.More)), .d (.sl 11 (List.map d_Token a1.Body))], [.d (.v (.int .i64 s.1)), .d (.v (str s.2.1)), .d (.v (.bool s.2.2.1)), .d (.v (.bool s.2.2.2.1)), .d (.v (.int .i64 s.2.2.2.2.1)), .d (.v (.int .i64 s.2.2.2.2.2.1)), .d (.v (.int .i64 s.2.2.2.2.2.2.1)), .d (.v (.int .i64 s.2.2.2.2.2.2.2.1)), .d (.sl 1 (List.map dS s.2.2.2.2.2.2.2.2.1)), .d (.sl 3 (List.map d_Call s.2.2.2.2.2.2.2.2.2.1)), .d (.v (.int .i64 s.2.2.2.2.2.2.2.2.2.2.1))], [.d (.v (.int .i64 s.2.2.2.2.2.2.2.2.2.2.2.1)), .d (.v (str s.2.2.2.2.2.2.2.2.2.2.2.2.1)), .d (.v (.bool s.2.2.2.2.2.2.2.2.2.2.2.2.2.1)), .d (.v (.bool s.2.2.2.2.2.2.2.2.2.2.2.2.2.2.1)), .d (.v (.int .i64 s.2.2.2.2.2.2.2.2.2.2.2.2.2.2.2.1)), .d (.v (.int .i64 s.2.2.2.2.2.2.2.2.2.2.2.2.2.2.2.2.1)), .d (.v (.int .i64 s.2.2.2.2.2.2.2.2.2.2.2.2.2.2.2.2.2.1)), .d (.v (.int .i64 s.2.2.2.2.2.2.2.2.2.2.2.2.2.2.2.2.2.2.1)), .d (.sl 1 (List.map dS s.2.2.2.2.2.2.2.2.2.2.2.2.2.2.2.2.2.2.2.1)), .d (.sl 3 (List.map d_Call s.2.2.2.2.2.2.2.2.2.2.2.2.2.2.2.2.2.2.2.2.1)), .d (.v (.int .i64 s.2.2.2.2.2.2.2.2.2.2.2.2.2.2.2.2.2.2.2.2.2))]]) [] o2 ?_ ?_
          · obtain ⟨hg3, H⟩ := gsplit H
            have F := xZ Y (map_getD d_Token a0.Body x5.toNat default default (by omega))
            obtain ⟨hg4, H⟩ := gsplit H
            have F := xZ F (map_getD d_Token a1.Body x5.toNat default default (by omega))
            refine xX 10 4 [76, 79] trivial ?_
            refine xsX 6 ?_
            refine xaX ?_
            refine xsX 2 ?_
            refine xaX ?_
            refine xm ?_
            refine xg2 10 11 ?_ ?_
            · refine xbX ?_
              refine xm ?_
              refine xg1 11 ?_
              refine xbX ?_
              refine xm ?_
              refine xg1 12 ?_
              refine xbX ?_
              refine xm ?_
              refine xg1 13 ?_
              refine xbX ?_
              refine xm ?_
              refine xez ?_
              refine xS ?_
              exact cut_at H (xK ⟨[1,2,3,4], []⟩)
            · refine xbX ?_
              refine xm ?_
              refine xg1 10 ?_
              refine xbX ?_
              refine xm ?_
              refine xg1 12 ?_
              refine xbX ?_
              refine xm ?_
              refine xg1 13 ?_
              refine xbX ?_
              refine xm ?_
              refine xez ?_
              refine xS ?_
              exact cut_at H (xK ⟨[1,2,4,3], []⟩)
          · rintro ⟨x6, x7, x8, x9, x10, x11, x12, x13, x14, x15, x16, x17, x18, x19, x20, x21, x22, x23, x24, x25, x26, x27⟩ H
            rw [preref4_SameMacro_j4] at H
            refine w_cut (preref4_SameMacro_j5 x4 x5) (fun s => [(2, .c (.pt 1 0)), (3, .c (.pt 2 0)), (66, .c (.d (.v (.int .i64 x4)))), (67, .c (.d (.v (.int .i64 x5)))), (98, .c (.d (.v (.bool s))))]) (fun s => [[.d (.v (str a0.Name)), .d (.v (.bool a0.Call)), .d (.sl 1 (List.map dS a0.Params)), .d (.v (.bool a0.More)), .d (.sl 11 (List.map d_Token a0.Body))], [.d (.v (str a1.Name)), .d (.v (.bool a1.Call)), .d (.sl 1 (List.map dS a1.Params)), .d (.v (.bool a1.More)), .d (.sl 11 (List.map d_Token a1.Body))]]) [] o2 ?_ ?_
            · rcases bsplit H with ⟨hp6, H⟩ | ⟨hp6, H⟩
              · obtain ⟨F, G, hq6⟩ := xH Y G hp6
                refine xR ?_
                exact cut_at H (xK ⟨[1,2], []⟩)
              · obtain ⟨F, G, hq6⟩ := xH Y G hp6
                rcases bsplit H with ⟨hp7, H⟩ | ⟨hp7, H⟩
                · obtain ⟨F, G, hq7⟩ := xH F G hp7
                  refine xR ?_
                  exact cut_at H (xK ⟨[1,2], []⟩)
                · obtain ⟨F, G, hq7⟩ := xH F G hp7
                  refine xR ?_
                  exact cut_at H (xK ⟨[1,2], []⟩)
            · rintro x28 H
              rw [preref4_SameMacro_j5] at H
              rcases bsplit H with ⟨hp5, H⟩ | ⟨hp5, H⟩
              · obtain ⟨F, G, hq5⟩ := xH Y G hp5
                refine xT ?_
                replace H := inrO_fin H hF2
                replace H := Option.some.inj H
                refine xr ?_
                subst H
                exact xN
              · obtain ⟨F, G, hq5⟩ := xH Y G hp5
                refine xE ?_
                refine xr ?_
                exact round_at (inl_fin H hF2) (xK ⟨[1,2], []⟩)
        · obtain ⟨F, G, hq4⟩ := xH Y G hp4
          replace H := inrO_fin H hF2
          refine xE ?_
          replace H := Option.some.inj H
          refine xr ?_
          subst H
          exact xN
theorem preref4_SameMacro_c (a0 : Macro) (a1 : Macro) (r : Bool) (H : preref4_SameMacro a0 a1 = some r) : PC pf_preref4_SameMacro [d_Macro a0, d_Macro a1] (dB r) := PF.c (a := (a0, a1)) H
noncomputable def preref1_SameToken_b3 (a0 : Token) (a1 : Token) : (Int × Int) → Option ((Int × Int) ⊕ Bool)
  | (x4, x5) => if (ltI x5 x4) = true then if (0 : Int) ≤ x5 ∧ x5.toNat < a0.Calls.length then if (0 : Int) ≤ x5 ∧ x5.toNat < a1.Calls.length then if (!(eqS ((a0.Calls.getD x5.toNat default).Name) ((a1.Calls.getD x5.toNat default).Name) && (eqI ((a0.Calls.getD x5.toNat default).File) ((a1.Calls.getD x5.toNat default).File) && (eqI ((a0.Calls.getD x5.toNat default).At) ((a1.Calls.getD x5.toNat default).At))))) = true then inrO (some false) else some (.inl (x4, IntKind.i64.wrap (x5 + 1))) else none else none else inrO (some true)
noncomputable def preref1_SameToken_b2 (a0 : Token) (a1 : Token) : (Int × Int) → Option ((Int × Int) ⊕ Bool)
  | (x2, x3) => if (ltI x3 x2) = true then if (0 : Int) ≤ x3 ∧ x3.toNat < a0.Hide.length then if (0 : Int) ≤ x3 ∧ x3.toNat < a1.Hide.length then if (!eqS (a0.Hide.getD x3.toNat default) (a1.Hide.getD x3.toNat default)) = true then inrO (some false) else some (.inl (x2, IntKind.i64.wrap (x3 + 1))) else none else none else inrO (loopO (preref1_SameToken_b3 a0 a1) ((a0.Calls.length : Int), 0))
noncomputable def preref1_SameToken_j1 (a0 : Token) (a1 : Token) : Bool → Option Bool
  | x1 => if x1 = true then some false else loopO (preref1_SameToken_b2 a0 a1) ((a0.Hide.length : Int), 0)
noncomputable def preref1_SameToken (a0 : Token) (a1 : Token) : Option Bool :=
  if (!eqI a0.Kind a1.Kind) = true then preref1_SameToken_j1 a0 a1 true else if (!eqS a0.Text a1.Text) = true then preref1_SameToken_j1 a0 a1 true else if (!eqB a0.Space a1.Space) = true then preref1_SameToken_j1 a0 a1 true else if (!eqB a0.First a1.First) = true then preref1_SameToken_j1 a0 a1 true else if (!eqI a0.File a1.File) = true then preref1_SameToken_j1 a0 a1 true else if (!eqI a0.At a1.At) = true then preref1_SameToken_j1 a0 a1 true else if (!eqI a0.End a1.End) = true then preref1_SameToken_j1 a0 a1 true else if (!eqI a0.Line a1.Line) = true then preref1_SameToken_j1 a0 a1 true else if (!eqI a0.Made a1.Made) = true then preref1_SameToken_j1 a0 a1 true else if (!eqI (a0.Hide.length : Int) (a1.Hide.length : Int)) = true then preref1_SameToken_j1 a0 a1 true else preref1_SameToken_j1 a0 a1 (!eqI (a0.Calls.length : Int) (a1.Calls.length : Int))
noncomputable def pf_preref1_SameToken : PF := PF.of (E2 d_Token d_Token) (fun a => preref1_SameToken a.1 a.2) dB
set_option maxRecDepth 100000 in
set_option maxHeartbeats 4000000 in
theorem preref1_SameToken_ok : PureOk Try.prog 25 pf_preref1_SameToken := by
  refine xF mixed [] [] trivial trivial Try.func25 ?_
  rintro ⟨a0, a1⟩ out H
  have G := True.intro
  have Y := xZ y_3 <| xZ y_4 <| xZ y_9 <| xZ y_28 <| xZ y_43 <| xZ y_45 <| xZ y_86 <| xZ Try.results25 <| xZ d_Call.eq_1 <| d_Token.eq_1
  simp only [preref1_SameToken] at H
  refine xS ?_
  refine xr0 ?_
  refine then_normal ?_
  refine w_seq ?_
  refine w_cut (preref1_SameToken_j1 a0 a1) (fun s => [(2, .c (.pt 1 0)), (3, .c (.pt 2 0)), (85, .c (.d (.v (.bool s))))]) (fun s => [[.d (.v (.int .i64 a0.Kind)), .d (.v (str a0.Text)), .d (.v (.bool a0.Space)), .d (.v (.bool a0.First)), .d (.v (.int .i64 a0.File)), .d (.v (.int .i64 a0.At)), .d (.v (.int .i64 a0.End)), .d (.v (.int .i64 a0.Line)), .d (.sl 1 (List.map dS a0.Hide)), .d (.sl 3 (List.map d_Call a0.Calls)), .d (.v (.int .i64 a0.Made))], [.d (.v (.int .i64 a1.Kind)), .d (.v (str a1.Text)), .d (.v (.bool a1.Space)), .d (.v (.bool a1.First)), .d (.v (.int .i64 a1.File)), .d (.v (.int .i64 a1.At)), .d (.v (.int .i64 a1.End)), .d (.v (.int .i64 a1.Line)), .d (.sl 1 (List.map dS a1.Hide)), .d (.sl 3 (List.map d_Call a1.Calls)), .d (.v (.int .i64 a1.Made))]]) [] out ?_ ?_
  · rcases bsplit H with ⟨hp6, H⟩ | ⟨hp6, H⟩
    · obtain ⟨F, G, hq6⟩ := xH Y G hp6
      refine xR ?_
      exact cut_at H (xK ⟨[1,2], []⟩)
    · obtain ⟨F, G, hq6⟩ := xH Y G hp6
      rcases bsplit H with ⟨hp7, H⟩ | ⟨hp7, H⟩
      · obtain ⟨F, G, hq7⟩ := xH F G hp7
        refine xR ?_
        exact cut_at H (xK ⟨[1,2], []⟩)
      · obtain ⟨F, G, hq7⟩ := xH F G hp7
        rcases bsplit H with ⟨hp8, H⟩ | ⟨hp8, H⟩
        · obtain ⟨F, G, hq8⟩ := xH F G hp8
          refine xR ?_
          exact cut_at H (xK ⟨[1,2], []⟩)
        · obtain ⟨F, G, hq8⟩ := xH F G hp8
          rcases bsplit H with ⟨hp9, H⟩ | ⟨hp9, H⟩
          · obtain ⟨F, G, hq9⟩ := xH F G hp9
            refine xR ?_
            exact cut_at H (xK ⟨[1,2], []⟩)
          · obtain ⟨F, G, hq9⟩ := xH F G hp9
            rcases bsplit H with ⟨hp10, H⟩ | ⟨hp10, H⟩
            · obtain ⟨F, G, hq10⟩ := xH F G hp10
              refine xR ?_
              exact cut_at H (xK ⟨[1,2], []⟩)
            · obtain ⟨F, G, hq10⟩ := xH F G hp10
              rcases bsplit H with ⟨hp11, H⟩ | ⟨hp11, H⟩
              · obtain ⟨F, G, hq11⟩ := xH F G hp11
                refine xR ?_
                exact cut_at H (xK ⟨[1,2], []⟩)
              · obtain ⟨F, G, hq11⟩ := xH F G hp11
                rcases bsplit H with ⟨hp12, H⟩ | ⟨hp12, H⟩
                · obtain ⟨F, G, hq12⟩ := xH F G hp12
                  refine xR ?_
                  exact cut_at H (xK ⟨[1,2], []⟩)
                · obtain ⟨F, G, hq12⟩ := xH F G hp12
                  rcases bsplit H with ⟨hp13, H⟩ | ⟨hp13, H⟩
                  · obtain ⟨F, G, hq13⟩ := xH F G hp13
                    refine xR ?_
                    exact cut_at H (xK ⟨[1,2], []⟩)
                  · obtain ⟨F, G, hq13⟩ := xH F G hp13
                    rcases bsplit H with ⟨hp14, H⟩ | ⟨hp14, H⟩
                    · obtain ⟨F, G, hq14⟩ := xH F G hp14
                      refine xR ?_
                      exact cut_at H (xK ⟨[1,2], []⟩)
                    · obtain ⟨F, G, hq14⟩ := xH F G hp14
                      rcases bsplit H with ⟨hp15, H⟩ | ⟨hp15, H⟩
                      · obtain ⟨F, G, hq15⟩ := xH F G hp15
                        refine xR ?_
                        exact cut_at H (xK ⟨[1,2], []⟩)
                      · obtain ⟨F, G, hq15⟩ := xH F G hp15
                        refine xR ?_
                        exact cut_at H (xK ⟨[1,2], []⟩)
  · rintro x1 H
    rw [preref1_SameToken_j1] at H
    rcases bsplit H with ⟨hp1, H⟩ | ⟨hp1, H⟩
    · obtain ⟨F, G, hq1⟩ := xH Y G hp1
      refine xT ?_
      replace H := Option.some.inj H
      refine xr ?_
      subst H
      exact xN
    · obtain ⟨F, G, hq1⟩ := xH Y G hp1
      refine xE ?_
      refine xr ?_
      refine w_loop (preref1_SameToken_b2 a0 a1) (fun s => [(2, .c (.pt 1 0)), (3, .c (.pt 2 0)), (88, .c (.d (.v (.int .i64 s.1)))), (89, .c (.d (.v (.int .i64 s.2))))]) (fun s => [[.d (.v (.int .i64 a0.Kind)), .d (.v (str a0.Text)), .d (.v (.bool a0.Space)), .d (.v (.bool a0.First)), .d (.v (.int .i64 a0.File)), .d (.v (.int .i64 a0.At)), .d (.v (.int .i64 a0.End)), .d (.v (.int .i64 a0.Line)), .d (.sl 1 (List.map dS a0.Hide)), .d (.sl 3 (List.map d_Call a0.Calls)), .d (.v (.int .i64 a0.Made))], [.d (.v (.int .i64 a1.Kind)), .d (.v (str a1.Text)), .d (.v (.bool a1.Space)), .d (.v (.bool a1.First)), .d (.v (.int .i64 a1.File)), .d (.v (.int .i64 a1.At)), .d (.v (.int .i64 a1.End)), .d (.v (.int .i64 a1.Line)), .d (.sl 1 (List.map dS a1.Hide)), .d (.sl 3 (List.map d_Call a1.Calls)), .d (.v (.int .i64 a1.Made))]]) [] H (xK ⟨[1,2], []⟩) ?_
      rintro n1 ⟨x2, x3⟩ o1 H hF1
      rw [preref1_SameToken_b2] at H
      refine xS ?_
      refine xr ?_
      rcases bsplit H with ⟨hp2, H⟩ | ⟨hp2, H⟩
      · obtain ⟨F, G, hq2⟩ := xH Y G hp2
        refine xT ?_
        refine xr ?_
        obtain ⟨hg1, H⟩ := gsplit H
        have F := xZ Y (map_getD dS a0.Hide x3.toNat default default (by omega))
        obtain ⟨hg2, H⟩ := gsplit H
        have F := xZ F (map_getD dS a1.Hide x3.toNat default default (by omega))
        refine xR ?_
        rcases bsplit H with ⟨hp3, H⟩ | ⟨hp3, H⟩
        · obtain ⟨F, G, hq3⟩ := xH Y G hp3
          refine xT ?_
          replace H := inrO_fin H hF1
          replace H := Option.some.inj H
          refine xr ?_
          subst H
          exact xN
        · obtain ⟨F, G, hq3⟩ := xH Y G hp3
          refine xE ?_
          refine xr ?_
          exact round_at (inl_fin H hF1) (xK ⟨[1,2], []⟩)
      · obtain ⟨F, G, hq2⟩ := xH Y G hp2
        replace H := inrO_fin H hF1
        refine xE ?_
        refine xr ?_
        refine w_loop (preref1_SameToken_b3 a0 a1) (fun s => [(2, .c (.pt 1 0)), (3, .c (.pt 2 0)), (106, .c (.d (.v (.int .i64 s.1)))), (107, .c (.d (.v (.int .i64 s.2))))]) (fun s => [[.d (.v (.int .i64 a0.Kind)), .d (.v (str a0.Text)), .d (.v (.bool a0.Space)), .d (.v (.bool a0.First)), .d (.v (.int .i64 a0.File)), .d (.v (.int .i64 a0.At)), .d (.v (.int .i64 a0.End)), .d (.v (.int .i64 a0.Line)), .d (.sl 1 (List.map dS a0.Hide)), .d (.sl 3 (List.map d_Call a0.Calls)), .d (.v (.int .i64 a0.Made))], [.d (.v (.int .i64 a1.Kind)), .d (.v (str a1.Text)), .d (.v (.bool a1.Space)), .d (.v (.bool a1.First)), .d (.v (.int .i64 a1.File)), .d (.v (.int .i64 a1.At)), .d (.v (.int .i64 a1.End)), .d (.v (.int .i64 a1.Line)), .d (.sl 1 (List.map dS a1.Hide)), .d (.sl 3 (List.map d_Call a1.Calls)), .d (.v (.int .i64 a1.Made))]]) [] H (xK ⟨[1,2], []⟩) ?_
        rintro n2 ⟨x4, x5⟩ o2 H hF2
        rw [preref1_SameToken_b3] at H
        refine xS ?_
        refine xr ?_
        rcases bsplit H with ⟨hp4, H⟩ | ⟨hp4, H⟩
        · obtain ⟨F, G, hq4⟩ := xH Y G hp4
          refine xT ?_
          refine xr ?_
          obtain ⟨hg3, H⟩ := gsplit H
          have F := xZ Y (map_getD d_Call a0.Calls x5.toNat default default (by omega))
          obtain ⟨hg4, H⟩ := gsplit H
          have F := xZ F (map_getD d_Call a1.Calls x5.toNat default default (by omega))
          refine xR ?_
          rcases bsplit H with ⟨hp5, H⟩ | ⟨hp5, H⟩
          · obtain ⟨F, G, hq5⟩ := xH Y G hp5
            refine xT ?_
            replace H := inrO_fin H hF2
            replace H := Option.some.inj H
            refine xr ?_
            subst H
            exact xN
          · obtain ⟨F, G, hq5⟩ := xH Y G hp5
            refine xE ?_
            refine xr ?_
            exact round_at (inl_fin H hF2) (xK ⟨[1,2], []⟩)
        · obtain ⟨F, G, hq4⟩ := xH Y G hp4
          replace H := inrO_fin H hF2
          refine xE ?_
          replace H := Option.some.inj H
          refine xr ?_
          subst H
          exact xN
theorem preref1_SameToken_c (a0 : Token) (a1 : Token) (r : Bool) (H : preref1_SameToken a0 a1 = some r) : PC pf_preref1_SameToken [d_Token a0, d_Token a1] (dB r) := PF.c (a := (a0, a1)) H
noncomputable def preref1_SameTokens_b1 (a0 : List Token) (a1 : List Token) : (Int × Int) → Option ((Int × Int) ⊕ Bool)
  | (x1, x2) => if (ltI x2 x1) = true then if (0 : Int) ≤ x2 ∧ x2.toNat < a0.length then if (0 : Int) ≤ x2 ∧ x2.toNat < a1.length then (preref1_SameToken (a0.getD x2.toNat default) (a1.getD x2.toNat default)).bind fun r1 => if (!r1) = true then inrO (some false) else some (.inl (x1, IntKind.i64.wrap (x2 + 1))) else none else none else inrO (some true)
noncomputable def preref1_SameTokens (a0 : List Token) (a1 : List Token) : Option Bool :=
  if (!eqI (a0.length : Int) (a1.length : Int)) = true then some false else loopO (preref1_SameTokens_b1 a0 a1) ((a0.length : Int), 0)
noncomputable def pf_preref1_SameTokens : PF := PF.of (E2 (dL 11 d_Token) (dL 11 d_Token)) (fun a => preref1_SameTokens a.1 a.2) dB
set_option maxRecDepth 100000 in
set_option maxHeartbeats 4000000 in
theorem preref1_SameTokens_ok : PureOk Try.prog 47 pf_preref1_SameTokens := by
  refine xF mixed [(25, pf_preref1_SameToken)] [] ⟨⟨call_25, preref1_SameToken_ok⟩, trivial⟩ trivial Try.func47 ?_
  rintro ⟨a0, a1⟩ out H
  have G := True.intro
  have Y := xZ y_30 <| xZ y_45 <| xZ Try.results47 <| xZ d_Call.eq_1 <| d_Token.eq_1
  simp only [preref1_SameTokens] at H
  refine xS ?_
  refine xr ?_
  refine xr ?_
  rcases bsplit H with ⟨hp1, H⟩ | ⟨hp1, H⟩
  · obtain ⟨F, G, hq1⟩ := xH Y G hp1
    refine xT ?_
    replace H := Option.some.inj H
    refine xr ?_
    subst H
    exact xN
  · obtain ⟨F, G, hq1⟩ := xH Y G hp1
    refine xE ?_
    refine xr ?_
    refine w_loop (preref1_SameTokens_b1 a0 a1) (fun s => [(0, .c (.d (.sl 11 (List.map d_Token a0)))), (1, .c (.d (.sl 11 (List.map d_Token a1)))), (12, .c (.d (.v (.int .i64 s.1)))), (13, .c (.d (.v (.int .i64 s.2))))]) (fun s => []) [] H (xK ⟨[], []⟩) ?_
    rintro n1 ⟨x1, x2⟩ o1 H hF1
    rw [preref1_SameTokens_b1] at H
    refine xS ?_
    refine xr ?_
    rcases bsplit H with ⟨hp2, H⟩ | ⟨hp2, H⟩
    · obtain ⟨F, G, hq2⟩ := xH Y G hp2
      refine xT ?_
      refine xr ?_
      obtain ⟨hg1, H⟩ := gsplit H
      have F := xZ Y (map_getD d_Token a0 x2.toNat default default (by omega))
      obtain ⟨hg2, H⟩ := gsplit H
      have F := xZ F (map_getD d_Token a1 x2.toNat default default (by omega))
      obtain ⟨r1, hr1, H⟩ := osplit H
      have F := xCf F (preref1_SameToken_c (a0.getD x2.toNat default) (a1.getD x2.toNat default) r1 hr1)
      refine xR ?_
      rcases bsplit H with ⟨hp3, H⟩ | ⟨hp3, H⟩
      · obtain ⟨F, G, hq3⟩ := xH Y G hp3
        refine xT ?_
        replace H := inrO_fin H hF1
        replace H := Option.some.inj H
        refine xr ?_
        subst H
        exact xN
      · obtain ⟨F, G, hq3⟩ := xH Y G hp3
        refine xE ?_
        refine xr ?_
        exact round_at (inl_fin H hF1) (xK ⟨[], []⟩)
    · obtain ⟨F, G, hq2⟩ := xH Y G hp2
      replace H := inrO_fin H hF1
      refine xE ?_
      replace H := Option.some.inj H
      refine xr ?_
      subst H
      exact xN
theorem preref1_SameTokens_c (a0 : List Token) (a1 : List Token) (r : Bool) (H : preref1_SameTokens a0 a1 = some r) : PC pf_preref1_SameTokens [(dL 11 d_Token) a0, (dL 11 d_Token) a1] (dB r) := PF.c (a := (a0, a1)) H
noncomputable def preref4_Equal_j1 : Bool → Option Bool
  | x1 => some x1
noncomputable def preref4_Equal (a0 : Macro) (a1 : Macro) : Option Bool :=
  (preref4_SameMacro a0 a1).bind fun r1 => if r1 = true then (preref1_SameTokens a0.Body a1.Body).bind fun r2 => preref4_Equal_j1 r2 else preref4_Equal_j1 false
noncomputable def pf_preref4_Equal : PF := PF.of (E2 d_Macro d_Macro) (fun a => preref4_Equal a.1 a.2) dB
set_option maxRecDepth 100000 in
set_option maxHeartbeats 4000000 in
theorem preref4_Equal_ok : PureOk Try.prog 13 pf_preref4_Equal := by
  refine xF mixed [(15, pf_preref4_SameMacro), (47, pf_preref1_SameTokens)] [] ⟨⟨call_15, preref4_SameMacro_ok⟩, ⟨call_47, preref1_SameTokens_ok⟩, trivial⟩ trivial Try.func13 ?_
  rintro ⟨a0, a1⟩ out H
  have G := True.intro
  have Y := xZ y_30 <| xZ y_32 <| xZ Try.results13 <| xZ d_Call.eq_1 <| xZ d_Token.eq_1 <| d_Macro.eq_1
  simp only [preref4_Equal] at H
  refine xS ?_
  refine xr0 ?_
  refine then_normal ?_
  refine w_cut preref4_Equal_j1 (fun s => [(4, .c (.d (.v (.bool s))))]) (fun s => []) [] out ?_ ?_
  · obtain ⟨r1, hr1, H⟩ := osplit H
    have F := xC Y (preref4_SameMacro_c a0 a1 r1 hr1)
    rcases bsplit H with ⟨hp1, H⟩ | ⟨hp1, H⟩
    · obtain ⟨F, G, hq1⟩ := xH F G hp1
      obtain ⟨r2, hr2, H⟩ := osplit H
      have F := xCf F (preref1_SameTokens_c a0.Body a1.Body r2 hr2)
      refine xR ?_
      exact cut_at H (xK ⟨[], []⟩)
    · obtain ⟨F, G, hq1⟩ := xH F G hp1
      refine xR ?_
      exact cut_at H (xK ⟨[], []⟩)
  · rintro x1 H
    rw [preref4_Equal_j1] at H
    replace H := Option.some.inj H
    refine xS ?_
    subst H
    exact xN
theorem preref4_Equal_c (a0 : Macro) (a1 : Macro) (r : Bool) (H : preref4_Equal a0 a1 = some r) : PC pf_preref4_Equal [d_Macro a0, d_Macro a1] (dB r) := PF.c (a := (a0, a1)) H
noncomputable def slices_Equal_s_string_string_b1 (a0 : List (List UInt8)) (a1 : List (List UInt8)) : (Int × Int) → Option ((Int × Int) ⊕ Bool)
  | (x1, x2) => if (ltI x2 x1) = true then if (0 : Int) ≤ x2 ∧ x2.toNat < a0.length then if (0 : Int) ≤ x2 ∧ x2.toNat < a1.length then if (!eqS (a0.getD x2.toNat default) (a1.getD x2.toNat default)) = true then inrO (some false) else some (.inl (x1, IntKind.i64.wrap (x2 + 1))) else none else none else inrO (some true)
noncomputable def slices_Equal_s_string_string (a0 : List (List UInt8)) (a1 : List (List UInt8)) : Option Bool :=
  if (!eqI (a0.length : Int) (a1.length : Int)) = true then some false else loopO (slices_Equal_s_string_string_b1 a0 a1) ((a0.length : Int), 0)
noncomputable def pf_slices_Equal_s_string_string : PF := PF.of (E2 (dL 1 dS) (dL 1 dS)) (fun a => slices_Equal_s_string_string a.1 a.2) dB
set_option maxRecDepth 100000 in
set_option maxHeartbeats 4000000 in
theorem slices_Equal_s_string_string_ok : PureOk Try.prog 48 pf_slices_Equal_s_string_string := by
  refine xF mixed [] [] trivial trivial Try.func48 ?_
  rintro ⟨a0, a1⟩ out H
  have G := True.intro
  have Y := xZ y_9 <| xZ y_28 <| Try.results48
  simp only [slices_Equal_s_string_string] at H
  refine xS ?_
  refine xr ?_
  refine xr ?_
  rcases bsplit H with ⟨hp1, H⟩ | ⟨hp1, H⟩
  · obtain ⟨F, G, hq1⟩ := xH Y G hp1
    refine xT ?_
    replace H := Option.some.inj H
    refine xr ?_
    subst H
    exact xN
  · obtain ⟨F, G, hq1⟩ := xH Y G hp1
    refine xE ?_
    refine xr ?_
    refine w_loop (slices_Equal_s_string_string_b1 a0 a1) (fun s => [(0, .c (.d (.sl 1 (List.map dS a0)))), (1, .c (.d (.sl 1 (List.map dS a1)))), (12, .c (.d (.v (.int .i64 s.1)))), (13, .c (.d (.v (.int .i64 s.2))))]) (fun s => []) [] H (xK ⟨[], []⟩) ?_
    rintro n1 ⟨x1, x2⟩ o1 H hF1
    rw [slices_Equal_s_string_string_b1] at H
    refine xS ?_
    refine xr ?_
    rcases bsplit H with ⟨hp2, H⟩ | ⟨hp2, H⟩
    · obtain ⟨F, G, hq2⟩ := xH Y G hp2
      refine xT ?_
      refine xr ?_
      obtain ⟨hg1, H⟩ := gsplit H
      have F := xZ Y (map_getD dS a0 x2.toNat default default (by omega))
      obtain ⟨hg2, H⟩ := gsplit H
      have F := xZ F (map_getD dS a1 x2.toNat default default (by omega))
      refine xR ?_
      rcases bsplit H with ⟨hp3, H⟩ | ⟨hp3, H⟩
      · obtain ⟨F, G, hq3⟩ := xH Y G hp3
        refine xT ?_
        replace H := inrO_fin H hF1
        replace H := Option.some.inj H
        refine xr ?_
        subst H
        exact xN
      · obtain ⟨F, G, hq3⟩ := xH Y G hp3
        refine xE ?_
        refine xr ?_
        exact round_at (inl_fin H hF1) (xK ⟨[], []⟩)
    · obtain ⟨F, G, hq2⟩ := xH Y G hp2
      replace H := inrO_fin H hF1
      refine xE ?_
      replace H := Option.some.inj H
      refine xr ?_
      subst H
      exact xN
theorem slices_Equal_s_string_string_c (a0 : List (List UInt8)) (a1 : List (List UInt8)) (r : Bool) (H : slices_Equal_s_string_string a0 a1 = some r) : PC pf_slices_Equal_s_string_string [(dL 1 dS) a0, (dL 1 dS) a1] (dB r) := PF.c (a := (a0, a1)) H
noncomputable def macro_Same_1_j1 : Bool → Option Bool
  | x1 => some x1
noncomputable def macro_Same_1 (a0 : Token) (a1 : Token) : Option Bool :=
  if (eqI a0.Kind a1.Kind) = true then if (eqS a0.Text a1.Text) = true then macro_Same_1_j1 (eqB a0.Space a1.Space) else macro_Same_1_j1 false else macro_Same_1_j1 false
noncomputable def pf_macro_Same_1 : PF := PF.of (E2 d_Token d_Token) (fun a => macro_Same_1 a.1 a.2) dB
set_option maxRecDepth 100000 in
set_option maxHeartbeats 4000000 in
theorem macro_Same_1_ok : PureOk Try.prog 50 pf_macro_Same_1 := by
  refine xF mixed [] [] trivial trivial Try.func50 ?_
  rintro ⟨a0, a1⟩ out H
  have G := True.intro
  have Y := xZ y_3 <| xZ y_4 <| xZ y_9 <| xZ y_45 <| xZ Try.results50 <| xZ d_Call.eq_1 <| d_Token.eq_1
  simp only [macro_Same_1] at H
  refine xS ?_
  refine xr0 ?_
  refine then_normal ?_
  refine w_cut macro_Same_1_j1 (fun s => [(4, .c (.d (.v (.bool s))))]) (fun s => []) [] out ?_ ?_
  · rcases bsplit H with ⟨hp1, H⟩ | ⟨hp1, H⟩
    · obtain ⟨F, G, hq1⟩ := xH Y G hp1
      rcases bsplit H with ⟨hp2, H⟩ | ⟨hp2, H⟩
      · obtain ⟨F, G, hq2⟩ := xH F G hp2
        refine xR ?_
        exact cut_at H (xK ⟨[], []⟩)
      · obtain ⟨F, G, hq2⟩ := xH F G hp2
        refine xR ?_
        exact cut_at H (xK ⟨[], []⟩)
    · obtain ⟨F, G, hq1⟩ := xH Y G hp1
      refine xR ?_
      exact cut_at H (xK ⟨[], []⟩)
  · rintro x1 H
    rw [macro_Same_1_j1] at H
    replace H := Option.some.inj H
    refine xS ?_
    subst H
    exact xN
theorem macro_Same_1_c (a0 : Token) (a1 : Token) (r : Bool) (H : macro_Same_1 a0 a1 = some r) : PC pf_macro_Same_1 [d_Token a0, d_Token a1] (dB r) := PF.c (a := (a0, a1)) H
noncomputable def slices_EqualFunc_s_api_Token_s_api_Token_api_Token_api_Token_b1 (a0 : List Token) (a1 : List Token) : (Int × Int) → Option ((Int × Int) ⊕ Bool)
  | (x1, x2) => if (ltI x2 x1) = true then if (0 : Int) ≤ x2 ∧ x2.toNat < a0.length then if (0 : Int) ≤ x2 ∧ x2.toNat < a1.length then (macro_Same_1 (a0.getD x2.toNat default) (a1.getD x2.toNat default)).bind fun r1 => if (!r1) = true then inrO (some false) else some (.inl (x1, IntKind.i64.wrap (x2 + 1))) else none else none else inrO (some true)
noncomputable def slices_EqualFunc_s_api_Token_s_api_Token_api_Token_api_Token (a0 : List Token) (a1 : List Token) : Option Bool :=
  if (!eqI (a0.length : Int) (a1.length : Int)) = true then some false else loopO (slices_EqualFunc_s_api_Token_s_api_Token_api_Token_api_Token_b1 a0 a1) ((a0.length : Int), 0)
def g_slices_EqualFunc_s_api_Token_s_api_Token_api_Token_api_Token (a0 : List Token) (a1 : List Token) (r : Bool) : GI :=
  ⟨[.c (.d (.sl 11 (List.map d_Token a0))), .c (.d (.sl 11 (List.map d_Token a1))), .c (.d (.v (.func (.func 50) #[] #[])))], [], [], .ret (.c (.d (.v (.bool r)))) [] []⟩
def S_slices_EqualFunc_s_api_Token_s_api_Token_api_Token_api_Token : GI → Prop := fun g => ∃ (a0 : List Token) (a1 : List Token) (r : Bool), slices_EqualFunc_s_api_Token_s_api_Token_api_Token_api_Token a0 a1 = some r ∧ g = g_slices_EqualFunc_s_api_Token_s_api_Token_api_Token_api_Token a0 a1 r
theorem slices_EqualFunc_s_api_Token_s_api_Token_api_Token_api_Token_c (a0 : List Token) (a1 : List Token) (r : Bool) (H : slices_EqualFunc_s_api_Token_s_api_Token_api_Token_api_Token a0 a1 = some r) : S_slices_EqualFunc_s_api_Token_s_api_Token_api_Token_api_Token (g_slices_EqualFunc_s_api_Token_s_api_Token_api_Token_api_Token a0 a1 r) := ⟨a0, a1, r, H, rfl⟩
set_option maxRecDepth 100000 in
set_option maxHeartbeats 4000000 in
theorem slices_EqualFunc_s_api_Token_s_api_Token_api_Token_api_Token_ok : ∀ g, S_slices_EqualFunc_s_api_Token_s_api_Token_api_Token_api_Token g → GenOk Try.prog 49 g := by
  rintro _ ⟨a0, a1, r, H, rfl⟩
  refine xGn mixed [(50, pf_macro_Same_1)] [] [] ⟨⟨call_50, macro_Same_1_ok⟩, trivial⟩ trivial trivial Try.func49 _ ?_
  have G := True.intro
  have Y := xZ y_30 <| xZ y_45 <| xZ Try.results49 <| xZ d_Call.eq_1 <| xZ d_Token.eq_1 <| g_slices_EqualFunc_s_api_Token_s_api_Token_api_Token_api_Token.eq_1
  dsimp only [g_slices_EqualFunc_s_api_Token_s_api_Token_api_Token_api_Token]
  simp only [slices_EqualFunc_s_api_Token_s_api_Token_api_Token_api_Token] at H
  refine xS ?_
  refine xr ?_
  refine xr ?_
  rcases bsplit H with ⟨hp1, H⟩ | ⟨hp1, H⟩
  · obtain ⟨F, G, hq1⟩ := xH Y G hp1
    refine xT ?_
    replace H := Option.some.inj H
    refine xr ?_
    subst H
    refine xOr ?_
    refine qDf [] ?_
    exact xO ⟨[], []⟩
  · obtain ⟨F, G, hq1⟩ := xH Y G hp1
    refine xE ?_
    refine xr ?_
    refine w_loop (slices_EqualFunc_s_api_Token_s_api_Token_api_Token_api_Token_b1 a0 a1) (fun s => [(1, .c (.d (.sl 11 (List.map d_Token a1)))), (2, .c (.d (.v (.func (.func 50) #[] #[])))), (15, .c (.d (.sl 11 (List.map d_Token a0)))), (16, .c (.d (.v (.int .i64 s.1)))), (17, .c (.d (.v (.int .i64 s.2))))]) (fun s => []) [] H (xK ⟨[], []⟩) ?_
    rintro n1 ⟨x1, x2⟩ o1 H hF1
    rw [slices_EqualFunc_s_api_Token_s_api_Token_api_Token_api_Token_b1] at H
    refine xS ?_
    refine xr ?_
    rcases bsplit H with ⟨hp2, H⟩ | ⟨hp2, H⟩
    · obtain ⟨F, G, hq2⟩ := xH Y G hp2
      refine xT ?_
      obtain ⟨hg1, H⟩ := gsplit H
      have F := xZ Y (map_getD d_Token a0 x2.toNat default default (by omega))
      refine xR ?_
      obtain ⟨hg2, H⟩ := gsplit H
      have F := xZ Y (map_getD d_Token a1 x2.toNat default default (by omega))
      refine xR ?_
      obtain ⟨r1, hr1, H⟩ := osplit H
      have F := xC Y (macro_Same_1_c (a0.getD x2.toNat default) (a1.getD x2.toNat default) r1 hr1)
      refine xR ?_
      rcases bsplit H with ⟨hp3, H⟩ | ⟨hp3, H⟩
      · obtain ⟨F, G, hq3⟩ := xH Y G hp3
        refine xT ?_
        replace H := inrO_fin H hF1
        replace H := Option.some.inj H
        refine xr ?_
        subst H
        refine xOr ?_
        refine qDf [] ?_
        exact xO ⟨[], []⟩
      · obtain ⟨F, G, hq3⟩ := xH Y G hp3
        refine xE ?_
        refine xr ?_
        exact round_at (inl_fin H hF1) (xK ⟨[], []⟩)
    · obtain ⟨F, G, hq2⟩ := xH Y G hp2
      replace H := inrO_fin H hF1
      refine xE ?_
      replace H := Option.some.inj H
      refine xr ?_
      subst H
      refine xOr ?_
      refine qDf [] ?_
      exact xO ⟨[], []⟩
theorem slices_EqualFunc_s_api_Token_s_api_Token_api_Token_api_Token_k : Callable Try.prog 49 ∧ (∀ g, S_slices_EqualFunc_s_api_Token_s_api_Token_api_Token_api_Token g → GenOk Try.prog 49 g) ∧ (true = true → ∀ g, S_slices_EqualFunc_s_api_Token_s_api_Token_api_Token_api_Token g → ∃ val bs ts, g.out = .ret val bs ts) :=
  ⟨call_49, slices_EqualFunc_s_api_Token_s_api_Token_api_Token_api_Token_ok, fun _ => by rintro _ ⟨_, _, _, _, rfl⟩; exact ⟨_, _, _, rfl⟩⟩
noncomputable def macro_Same_j1 : Bool → Option Bool
  | x1 => some x1
noncomputable def macro_Same (a0 : Macro) (a1 : Macro) : Option Bool :=
  if (eqS a0.Name a1.Name) = true then if (eqB a0.Call a1.Call) = true then if (eqB a0.More a1.More) = true then (slices_Equal_s_string_string a0.Params a1.Params).bind fun r1 => if r1 = true then (slices_EqualFunc_s_api_Token_s_api_Token_api_Token_api_Token a0.Body a1.Body).bind fun r2 => macro_Same_j1 r2 else macro_Same_j1 false else macro_Same_j1 false else macro_Same_j1 false else macro_Same_j1 false
noncomputable def pf_macro_Same : PF := PF.of (E2 d_Macro d_Macro) (fun a => macro_Same a.1 a.2) dB
set_option maxRecDepth 100000 in
set_option maxHeartbeats 4000000 in
theorem macro_Same_ok : PureOk Try.prog 14 pf_macro_Same := by
  refine xF mixed [(48, pf_slices_Equal_s_string_string)] [(49, true, S_slices_EqualFunc_s_api_Token_s_api_Token_api_Token_api_Token)] ⟨⟨call_48, slices_Equal_s_string_string_ok⟩, trivial⟩ ⟨slices_EqualFunc_s_api_Token_s_api_Token_api_Token_api_Token_k, trivial⟩ Try.func14 ?_
  rintro ⟨a0, a1⟩ out H
  have G := True.intro
  have Y := xZ y_4 <| xZ y_9 <| xZ y_28 <| xZ y_30 <| xZ y_32 <| xZ Try.results14 <| xZ d_Call.eq_1 <| xZ d_Token.eq_1 <| xZ d_Macro.eq_1 <| g_slices_EqualFunc_s_api_Token_s_api_Token_api_Token_api_Token.eq_1
  simp only [macro_Same] at H
  refine xS ?_
  refine xr0 ?_
  refine then_normal ?_
  refine w_cut macro_Same_j1 (fun s => [(4, .c (.d (.v (.bool s))))]) (fun s => []) [] out ?_ ?_
  · rcases bsplit H with ⟨hp1, H⟩ | ⟨hp1, H⟩
    · obtain ⟨F, G, hq1⟩ := xH Y G hp1
      rcases bsplit H with ⟨hp2, H⟩ | ⟨hp2, H⟩
      · obtain ⟨F, G, hq2⟩ := xH F G hp2
        rcases bsplit H with ⟨hp3, H⟩ | ⟨hp3, H⟩
        · obtain ⟨F, G, hq3⟩ := xH F G hp3
          obtain ⟨r1, hr1, H⟩ := osplit H
          have F := xCf F (slices_Equal_s_string_string_c a0.Params a1.Params r1 hr1)
          rcases bsplit H with ⟨hp4, H⟩ | ⟨hp4, H⟩
          · obtain ⟨F, G, hq4⟩ := xH F G hp4
            obtain ⟨r2, hr2, H⟩ := osplit H
            have F := F
            refine xQ ?_
            refine xs 31 ?_
            refine xc ⟨[], []⟩ (tabG 0 (slices_EqualFunc_s_api_Token_s_api_Token_api_Token_api_Token_c a0.Body a1.Body r2 hr2)) ?_
            refine xs 2 ?_
            refine xl ?_
            refine xS ?_
            exact cut_at H (xK ⟨[], []⟩)
          · obtain ⟨F, G, hq4⟩ := xH F G hp4
            refine xR ?_
            exact cut_at H (xK ⟨[], []⟩)
        · obtain ⟨F, G, hq3⟩ := xH F G hp3
          refine xR ?_
          exact cut_at H (xK ⟨[], []⟩)
      · obtain ⟨F, G, hq2⟩ := xH F G hp2
        refine xR ?_
        exact cut_at H (xK ⟨[], []⟩)
    · obtain ⟨F, G, hq1⟩ := xH Y G hp1
      refine xR ?_
      exact cut_at H (xK ⟨[], []⟩)
  · rintro x1 H
    rw [macro_Same_j1] at H
    replace H := Option.some.inj H
    refine xS ?_
    subst H
    exact xN
theorem macro_Same_c (a0 : Macro) (a1 : Macro) (r : Bool) (H : macro_Same a0 a1 = some r) : PC pf_macro_Same [d_Macro a0, d_Macro a1] (dB r) := PF.c (a := (a0, a1)) H
end Go.Proofs.Ytkhcecpbbmfcaaa
