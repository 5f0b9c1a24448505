/- Functions of data for functions of the program. Written by dec3.py. -/
import Derived.Test.YtkhcecpbbmfcaaaZam
set_option linter.unusedVariables false
set_option linter.unusedSimpArgs false
namespace Go.Proofs.Ytkhcecpbbmfcaaa
open Go.RowKit
noncomputable def preref1_Sticks_j1 : Bool → Option Bool
  | x1 => some x1
noncomputable def preref1_Sticks (a0 : List UInt8) (a1 : List UInt8) : Option Bool :=
  if a0.length + a1.length ≤ 9223372036854775807 then (preref1_Tokens 0 (a0 ++ a1)).bind fun r1 => if (!eqI r1.2.Err 0) = true then preref1_Sticks_j1 true else if (!eqI (r1.1.length : Int) 2) = true then preref1_Sticks_j1 true else if 0 < r1.1.length then if (!eqS ((r1.1.getD 0 default).Text) a0) = true then preref1_Sticks_j1 true else if 1 < r1.1.length then preref1_Sticks_j1 (!eqS ((r1.1.getD 1 default).Text) a1) else none else none else none
noncomputable def pf_preref1_Sticks : PF := PF.of (E2 dS dS) (fun a => preref1_Sticks a.1 a.2) dB
set_option maxRecDepth 100000 in
set_option maxHeartbeats 4000000 in
theorem preref1_Sticks_ok : PureOk Try.prog 71 pf_preref1_Sticks := by
  refine xF mixed [(31, pf_preref1_Tokens)] [] ⟨⟨call_31, preref1_Tokens_ok⟩, trivial⟩ trivial Try.func71 ?_
  rintro ⟨a0, a1⟩ out H
  have G := True.intro
  have Y := xZ y_9 <| xZ y_22 <| xZ y_24 <| xZ y_30 <| xZ y_45 <| xZ Try.results71 <| xZ d_Call.eq_1 <| xZ d_Token.eq_1 <| d_Fault.eq_1
  simp only [preref1_Sticks] at H
  refine xS ?_
  refine xr ?_
  obtain ⟨hg1, H⟩ := gsplit H
  obtain ⟨r1, hr1, H⟩ := osplit H
  have F := xC Y (preref1_Tokens_c 0 (a0 ++ a1) r1 hr1)
  refine xR0 ?_
  refine then_normal ?_
  refine w_cut preref1_Sticks_j1 (fun s => [(4, .c (.d (.v (.bool s))))]) (fun s => []) [] out ?_ ?_
  · rcases bsplit H with ⟨hp1, H⟩ | ⟨hp1, H⟩
    · obtain ⟨F, G, hq1⟩ := xH Y G hp1
      refine xR ?_
      exact cut_at H (xK ⟨[], []⟩)
    · obtain ⟨F, G, hq1⟩ := xH Y G hp1
      rcases bsplit H with ⟨hp2, H⟩ | ⟨hp2, H⟩
      · obtain ⟨F, G, hq2⟩ := xH F G hp2
        refine xR ?_
        exact cut_at H (xK ⟨[], []⟩)
      · obtain ⟨F, G, hq2⟩ := xH F G hp2
        obtain ⟨hg2, H⟩ := gsplit H
        have F := xZ F (map_getD d_Token r1.1 0 default default (by omega))
        rcases bsplit H with ⟨hp3, H⟩ | ⟨hp3, H⟩
        · obtain ⟨F, G, hq3⟩ := xH F G hp3
          refine xR ?_
          exact cut_at H (xK ⟨[], []⟩)
        · obtain ⟨F, G, hq3⟩ := xH F G hp3
          obtain ⟨hg3, H⟩ := gsplit H
          have F := xZ F (map_getD d_Token r1.1 1 default default (by omega))
          refine xR ?_
          exact cut_at H (xK ⟨[], []⟩)
  · rintro x1 H
    rw [preref1_Sticks_j1] at H
    replace H := Option.some.inj H
    refine xS ?_
    subst H
    exact xN
theorem preref1_Sticks_c (a0 : List UInt8) (a1 : List UInt8) (r : Bool) (H : preref1_Sticks a0 a1 = some r) : PC pf_preref1_Sticks [dS a0, dS a1] (dB r) := PF.c (a := (a0, a1)) H
noncomputable def preref1_Join_j2 (x2 : Int) (x3 : Int) : ((List UInt8) × Int × (List UInt8) × Bool × Bool × Int × Int × Int × Int × (List (List UInt8)) × (List Call) × Int) → Option (((List UInt8) × Int × Int) ⊕ (List UInt8))
  | (x4, x5, x6, x7, x8, x9, x10, x11, x12, x13, x14, x15) => if x4.length + x6.length ≤ 9223372036854775807 then some (.inl (x4 ++ x6, x2, IntKind.i64.wrap (x3 + 1))) else none
noncomputable def preref1_Join_j3 (x1 : List UInt8) (x2 : Int) (x3 : Int) : (Bool × Int × (List UInt8) × Bool × Bool × Int × Int × Int × Int × (List (List UInt8)) × (List Call) × Int) → Option (((List UInt8) × Int × Int) ⊕ (List UInt8))
  | (x16, x17, x18, x19, x20, x21, x22, x23, x24, x25, x26, x27) => if x16 = true then if x1.length + 1 ≤ 9223372036854775807 then preref1_Join_j2 x2 x3 (x1 ++ [32], x17, x18, x19, x20, x21, x22, x23, x24, x25, x26, x27) else none else preref1_Join_j2 x2 x3 (x1, x17, x18, x19, x20, x21, x22, x23, x24, x25, x26, x27)
noncomputable def preref1_Join_b1 (a0 : List Token) : ((List UInt8) × Int × Int) → Option (((List UInt8) × Int × Int) ⊕ (List UInt8))
  | (x1, x2, x3) => if (ltI x3 x2) = true then if (0 : Int) ≤ x3 ∧ x3.toNat < a0.length then if (ltI 0 x3) = true then if ((a0.getD x3.toNat default).Space) = true then preref1_Join_j3 x1 x2 x3 (true, (a0.getD x3.toNat default).Kind, (a0.getD x3.toNat default).Text, (a0.getD x3.toNat default).Space, (a0.getD x3.toNat default).First, (a0.getD x3.toNat default).File, (a0.getD x3.toNat default).At, (a0.getD x3.toNat default).End, (a0.getD x3.toNat default).Line, (a0.getD x3.toNat default).Hide, (a0.getD x3.toNat default).Calls, (a0.getD x3.toNat default).Made) else if (0 : Int) ≤ (IntKind.i64.wrap (x3 - 1)) ∧ (IntKind.i64.wrap (x3 - 1)).toNat < a0.length then (preref1_Sticks ((a0.getD ((IntKind.i64.wrap (x3 - 1)).toNat) default).Text) ((a0.getD x3.toNat default).Text)).bind fun r1 => preref1_Join_j3 x1 x2 x3 (r1, (a0.getD x3.toNat default).Kind, (a0.getD x3.toNat default).Text, (a0.getD x3.toNat default).Space, (a0.getD x3.toNat default).First, (a0.getD x3.toNat default).File, (a0.getD x3.toNat default).At, (a0.getD x3.toNat default).End, (a0.getD x3.toNat default).Line, (a0.getD x3.toNat default).Hide, (a0.getD x3.toNat default).Calls, (a0.getD x3.toNat default).Made) else none else preref1_Join_j3 x1 x2 x3 (false, (a0.getD x3.toNat default).Kind, (a0.getD x3.toNat default).Text, (a0.getD x3.toNat default).Space, (a0.getD x3.toNat default).First, (a0.getD x3.toNat default).File, (a0.getD x3.toNat default).At, (a0.getD x3.toNat default).End, (a0.getD x3.toNat default).Line, (a0.getD x3.toNat default).Hide, (a0.getD x3.toNat default).Calls, (a0.getD x3.toNat default).Made) else none else inrO (some x1)
noncomputable def preref1_Join (a0 : List Token) : Option (List UInt8) :=
  loopO (preref1_Join_b1 a0) ([], (a0.length : Int), 0)
noncomputable def pf_preref1_Join : PF := PF.of (E1 (dL 11 d_Token)) (fun a => preref1_Join a) dS
set_option maxRecDepth 100000 in
set_option maxHeartbeats 4000000 in
theorem preref1_Join_ok : PureOk Try.prog 40 pf_preref1_Join := by
  refine xF mixed [(71, pf_preref1_Sticks)] [] ⟨⟨call_71, preref1_Sticks_ok⟩, trivial⟩ trivial Try.func40 ?_
  rintro a0 out H
  have G := True.intro
  have Y := xZ y_4 <| xZ y_9 <| xZ y_30 <| xZ y_45 <| xZ Try.results40 <| xZ d_Call.eq_1 <| d_Token.eq_1
  simp only [preref1_Join] at H
  refine xS ?_
  refine xr ?_
  refine xr ?_
  refine xr ?_
  refine w_loop (preref1_Join_b1 a0) (fun s => [(0, .c (.d (.sl 11 (List.map d_Token a0)))), (3, .c (.d (.v (str s.1)))), (6, .c (.d (.sl 11 (List.map d_Token a0)))), (7, .c (.d (.v (.int .i64 s.2.1)))), (8, .c (.d (.v (.int .i64 s.2.2))))]) (fun s => []) [] H (xK ⟨[], []⟩) ?_
  rintro n1 ⟨x1, x2, x3⟩ o1 H hF1
  rw [preref1_Join_b1] at H
  refine xS ?_
  refine xr ?_
  rcases bsplit H with ⟨hp1, H⟩ | ⟨hp1, H⟩
  · obtain ⟨F, G, hq1⟩ := xH Y G hp1
    refine xT ?_
    obtain ⟨hg1, H⟩ := gsplit H
    have F := xZ Y (map_getD d_Token a0 x3.toNat default default (by omega))
    refine xR0 ?_
    refine then_normal ?_
    refine w_cut (preref1_Join_j2 x2 x3) (fun s => [(0, .c (.d (.sl 11 (List.map d_Token a0)))), (3, .c (.d (.v (str s.1)))), (5, .c (.pt 1 0)), (6, .c (.d (.sl 11 (List.map d_Token a0)))), (7, .c (.d (.v (.int .i64 x2)))), (8, .c (.d (.v (.int .i64 x3))))]) (fun s => [[.d (.v (.int .i64 s.2.1)), .d (.v (str s.2.2.1)), .d (.v (.bool s.2.2.2.1)), .d (.v (.bool s.2.2.2.2.1)), .d (.v (.int .i64 s.2.2.2.2.2.1)), .d (.v (.int .i64 s.2.2.2.2.2.2.1)), .d (.v (.int .i64 s.2.2.2.2.2.2.2.1)), .d (.v (.int .i64 s.2.2.2.2.2.2.2.2.1)), .d (.sl 1 (List.map dS s.2.2.2.2.2.2.2.2.2.1)), .d (.sl 3 (List.map d_Call s.2.2.2.2.2.2.2.2.2.2.1)), .d (.v (.int .i64 s.2.2.2.2.2.2.2.2.2.2.2))]]) [] o1 ?_ ?_
    · refine w_cut (preref1_Join_j3 x1 x2 x3) (fun s => [(0, .c (.d (.sl 11 (List.map d_Token a0)))), (3, .c (.d (.v (str x1)))), (5, .c (.pt 1 0)), (6, .c (.d (.sl 11 (List.map d_Token a0)))), (7, .c (.d (.v (.int .i64 x2)))), (8, .c (.d (.v (.int .i64 x3)))), (29, .c (.d (.v (.bool s.1))))]) (fun s => [[.d (.v (.int .i64 s.2.1)), .d (.v (str s.2.2.1)), .d (.v (.bool s.2.2.2.1)), .d (.v (.bool s.2.2.2.2.1)), .d (.v (.int .i64 s.2.2.2.2.2.1)), .d (.v (.int .i64 s.2.2.2.2.2.2.1)), .d (.v (.int .i64 s.2.2.2.2.2.2.2.1)), .d (.v (.int .i64 s.2.2.2.2.2.2.2.2.1)), .d (.sl 1 (List.map dS s.2.2.2.2.2.2.2.2.2.1)), .d (.sl 3 (List.map d_Call s.2.2.2.2.2.2.2.2.2.2.1)), .d (.v (.int .i64 s.2.2.2.2.2.2.2.2.2.2.2))]]) [] o1 ?_ ?_
      · rcases bsplit H with ⟨hp3, H⟩ | ⟨hp3, H⟩
        · obtain ⟨F, G, hq3⟩ := xH Y G hp3
          rcases bsplit H with ⟨hp4, H⟩ | ⟨hp4, H⟩
          · obtain ⟨F, G, hq4⟩ := xH F G hp4
            refine xR ?_
            exact cut_at H (xK ⟨[1], []⟩)
          · obtain ⟨F, G, hq4⟩ := xH F G hp4
            obtain ⟨hg4, H⟩ := gsplit H
            have F := xZ F (map_getD d_Token a0 ((IntKind.i64.wrap (x3 - 1)).toNat) default default (by omega))
            obtain ⟨r1, hr1, H⟩ := osplit H
            have F := xCf F (preref1_Sticks_c ((a0.getD ((IntKind.i64.wrap (x3 - 1)).toNat) default).Text) ((a0.getD x3.toNat default).Text) r1 hr1)
            refine xR ?_
            exact cut_at H (xK ⟨[1], []⟩)
        · obtain ⟨F, G, hq3⟩ := xH Y G hp3
          refine xR ?_
          exact cut_at H (xK ⟨[1], []⟩)
      · rintro ⟨x16, x17, x18, x19, x20, x21, x22, x23, x24, x25, x26, x27⟩ H
        rw [preref1_Join_j3] at H
        rcases bsplit H with ⟨hp2, H⟩ | ⟨hp2, H⟩
        · obtain ⟨F, G, hq2⟩ := xH Y G hp2
          refine xT ?_
          obtain ⟨hg3, H⟩ := gsplit H
          refine xr ?_
          exact cut_at H (xK ⟨[1], []⟩)
        · obtain ⟨F, G, hq2⟩ := xH Y G hp2
          refine xE ?_
          exact cut_at H (xK ⟨[1], []⟩)
    · rintro ⟨x4, x5, x6, x7, x8, x9, x10, x11, x12, x13, x14, x15⟩ H
      rw [preref1_Join_j2] at H
      obtain ⟨hg2, H⟩ := gsplit H
      refine xr ?_
      refine xr ?_
      exact round_at (inl_fin H hF1) (xK ⟨[], []⟩)
  · obtain ⟨F, G, hq1⟩ := xH Y G hp1
    replace H := inrO_fin H hF1
    refine xE ?_
    replace H := Option.some.inj H
    refine xr ?_
    subst H
    exact xN
theorem preref1_Join_c (a0 : List Token) (r : (List UInt8)) (H : preref1_Join a0 = some r) : PC pf_preref1_Join [(dL 11 d_Token) a0] (dS r) := PF.c (a := a0) H
end Go.Proofs.Ytkhcecpbbmfcaaa
