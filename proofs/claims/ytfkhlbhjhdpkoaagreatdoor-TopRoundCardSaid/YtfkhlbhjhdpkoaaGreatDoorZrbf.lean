/- Functions of data for functions of the program. Written by dec3.py. -/
import Derived.Test.YtfkhlbhjhdpkoaaGreatDoorZrat
import Derived.Test.YtfkhlbhjhdpkoaaGreatDoorZrbe
set_option linter.unusedVariables false
set_option linter.unusedSimpArgs false
set_option maxHeartbeats 4000000
set_option maxRecDepth 100000
namespace Go.Proofs.YtfkhlbhjhdpkoaaGreatDoor
open Go.RowKit
noncomputable def JaT  : Option Limits :=
 some (⟨4000, 1500, 6⟩ : Limits)
noncomputable def JbX : PF := PF.of E0 (fun _ => JaT) d_Limits
theorem Jfe : PureOk Tryz.prog 12 JbX := by
 refine xF mixed [] [] trivial trivial Tryz.func12 ?_
 rintro _ out H
 have G := True.intro
 have Y := xZ y_3 <| xZ y_39 <| xZ Tryz.results12 <| d_Limits.eq_1
 simp only [JaT] at H
 refine xS ?_
 refine xr ?_
 replace H := Option.some.inj H
 refine xr ?_
 subst H
 exact xN
theorem Jfu  (r : Limits) (H : JaT  = some r) : PC JbX [] (d_Limits r) := PF.c (a := ()) H
noncomputable def Jaq (x2 : Int) (x3 : Int) : ((List UInt8) × Int × (List UInt8) × Bool × Bool × Int × Int × Int × Int × (List (List UInt8)) × (List Call) × Int) → Option (((List UInt8) × Int × Int) ⊕ (List UInt8))
 | (x4, x5, x6, x7, x8, x9, x10, x11, x12, x13, x14, x15) => if x4.length + x6.length ≤ 9223372036854775807 then some (.inl (x4 ++ x6, x2, IntKind.i64.wrap (x3 + 1))) else none
noncomputable def Jbx (a0 : List Token) : ((List UInt8) × Int × Int) → Option (((List UInt8) × Int × Int) ⊕ (List UInt8))
 | (x1, x2, x3) => if (ltI x3 x2) = true then if (0 : Int) ≤ x3 ∧ x3.toNat < a0.length then if (ltI 0 x3) = true then if x1.length + 1 ≤ 9223372036854775807 then Jaq x2 x3 (x1 ++ [32], (a0.getD x3.toNat default).Kind, (a0.getD x3.toNat default).Text, (a0.getD x3.toNat default).Space, (a0.getD x3.toNat default).First, (a0.getD x3.toNat default).File, (a0.getD x3.toNat default).At, (a0.getD x3.toNat default).End, (a0.getD x3.toNat default).Line, (a0.getD x3.toNat default).Hide, (a0.getD x3.toNat default).Calls, (a0.getD x3.toNat default).Made) else none else Jaq x2 x3 (x1, (a0.getD x3.toNat default).Kind, (a0.getD x3.toNat default).Text, (a0.getD x3.toNat default).Space, (a0.getD x3.toNat default).First, (a0.getD x3.toNat default).File, (a0.getD x3.toNat default).At, (a0.getD x3.toNat default).End, (a0.getD x3.toNat default).Line, (a0.getD x3.toNat default).Hide, (a0.getD x3.toNat default).Calls, (a0.getD x3.toNat default).Made) else none else inrO (some x1)
noncomputable def Jay (a0 : List Token) : Option (List UInt8) :=
 loopO (Jbx a0) ([], (a0.length : Int), 0)
noncomputable def Jby : PF := PF.of (E1 (dL 11 d_Token)) (fun a => Jay a) dS
theorem JeF : PureOk Tryz.prog 26 Jby := by
 refine xF mixed [] [] trivial trivial Tryz.func26 ?_
 rintro a0 out H
 have G := True.intro
 have Y := xZ y_9 <| xZ y_24 <| xZ y_44 <| xZ Tryz.results26 <| xZ d_Call.eq_1 <| d_Token.eq_1
 simp only [Jay] at H
 refine xS ?_
 refine xr ?_
 refine xr ?_
 refine xr ?_
 refine w_loop (Jbx a0) (fun s => [(3, .c (.d (.v (str s.1)))), (6, .c (.d (.sl 11 (List.map d_Token a0)))), (7, .c (.d (.v (.int .i64 s.2.1)))), (8, .c (.d (.v (.int .i64 s.2.2))))]) (fun s => []) [] H (xK ⟨[], []⟩) ?_
 rintro n1 ⟨x1, x2, x3⟩ o1 H hF1
 rw [Jbx] at H
 refine xS ?_
 refine xr ?_
 rcases bsplit H with ⟨hp1, H⟩ | ⟨hp1, H⟩
 ·obtain ⟨F, G, hq1⟩ := xH Y G hp1
  refine xT ?_
  obtain ⟨hg1, H⟩ := gsplit H
  have F := xZ Y (map_getD d_Token a0 x3.toNat default default (by omega))
  refine xR0 ?_
  refine then_normal ?_
  refine w_cut (Jaq x2 x3) (fun s => [(3, .c (.d (.v (str s.1)))), (5, .c (.pt 1 0)), (6, .c (.d (.sl 11 (List.map d_Token a0)))), (7, .c (.d (.v (.int .i64 x2)))), (8, .c (.d (.v (.int .i64 x3))))]) (fun s => [[.d (.v (.int .i64 s.2.1)), .d (.v (str s.2.2.1)), .d (.v (.bool s.2.2.2.1)), .d (.v (.bool s.2.2.2.2.1)), .d (.v (.int .i64 s.2.2.2.2.2.1)), .d (.v (.int .i64 s.2.2.2.2.2.2.1)), .d (.v (.int .i64 s.2.2.2.2.2.2.2.1)), .d (.v (.int .i64 s.2.2.2.2.2.2.2.2.1)), .d (.sl 1 (List.map dS s.2.2.2.2.2.2.2.2.2.1)), .d (.sl 3 (List.map d_Call s.2.2.2.2.2.2.2.2.2.2.1)), .d (.v (.int .i64 s.2.2.2.2.2.2.2.2.2.2.2))]]) [] o1 ?_ ?_
  ·refine xS ?_
   refine xr ?_
   rcases bsplit H with ⟨hp2, H⟩ | ⟨hp2, H⟩
   ·obtain ⟨F, G, hq2⟩ := xH Y G hp2
    refine xT ?_
    obtain ⟨hg3, H⟩ := gsplit H
    refine xr ?_
    exact cut_at H (xK ⟨[1], []⟩)
   ·obtain ⟨F, G, hq2⟩ := xH Y G hp2
    refine xE ?_
    exact cut_at H (xK ⟨[1], []⟩)
  ·rintro ⟨x4, x5, x6, x7, x8, x9, x10, x11, x12, x13, x14, x15⟩ H
   rw [Jaq] at H
   obtain ⟨hg2, H⟩ := gsplit H
   refine xr ?_
   refine xr ?_
   exact round_at (inl_fin H hF1) (xK ⟨[], []⟩)
 ·obtain ⟨F, G, hq1⟩ := xH Y G hp1
  replace H := inrO_fin H hF1
  refine xE ?_
  replace H := Option.some.inj H
  refine xr ?_
  subst H
  exact xN
theorem Jff (a0 : List Token) (r : (List UInt8)) (H : Jay a0 = some r) : PC Jby [(dL 11 d_Token) a0] (dS r) := PF.c (a := a0) H
noncomputable def Z3 (a0 : List Source) (a1 : Int) : Option ((List UInt8) × Int) :=
 (JaT).bind fun r1 => (Jbn a0 a1 ([] : List Macro) r1).bind fun r2 => (Jay r2.1).bind fun r3 => some (r3, r2.2.2.2.1)
noncomputable def Ja5 : PF := PF.of (E2 (dL 2 d_Source) dI) (fun a => Z3 a.1 a.2) (T2 dS dI)
theorem JdD : PureOk Tryz.prog 14 Ja5 := by
 refine xF mixed [(12, JbX), (26, Jby)] [(11, true, JaY)] ⟨⟨call_12, Jfe⟩, ⟨call_26, JeF⟩, trivial⟩ ⟨JfF, trivial⟩ Tryz.func14 ?_
 rintro ⟨a0, a1⟩ out H
 have G := True.intro
 have Y := xZ y_24 <| xZ y_27 <| xZ y_29 <| xZ y_31 <| xZ Tryz.results14 <| xZ d_Source.eq_1 <| xZ d_Limits.eq_1 <| xZ d_Call.eq_1 <| xZ d_Token.eq_1 <| xZ d_Macro.eq_1 <| xZ d_Fault.eq_1 <| JaV.eq_1
 simp only [Z3] at H
 refine xS ?_
 refine xr ?_
 obtain ⟨r1, hr1, H⟩ := osplit H
 have F := xC Y (Jfu  r1 hr1)
 obtain ⟨r2, hr2, H⟩ := osplit H
 have F := F
 refine xQ ?_
 refine xs 3 ?_
 refine xc ⟨[], []⟩ (tabG 0 (JfG a0 a1 ([] : List Macro) r1 r2 hr2)) ?_
 refine xs 9 ?_
 refine xl ?_
 refine xS ?_
 obtain ⟨r3, hr3, H⟩ := osplit H
 have F := xC Y (Jff r2.1 r3 hr3)
 replace H := Option.some.inj H
 refine xR ?_
 subst H
 exact xN
theorem JdW (a0 : List Source) (a1 : Int) (r : (List UInt8) × Int) (H : Z3 a0 a1 = some r) : PC Ja5 [(dL 2 d_Source) a0, dI a1] (T2 dS dI r) := PF.c (a := (a0, a1)) H
noncomputable def Xi : Bool → Option Bool
 | x1 => some x1
noncomputable def V5  : Option Bool :=
 (Z3 [(⟨[109], [35, 100, 101, 102, 105, 110, 101, 32, 65, 32, 66, 10, 35, 100, 101, 102, 105, 110, 101, 32, 66, 32, 65, 32, 120, 10, 65]⟩ : Source)] 0).bind fun r1 => if (eqI r1.2 0) = true then Xi (eqS r1.1 [65, 32, 120]) else Xi false
noncomputable def JbB : PF := PF.of E0 (fun _ => V5) dB
theorem JeC : PureOk Tryz.prog 9 JbB := by
 refine xF mixed [(14, Ja5)] [] ⟨⟨call_14, JdD⟩, trivial⟩ trivial Tryz.func9 ?_
 rintro _ out H
 have G := True.intro
 have Y := xZ y_9 <| xZ y_35 <| xZ y_37 <| xZ Tryz.results9 <| d_Source.eq_1
 simp only [V5] at H
 refine xS ?_
 refine xr ?_
 obtain ⟨r1, hr1, H⟩ := osplit H
 have F := xC Y (JdW [(⟨[109], [35, 100, 101, 102, 105, 110, 101, 32, 65, 32, 66, 10, 35, 100, 101, 102, 105, 110, 101, 32, 66, 32, 65, 32, 120, 10, 65]⟩ : Source)] 0 r1 hr1)
 refine xR0 ?_
 refine then_normal ?_
 refine w_cut Xi (fun s => [(0, .c (.d (.v (.bool s))))]) (fun s => []) [] out ?_ ?_
 ·rcases bsplit H with ⟨hp1, H⟩ | ⟨hp1, H⟩
  ·obtain ⟨F, G, hq1⟩ := xH Y G hp1
   refine xR ?_
   exact cut_at H (xK ⟨[], []⟩)
  ·obtain ⟨F, G, hq1⟩ := xH Y G hp1
   refine xR ?_
   exact cut_at H (xK ⟨[], []⟩)
 ·rintro x1 H
  rw [Xi] at H
  replace H := Option.some.inj H
  refine xS ?_
  subst H
  exact xN
theorem Jfi  (r : Bool) (H : V5  = some r) : PC JbB [] (dB r) := PF.c (a := ()) H
noncomputable def KC (a0 : Int) : Option (List UInt8) :=
 (KD a0).bind fun r1 => if 1 + r1.length ≤ 9223372036854775807 then some ([77] ++ r1) else none
noncomputable def Jb0 : PF := PF.of (E1 dI) (fun a => KC a) dS
theorem Je9 : PureOk Tryz.prog 10 Jb0 := by
 refine xF mixed [(13, Xk)] [] ⟨⟨call_13, JbD⟩, trivial⟩ trivial Tryz.func10 ?_
 rintro a0 out H
 have G := True.intro
 have Y := Tryz.results10
 simp only [KC] at H
 refine xS ?_
 refine xr ?_
 obtain ⟨r1, hr1, H⟩ := osplit H
 have F := xC Y (JaC a0 r1 hr1)
 obtain ⟨hg1, H⟩ := gsplit H
 replace H := Option.some.inj H
 refine xR ?_
 subst H
 exact xN
theorem Ja6 (a0 : Int) (r : (List UInt8)) (H : KC a0 = some r) : PC Jb0 [dI a0] (dS r) := PF.c (a := a0) H
noncomputable def Zk : Bool → Option Bool
 | x6 => some x6
noncomputable def Zr (a0 : Int) (a1 : Int) (r6 : (List UInt8) × Int) : ((List UInt8) × Int) → Option (((List UInt8) × Int) ⊕ Bool)
 | (x4, x5) => if (ltI x5 a0) = true then if x4.length + 1 ≤ 9223372036854775807 then if a0 ≠ 0 then (KD (Int.tmod (IntKind.i64.wrap ((IntKind.i64.wrap ((IntKind.i64.wrap (a1 + a0)) - 1)) - x5)) a0)).bind fun r8 => if x4.length + 1 + r8.length ≤ 9223372036854775807 then some (.inl ((x4 ++ [32]) ++ r8, IntKind.i64.wrap (x5 + 1))) else none else none else none else inrO (if (eqI r6.2 0) = true then Zk (eqS r6.1 x4) else Zk false)
noncomputable def VT (a0 : Int) (a1 : Int) : ((List UInt8) × Int) → Option (((List UInt8) × Int) ⊕ Bool)
 | (x2, x3) => if (ltI x3 a0) = true then if x2.length + 8 ≤ 9223372036854775807 then (KC x3).bind fun r2 => if x2.length + 8 + r2.length ≤ 9223372036854775807 then if x2.length + 8 + r2.length + 1 ≤ 9223372036854775807 then if a0 ≠ 0 then (KC (Int.tmod (IntKind.i64.wrap (x3 + 1)) a0)).bind fun r3 => if x2.length + 8 + r2.length + 1 + r3.length ≤ 9223372036854775807 then if x2.length + 8 + r2.length + 1 + r3.length + 1 ≤ 9223372036854775807 then (KD x3).bind fun r4 => if x2.length + 8 + r2.length + 1 + r3.length + 1 + r4.length ≤ 9223372036854775807 then if x2.length + 8 + r2.length + 1 + r3.length + 1 + r4.length + 1 ≤ 9223372036854775807 then some (.inl (((((((x2 ++ [35, 100, 101, 102, 105, 110, 101, 32]) ++ r2) ++ [32]) ++ r3) ++ [32]) ++ r4) ++ [10], IntKind.i64.wrap (x3 + 1))) else none else none else none else none else none else none else none else none else inrO ((KC a1).bind fun r5 => if x2.length + r5.length ≤ 9223372036854775807 then (Z3 [(⟨[109], x2 ++ r5⟩ : Source)] 0).bind fun r6 => (KC a1).bind fun r7 => loopO (Zr a0 a1 r6) (r7, 0) else none)
noncomputable def JM (a0 : Int) (a1 : Int) : Bool → Option Bool
 | x1 => if x1 = true then some true else loopO (VT a0 a1) ([], 0)
noncomputable def Zf (a0 : Int) (a1 : Int) : Option Bool :=
 (V5).bind fun r1 => if (!r1) = true then some false else if (ltI a0 1) = true then JM a0 a1 true else if (ltI 12 a0) = true then JM a0 a1 true else if (ltI a1 0) = true then JM a0 a1 true else JM a0 a1 (leI a0 a1)
noncomputable def Jcd : PF := PF.of (E2 dI dI) (fun a => Zf a.1 a.2) dB
theorem Jd4 : PureOk Tryz.prog 4 Jcd := by
 refine xF mixed [(9, JbB), (10, Jb0), (13, Xk), (14, Ja5)] [] ⟨⟨call_9, JeC⟩, ⟨call_10, Je9⟩, ⟨call_13, JbD⟩, ⟨call_14, JdD⟩, trivial⟩ trivial Tryz.func4 ?_
 rintro ⟨a0, a1⟩ out H
 have G := True.intro
 have Y := xZ y_9 <| xZ y_35 <| xZ y_37 <| xZ Tryz.results4 <| d_Source.eq_1
 simp only [Zf] at H
 refine xS ?_
 refine xr ?_
 obtain ⟨r1, hr1, H⟩ := osplit H
 have F := xC Y (Jfi  r1 hr1)
 refine xR ?_
 rcases bsplit H with ⟨hp1, H⟩ | ⟨hp1, H⟩
 ·obtain ⟨F, G, hq1⟩ := xH Y G hp1
  refine xT ?_
  replace H := Option.some.inj H
  refine xr ?_
  subst H
  exact xN
 ·obtain ⟨F, G, hq1⟩ := xH Y G hp1
  refine xE0 ?_
  refine w_skip ?_
  refine then_normal ?_
  refine w_seq ?_
  refine w_cut (JM a0 a1) (fun s => [(0, .c (.d (.v (.int .i64 a0)))), (1, .c (.d (.v (.int .i64 a1)))), (27, .c (.d (.v (.bool s))))]) (fun s => []) [] out ?_ ?_
  ·rcases bsplit H with ⟨hp6, H⟩ | ⟨hp6, H⟩
   ·obtain ⟨F, G, hq6⟩ := xH Y G hp6
    refine xR ?_
    exact cut_at H (xK ⟨[], []⟩)
   ·obtain ⟨F, G, hq6⟩ := xH Y G hp6
    rcases bsplit H with ⟨hp7, H⟩ | ⟨hp7, H⟩
    ·obtain ⟨F, G, hq7⟩ := xH F G hp7
     refine xR ?_
     exact cut_at H (xK ⟨[], []⟩)
    ·obtain ⟨F, G, hq7⟩ := xH F G hp7
     rcases bsplit H with ⟨hp8, H⟩ | ⟨hp8, H⟩
     ·obtain ⟨F, G, hq8⟩ := xH F G hp8
      refine xR ?_
      exact cut_at H (xK ⟨[], []⟩)
     ·obtain ⟨F, G, hq8⟩ := xH F G hp8
      refine xR ?_
      exact cut_at H (xK ⟨[], []⟩)
  ·rintro x1 H
   rw [JM] at H
   rcases bsplit H with ⟨hp2, H⟩ | ⟨hp2, H⟩
   ·obtain ⟨F, G, hq2⟩ := xH Y G hp2
    refine xT ?_
    replace H := Option.some.inj H
    refine xr ?_
    subst H
    exact xN
   ·obtain ⟨F, G, hq2⟩ := xH Y G hp2
    refine xE ?_
    refine xr ?_
    refine xr ?_
    refine w_loop (VT a0 a1) (fun s => [(0, .c (.d (.v (.int .i64 a0)))), (1, .c (.d (.v (.int .i64 a1)))), (5, .c (.d (.v (str s.1)))), (28, .c (.d (.v (.int .i64 a0)))), (29, .c (.d (.v (.int .i64 s.2))))]) (fun s => []) [] H (xK ⟨[], []⟩) ?_
    rintro n1 ⟨x2, x3⟩ o1 H hF1
    rw [VT] at H
    refine xS ?_
    refine xr ?_
    rcases bsplit H with ⟨hp3, H⟩ | ⟨hp3, H⟩
    ·obtain ⟨F, G, hq3⟩ := xH Y G hp3
     refine xT ?_
     refine xr ?_
     obtain ⟨hg1, H⟩ := gsplit H
     obtain ⟨r2, hr2, H⟩ := osplit H
     have F := xC Y (Ja6 x3 r2 hr2)
     obtain ⟨hg2, H⟩ := gsplit H
     obtain ⟨hg3, H⟩ := gsplit H
     obtain ⟨hg4, H⟩ := gsplit H
     obtain ⟨r3, hr3, H⟩ := osplit H
     have F := xCf F (Ja6 (Int.tmod (IntKind.i64.wrap (x3 + 1)) a0) r3 hr3)
     obtain ⟨hg5, H⟩ := gsplit H
     obtain ⟨hg6, H⟩ := gsplit H
     obtain ⟨r4, hr4, H⟩ := osplit H
     have F := xCf F (JaC x3 r4 hr4)
     obtain ⟨hg7, H⟩ := gsplit H
     obtain ⟨hg8, H⟩ := gsplit H
     refine xR ?_
     refine xr ?_
     exact round_at (inl_fin H hF1) (xK ⟨[], []⟩)
    ·obtain ⟨F, G, hq3⟩ := xH Y G hp3
     replace H := inrO_fin H hF1
     refine xE ?_
     obtain ⟨r5, hr5, H⟩ := osplit H
     have F := xC Y (Ja6 a1 r5 hr5)
     obtain ⟨hg9, H⟩ := gsplit H
     obtain ⟨r6, hr6, H⟩ := osplit H
     have F := xCf F (JdW [(⟨[109], x2 ++ r5⟩ : Source)] 0 r6 hr6)
     refine xR ?_
     obtain ⟨r7, hr7, H⟩ := osplit H
     have F := xC Y (Ja6 a1 r7 hr7)
     refine xR ?_
     refine xr ?_
     refine w_loop (Zr a0 a1 r6) (fun s => [(0, .c (.d (.v (.int .i64 a0)))), (1, .c (.d (.v (.int .i64 a1)))), (7, .c (.d (.v (str r6.1)))), (8, .c (.d (.v (.int .i64 r6.2)))), (9, .c (.d (.v (str s.1)))), (62, .c (.d (.v (.int .i64 a0)))), (63, .c (.d (.v (.int .i64 s.2))))]) (fun s => []) [] H (xK ⟨[], []⟩) ?_
     rintro n2 ⟨x4, x5⟩ o2 H hF2
     rw [Zr] at H
     refine xS ?_
     refine xr ?_
     rcases bsplit H with ⟨hp4, H⟩ | ⟨hp4, H⟩
     ·obtain ⟨F, G, hq4⟩ := xH Y G hp4
      refine xT ?_
      refine xr ?_
      obtain ⟨hg10, H⟩ := gsplit H
      obtain ⟨hg11, H⟩ := gsplit H
      obtain ⟨r8, hr8, H⟩ := osplit H
      have F := xC Y (JaC (Int.tmod (IntKind.i64.wrap ((IntKind.i64.wrap ((IntKind.i64.wrap (a1 + a0)) - 1)) - x5)) a0) r8 hr8)
      obtain ⟨hg12, H⟩ := gsplit H
      refine xR ?_
      refine xr ?_
      exact round_at (inl_fin H hF2) (xK ⟨[], []⟩)
     ·obtain ⟨F, G, hq4⟩ := xH Y G hp4
      replace H := inrO_fin H hF2
      refine xE0 ?_
      refine w_exit ?_
      refine then_exit ?_
      refine round_exit ?_
      refine block_exit ?_
      refine then_normal ?_
      refine w_cut Zk (fun s => [(4, .c (.d (.v (.bool s))))]) (fun s => []) [] out ?_ ?_
      ·rcases bsplit H with ⟨hp5, H⟩ | ⟨hp5, H⟩
       ·obtain ⟨F, G, hq5⟩ := xH Y G hp5
        refine xR ?_
        exact cut_at H (xK ⟨[], []⟩)
       ·obtain ⟨F, G, hq5⟩ := xH Y G hp5
        refine xR ?_
        exact cut_at H (xK ⟨[], []⟩)
      ·rintro x6 H
       rw [Zk] at H
       replace H := Option.some.inj H
       refine xS ?_
       subst H
       exact xN
end Go.Proofs.YtfkhlbhjhdpkoaaGreatDoor
