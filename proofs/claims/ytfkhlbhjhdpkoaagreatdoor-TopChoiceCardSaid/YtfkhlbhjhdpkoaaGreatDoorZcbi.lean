/- Functions of data for functions of the program. Written by dec3.py. -/
import Derived.Test.YtfkhlbhjhdpkoaaGreatDoorZcau
import Derived.Test.YtfkhlbhjhdpkoaaGreatDoorZcaw
import Derived.Test.YtfkhlbhjhdpkoaaGreatDoorZcbh
set_option linter.unusedVariables false
set_option linter.unusedSimpArgs false
set_option maxHeartbeats 4000000
set_option maxRecDepth 100000
namespace Go.Proofs.YtfkhlbhjhdpkoaaGreatDoor
open Go.RowKit
noncomputable def Jbp  : Option Limits :=
 some (⟨4000, 1500, 6⟩ : Limits)
noncomputable def Jcs : PF := PF.of E0 (fun _ => Jbp) d_Limits
theorem JfE : PureOk Tryz.prog 12 Jcs := by
 refine xF mixed [] [] trivial trivial Tryz.func12 ?_
 rintro _ out H
 have G := True.intro
 have Y := xZ y_3 <| xZ y_39 <| xZ Tryz.results12 <| d_Limits.eq_1
 simp only [Jbp] at H
 refine xS ?_
 refine xr ?_
 replace H := oI H
 refine xr ?_
 subst H
 exact xN
theorem JfY  (r : Limits) (H : Jbp  = some r) : PC Jcs [] (d_Limits r) := PF.c (a := ()) H
noncomputable def JaP (x2 x3 : Int) : ((List UInt8) × Int × (List UInt8) × Bool × Bool × Int × Int × Int × Int × YP × (List Call) × Int) → Option Yt
 | (x4, x5, x6, x7, x8, x9, x10, x11, x12, x13, x14, x15) => if x4.length + x6.length ≤ 9223372036854775807 then some (.inl (x4 ++ x6, x2, IntKind.i64.wrap (x3 + 1))) else none
noncomputable def JbT (a0 : List Token) : ((List UInt8) × Int × Int) → Option Yt
 | (x1, x2, x3) => if (ltI x3 x2) = true then if (0 : Int) ≤ x3 ∧ x3.toNat < a0.length then if (ltI 0 x3) = true then if x1.length + 1 ≤ 9223372036854775807 then JaP x2 x3 (x1 ++ [32], (a0.getD x3.toNat default).Kind, (a0.getD x3.toNat default).Text, (a0.getD x3.toNat default).Space, (a0.getD x3.toNat default).First, (a0.getD x3.toNat default).File, (a0.getD x3.toNat default).At, (a0.getD x3.toNat default).End, (a0.getD x3.toNat default).Line, (a0.getD x3.toNat default).Hide, (a0.getD x3.toNat default).Calls, (a0.getD x3.toNat default).Made) else none else JaP x2 x3 (x1, (a0.getD x3.toNat default).Kind, (a0.getD x3.toNat default).Text, (a0.getD x3.toNat default).Space, (a0.getD x3.toNat default).First, (a0.getD x3.toNat default).File, (a0.getD x3.toNat default).At, (a0.getD x3.toNat default).End, (a0.getD x3.toNat default).Line, (a0.getD x3.toNat default).Hide, (a0.getD x3.toNat default).Calls, (a0.getD x3.toNat default).Made) else none else inrO (some x1)
noncomputable def JaU (a0 : List Token) : Option (List UInt8) :=
 loopO (JbT a0) ([], (a0.length : Int), 0)
noncomputable def Jb3 : PF := PF.of (E1 (dL 11 d_Token)) (fun a => JaU a) dS
theorem Jfj : PureOk Tryz.prog 26 Jb3 := by
 refine xF mixed [] [] trivial trivial Tryz.func26 ?_
 rintro a0 out H
 have G := True.intro
 have Y := xZ y_9 <| xZ y_24 <| xZ y_44 <| xZ Tryz.results26 <| xZ d_Call.eq_1 <| d_Token.eq_1
 simp only [JaU] at H
 refine xS ?_
 refine xr ?_
 refine xr ?_
 refine xr ?_
 refine w_loop (JbT a0) (fun s => [(3, cS s.1), (6, .c (.d (.sl 11 (List.map d_Token a0)))), (7, cI s.2.1), (8, cI s.2.2)]) (fun s => []) [] H (xK ⟨[], []⟩) ?_
 rintro n1 ⟨x1, x2, x3⟩ o1 H hF1
 rw [JbT] at H
 refine xS ?_
 refine xr ?_
 rcases xB Y G H with ⟨p, H, F, G, q⟩ | ⟨p, H, F, G, q⟩
 ·refine xT ?_
  obtain ⟨g, H⟩ := gsplit H
  have F := xZ Y (map_getD d_Token a0 x3.toNat default default (by omega))
  refine xR0 ?_
  refine then_normal ?_
  refine w_cut (JaP x2 x3) (fun s => [(3, cS s.1), (5, .c (.pt 1 0)), (6, .c (.d (.sl 11 (List.map d_Token a0)))), (7, cI x2), (8, cI x3)]) (fun s => [[kI s.2.1, kS s.2.2.1, kB s.2.2.2.1, kB s.2.2.2.2.1, kI s.2.2.2.2.2.1, kI s.2.2.2.2.2.2.1, kI s.2.2.2.2.2.2.2.1, kI s.2.2.2.2.2.2.2.2.1, .d (.sl 1 (List.map dS s.2.2.2.2.2.2.2.2.2.1)), .d (.sl 3 (List.map d_Call s.2.2.2.2.2.2.2.2.2.2.1)), kI s.2.2.2.2.2.2.2.2.2.2.2]]) [] o1 ?_ ?_
  ·refine xS ?_
   refine xr ?_
   rcases xB Y G H with ⟨p, H, F, G, q⟩ | ⟨p, H, F, G, q⟩
   ·refine xT ?_
    obtain ⟨g, H⟩ := gsplit H
    refine xr ?_
    exact cut_at H (xK ⟨[1], []⟩)
   refine xE ?_
   exact cut_at H (xK ⟨[1], []⟩)
  rintro ⟨x4, x5, x6, x7, x8, x9, x10, x11, x12, x13, x14, x15⟩ H
  rw [JaP] at H
  obtain ⟨g, H⟩ := gsplit H
  refine xr ?_
  refine xr ?_
  exact round_at (inl_fin H hF1) (xK ⟨[], []⟩)
 replace H := inrO_fin H hF1
 refine xE ?_
 replace H := oI H
 refine xr ?_
 subst H
 exact xN
theorem JfD (a0 : List Token) (r : (List UInt8)) (H : JaU a0 = some r) : PC Jb3 [(dL 11 d_Token) a0] (dS r) := PF.c (a := a0) H
noncomputable def Z7 (a0 : List Source) (a1 : Int) : Option YN :=
 (Jbp).bind fun r1 => (JcC a0 a1 ([] : List Macro) r1).bind fun r2 => (JaU r2.1).bind fun r3 => some (r3, r2.2.2.2.1)
noncomputable def JbD : PF := PF.of (E2 (dL 2 d_Source) dI) (fun a => Z7 a.1 a.2) (T2 dS dI)
theorem Jee : PureOk Tryz.prog 14 JbD := by
 refine xF mixed [(12, Jcs), (26, Jb3)] [(11, true, Jcu)] ⟨⟨call_12, JfE⟩, ⟨call_26, Jfj⟩, trivial⟩ ⟨Jgi, trivial⟩ Tryz.func14 ?_
 rintro ⟨a0, a1⟩ out H
 have G := True.intro
 have Y := xZ y_24 <| xZ y_27 <| xZ y_29 <| xZ y_31 <| xZ Tryz.results14 <| xZ d_Source.eq_1 <| xZ d_Limits.eq_1 <| xZ d_Call.eq_1 <| xZ d_Token.eq_1 <| xZ d_Macro.eq_1 <| xZ d_Fault.eq_1 <| Jcz.eq_1
 simp only [Z7] at H
 refine xS ?_
 refine xr ?_
 obtain ⟨r1, hr1, H⟩ := osplit H
 have F := xC Y (JfY  r1 hr1)
 obtain ⟨r2, hr2, H⟩ := osplit H
 have F := F
 refine xQ ?_
 refine xs 3 ?_
 refine xc ⟨[], []⟩ (tabG 0 (cg4 hr2)) ?_
 refine xs 9 ?_
 refine xl ?_
 refine xS ?_
 obtain ⟨r3, hr3, H⟩ := osplit H
 have F := xC Y (JfD r2.1 r3 hr3)
 replace H := oI H
 refine xR ?_
 subst H
 exact xN
theorem Jew (a0 : List Source) (a1 : Int) (r : (List UInt8) × Int) (H : Z7 a0 a1 = some r) : PC JbD [(dL 2 d_Source) a0, dI a1] (T2 dS dI r) := PF.c (a := (a0, a1)) H
noncomputable def Xg : Bool → Option Bool
 | x1 => some x1
noncomputable def VM  : Option Bool :=
 (Z7 [(⟨[109], [35, 100, 101, 102, 105, 110, 101, 32, 65, 32, 66, 10, 35, 100, 101, 102, 105, 110, 101, 32, 66, 32, 65, 32, 120, 10, 65]⟩ : Source)] 0).bind fun r1 => if (eqI r1.2 0) = true then Xg (eqS r1.1 [65, 32, 120]) else Xg false
noncomputable def Jca : PF := PF.of E0 (fun _ => VM) dB
theorem Jfb : PureOk Tryz.prog 9 Jca := by
 refine xF mixed [(14, JbD)] [] ⟨⟨call_14, Jee⟩, trivial⟩ trivial Tryz.func9 ?_
 rintro _ out H
 have G := True.intro
 have Y := xZ y_9 <| xZ y_35 <| xZ y_37 <| xZ Tryz.results9 <| d_Source.eq_1
 simp only [VM] at H
 refine xS ?_
 refine xr ?_
 obtain ⟨r1, hr1, H⟩ := osplit H
 have F := xC Y (Jew [(⟨[109], [35, 100, 101, 102, 105, 110, 101, 32, 65, 32, 66, 10, 35, 100, 101, 102, 105, 110, 101, 32, 66, 32, 65, 32, 120, 10, 65]⟩ : Source)] 0 r1 hr1)
 refine xR0 ?_
 refine then_normal ?_
 refine w_cut Xg (fun s => [(0, cB s)]) (fun s => []) [] out ?_ ?_
 ·rcases xB Y G H with ⟨p, H, F, G, q⟩ | ⟨p, H, F, G, q⟩
  ·refine xR ?_
   exact cut_at H (xK ⟨[], []⟩)
  refine xR ?_
  exact cut_at H (xK ⟨[], []⟩)
 rintro x1 H
 rw [Xg] at H
 replace H := oI H
 refine xS ?_
 subst H
 exact xN
theorem JfP  (r : Bool) (H : VM  = some r) : PC Jca [] (dB r) := PF.c (a := ()) H
noncomputable def VA (a0 : Int) : Option (List UInt8) :=
 (Kj a0).bind fun r1 => if 1 + r1.length ≤ 9223372036854775807 then some ([77] ++ r1) else none
noncomputable def Jch : PF := PF.of (E1 dI) (fun a => VA a) dS
theorem JfL : PureOk Tryz.prog 10 Jch := by
 refine xF mixed [(13, V2)] [] ⟨⟨call_13, Jb1⟩, trivial⟩ trivial Tryz.func10 ?_
 rintro a0 out H
 have G := True.intro
 have Y := Tryz.results10
 simp only [VA] at H
 refine xS ?_
 refine xr ?_
 obtain ⟨r1, hr1, H⟩ := osplit H
 have F := xC Y (Ja5 a0 r1 hr1)
 obtain ⟨g, H⟩ := gsplit H
 replace H := oI H
 refine xR ?_
 subst H
 exact xN
theorem JcS (a0 : Int) (r : (List UInt8)) (H : VA a0 = some r) : PC Jch [dI a0] (dS r) := PF.c (a := a0) H
noncomputable def JB (x5 x6 : Int) : ((List UInt8) × (List UInt8)) → Option Yq
 | (x7, x8) => some (.inl (x7, x8, x5, IntKind.i64.wrap (x6 + 1)))
noncomputable def Kh (x9 : List UInt8) (x10 : Int) : (List UInt8) → Option YD
 | x11 => if x9.length + x11.length ≤ 9223372036854775807 then if x9.length + x11.length + 1 ≤ 9223372036854775807 then (Kj x10).bind fun r5 => if x9.length + x11.length + 1 + r5.length ≤ 9223372036854775807 then if x9.length + x11.length + 1 + r5.length + 1 ≤ 9223372036854775807 then some (.inl ((((x9 ++ x11) ++ [119]) ++ r5) ++ [10], IntKind.i64.wrap (x10 + 1))) else none else none else none else none
noncomputable def Kg : Bool → Option Bool
 | x12 => some x12
noncomputable def Vl (x1 : Int) (x4 : List UInt8) : YN → Option YD
 | (x9, x10) => if (ltI x10 x1) = true then (VA x10).bind fun r4 => if 14 + r4.length ≤ 9223372036854775807 then if 14 + r4.length + 2 ≤ 9223372036854775807 then if (eqI x10 0) = true then (VA x10).bind fun r6 => if 7 + r6.length ≤ 9223372036854775807 then if 7 + r6.length + 1 ≤ 9223372036854775807 then Kh x9 x10 (([35, 105, 102, 100, 101, 102, 32] ++ r6) ++ [10]) else none else none else Kh x9 x10 (([35, 101, 108, 105, 102, 32, 100, 101, 102, 105, 110, 101, 100, 40] ++ r4) ++ [41, 10]) else none else none else inrO (if x9.length + 18 ≤ 9223372036854775807 then (Z7 [(⟨[109], x9 ++ [35, 101, 108, 115, 101, 10, 110, 111, 110, 101, 10, 35, 101, 110, 100, 105, 102, 10]⟩ : Source)] 0).bind fun r7 => if (eqI r7.2 0) = true then Kg (eqS r7.1 x4) else Kg false else none)
noncomputable def Vh (a0 : List Bool) (x1 : Int) : Yw → Option Yq
 | (x3, x4, x5, x6) => if (ltI x6 x5) = true then if (0 : Int) ≤ x6 ∧ x6.toNat < a0.length then if (a0.getD x6.toNat default) = true then if x3.length + 8 ≤ 9223372036854775807 then (VA x6).bind fun r2 => if x3.length + 8 + r2.length ≤ 9223372036854775807 then if x3.length + 8 + r2.length + 1 ≤ 9223372036854775807 then if (eqS x4 [110, 111, 110, 101]) = true then (Kj x6).bind fun r3 => if 1 + r3.length ≤ 9223372036854775807 then JB x5 x6 (((x3 ++ [35, 100, 101, 102, 105, 110, 101, 32]) ++ r2) ++ [10], [119] ++ r3) else none else JB x5 x6 (((x3 ++ [35, 100, 101, 102, 105, 110, 101, 32]) ++ r2) ++ [10], x4) else none else none else none else JB x5 x6 (x3, x4) else none else inrO (loopO (Vl x1 x4) (x3, 0))
noncomputable def JQ (a0 : List Bool) : (Int × Bool) → Option Bool
 | (x1, x2) => if x2 = true then some true else loopO (Vh a0 x1) ([], [110, 111, 110, 101], (a0.length : Int), 0)
noncomputable def XU (a0 : List Bool) : Option Bool :=
 (VM).bind fun r1 => if (!r1) = true then some false else if (ltI (a0.length : Int) 1) = true then JQ a0 ((a0.length : Int), true) else JQ a0 ((a0.length : Int), ltI 8 (a0.length : Int))
noncomputable def Jcg : PF := PF.of (E1 (dL 1 dB)) (fun a => XU a) dB
theorem Jer : PureOk Tryz.prog 8 Jcg := by
 refine xF mixed [(9, Jca), (10, Jch), (13, V2), (14, JbD)] [] ⟨⟨call_9, Jfb⟩, ⟨call_10, JfL⟩, ⟨call_13, Jb1⟩, ⟨call_14, Jee⟩, trivial⟩ trivial Tryz.func8 ?_
 rintro a0 out H
 have G := True.intro
 have Y := xZ y_4 <| xZ y_9 <| xZ y_35 <| xZ y_37 <| xZ y_57 <| xZ Tryz.results8 <| d_Source.eq_1
 simp only [XU] at H
 refine xS ?_
 refine xr ?_
 obtain ⟨r1, hr1, H⟩ := osplit H
 have F := xC Y (JfP  r1 hr1)
 refine xR ?_
 rcases xB Y G H with ⟨p, H, F, G, q⟩ | ⟨p, H, F, G, q⟩
 ·refine xT ?_
  replace H := oI H
  refine xr ?_
  subst H
  exact xN
 refine xE ?_
 refine xr0 ?_
 refine then_normal ?_
 refine w_seq ?_
 refine w_cut (JQ a0) (fun s => [(0, .c (.d (.sl 1 (List.map dB a0)))), (3, cI s.1), (21, cB s.2)]) (fun s => []) [] out ?_ ?_
 ·rcases xB Y G H with ⟨p, H, F, G, q⟩ | ⟨p, H, F, G, q⟩
  ·refine xR ?_
   exact cut_at H (xK ⟨[], []⟩)
  refine xR ?_
  exact cut_at H (xK ⟨[], []⟩)
 rintro ⟨x1, x2⟩ H
 rw [JQ] at H
 rcases xB Y G H with ⟨p, H, F, G, q⟩ | ⟨p, H, F, G, q⟩
 ·refine xT ?_
  replace H := oI H
  refine xr ?_
  subst H
  exact xN
 refine xE ?_
 refine xr ?_
 refine xr ?_
 refine w_loop (Vh a0 x1) (fun s => [(3, cI x1), (4, cS s.1), (5, cS s.2.1), (22, .c (.d (.sl 1 (List.map dB a0)))), (23, cI s.2.2.1), (24, cI s.2.2.2)]) (fun s => []) [] H (xK ⟨[], []⟩) ?_
 rintro n1 ⟨x3, x4, x5, x6⟩ o1 H hF1
 rw [Vh] at H
 refine xS ?_
 refine xr ?_
 rcases xB Y G H with ⟨p, H, F, G, q⟩ | ⟨p, H, F, G, q⟩
 ·refine xT0 ?_
  refine w_skip ?_
  refine then_normal ?_
  refine w_cut (JB x5 x6) (fun s => [(3, cI x1), (4, cS s.1), (5, cS s.2), (22, .c (.d (.sl 1 (List.map dB a0)))), (23, cI x5), (24, cI x6)]) (fun s => []) [] o1 ?_ ?_
  ·refine xS ?_
   obtain ⟨g, H⟩ := gsplit H
   have F := xZ Y (map_getD dB a0 x6.toNat default default (by omega))
   refine xR ?_
   refine xr ?_
   rcases xB Y G H with ⟨p, H, F, G, q⟩ | ⟨p, H, F, G, q⟩
   ·refine xT ?_
    obtain ⟨g, H⟩ := gsplit H
    obtain ⟨r2, hr2, H⟩ := osplit H
    have F := xC Y (JcS x6 r2 hr2)
    obtain ⟨g, H⟩ := gsplit H
    obtain ⟨g, H⟩ := gsplit H
    refine xR ?_
    refine xr ?_
    rcases xB Y G H with ⟨p, H, F, G, q⟩ | ⟨p, H, F, G, q⟩
    ·refine xT ?_
     obtain ⟨r3, hr3, H⟩ := osplit H
     have F := xC Y (Ja5 x6 r3 hr3)
     obtain ⟨g, H⟩ := gsplit H
     refine xR ?_
     exact cut_at H (xK ⟨[], []⟩)
    refine xE ?_
    exact cut_at H (xK ⟨[], []⟩)
   refine xE ?_
   exact cut_at H (xK ⟨[], []⟩)
  rintro ⟨x7, x8⟩ H
  rw [JB] at H
  refine xr ?_
  exact round_at (inl_fin H hF1) (xK ⟨[], []⟩)
 replace H := inrO_fin H hF1
 refine xE ?_
 refine xr ?_
 refine w_loop (Vl x1 x4) (fun s => [(4, cS s.1), (5, cS x4), (42, cI x1), (43, cI s.2)]) (fun s => []) [] H (xK ⟨[], []⟩) ?_
 rintro n2 ⟨x9, x10⟩ o2 H hF2
 rw [Vl] at H
 refine xS ?_
 refine xr ?_
 rcases xB Y G H with ⟨p, H, F, G, q⟩ | ⟨p, H, F, G, q⟩
 ·refine xT ?_
  refine xr ?_
  obtain ⟨r4, hr4, H⟩ := osplit H
  have F := xC Y (JcS x10 r4 hr4)
  obtain ⟨g, H⟩ := gsplit H
  obtain ⟨g, H⟩ := gsplit H
  refine xR0 ?_
  refine then_normal ?_
  refine w_cut (Kh x9 x10) (fun s => [(4, cS x9), (5, cS x4), (8, cI x10), (9, cS s), (42, cI x1), (43, cI x10)]) (fun s => []) [] o2 ?_ ?_
  ·refine xS ?_
   refine xr ?_
   rcases xB Y G H with ⟨p, H, F, G, q⟩ | ⟨p, H, F, G, q⟩
   ·refine xT ?_
    obtain ⟨r6, hr6, H⟩ := osplit H
    have F := xC Y (JcS x10 r6 hr6)
    obtain ⟨g, H⟩ := gsplit H
    obtain ⟨g, H⟩ := gsplit H
    refine xR ?_
    exact cut_at H (xK ⟨[], []⟩)
   refine xE ?_
   exact cut_at H (xK ⟨[], []⟩)
  rintro x11 H
  rw [Kh] at H
  obtain ⟨g, H⟩ := gsplit H
  obtain ⟨g, H⟩ := gsplit H
  obtain ⟨r5, hr5, H⟩ := osplit H
  have F := xC Y (Ja5 x10 r5 hr5)
  obtain ⟨g, H⟩ := gsplit H
  obtain ⟨g, H⟩ := gsplit H
  refine xR ?_
  refine xr ?_
  exact round_at (inl_fin H hF2) (xK ⟨[], []⟩)
 replace H := inrO_fin H hF2
 refine xE ?_
 obtain ⟨g, H⟩ := gsplit H
 obtain ⟨r7, hr7, H⟩ := osplit H
 have F := xC Y (Jew [(⟨[109], x9 ++ [35, 101, 108, 115, 101, 10, 110, 111, 110, 101, 10, 35, 101, 110, 100, 105, 102, 10]⟩ : Source)] 0 r7 hr7)
 refine xR0 ?_
 refine then_normal ?_
 refine w_cut Kg (fun s => [(2, cB s)]) (fun s => []) [] out ?_ ?_
 ·rcases xB Y G H with ⟨p, H, F, G, q⟩ | ⟨p, H, F, G, q⟩
  ·refine xR ?_
   exact cut_at H (xK ⟨[], []⟩)
  refine xR ?_
  exact cut_at H (xK ⟨[], []⟩)
 rintro x12 H
 rw [Kg] at H
 replace H := oI H
 refine xS ?_
 subst H
 exact xN
end Go.Proofs.YtfkhlbhjhdpkoaaGreatDoor
