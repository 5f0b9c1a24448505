/- Functions of data for functions of the program. Written by dec3.py. -/
import Derived.Test.YtjgimofnepechaaGreatDoorZat
set_option linter.unusedVariables false
set_option linter.unusedSimpArgs false
set_option maxHeartbeats 4000000
set_option maxRecDepth 100000
namespace Go.Proofs.YtjgimofnepechaaGreatDoor
open Go.RowKit
noncomputable def Jak (x2 : Int) (x3 : Int) : ((List UInt8) × Int × (List UInt8) × Bool × Bool × Int × Int × Int × Int × (List (List UInt8)) × (List Call) × Int) → Option (((List UInt8) × Int × Int) ⊕ (List UInt8))
 | (x4, x5, x6, x7, x8, x9, x10, x11, x12, x13, x14, x15) => if x4.length + x6.length ≤ 9223372036854775807 then some (.inl (x4 ++ x6, x2, IntKind.i64.wrap (x3 + 1))) else none
noncomputable def JbI (a0 : List Token) : ((List UInt8) × Int × Int) → Option (((List UInt8) × Int × Int) ⊕ (List UInt8))
 | (x1, x2, x3) => if (ltI x3 x2) = true then if (0 : Int) ≤ x3 ∧ x3.toNat < a0.length then if (ltI 0 x3) = true then if x1.length + 1 ≤ 9223372036854775807 then Jak x2 x3 (x1 ++ [32], (a0.getD x3.toNat default).Kind, (a0.getD x3.toNat default).Text, (a0.getD x3.toNat default).Space, (a0.getD x3.toNat default).First, (a0.getD x3.toNat default).File, (a0.getD x3.toNat default).At, (a0.getD x3.toNat default).End, (a0.getD x3.toNat default).Line, (a0.getD x3.toNat default).Hide, (a0.getD x3.toNat default).Calls, (a0.getD x3.toNat default).Made) else none else Jak x2 x3 (x1, (a0.getD x3.toNat default).Kind, (a0.getD x3.toNat default).Text, (a0.getD x3.toNat default).Space, (a0.getD x3.toNat default).First, (a0.getD x3.toNat default).File, (a0.getD x3.toNat default).At, (a0.getD x3.toNat default).End, (a0.getD x3.toNat default).Line, (a0.getD x3.toNat default).Hide, (a0.getD x3.toNat default).Calls, (a0.getD x3.toNat default).Made) else none else inrO (some x1)
noncomputable def Jby (a0 : List Token) : Option (List UInt8) :=
 loopO (JbI a0) ([], (a0.length : Int), 0)
noncomputable def JbM : PF := PF.of (E1 (dL 11 d_Token)) (fun a => Jby a) dS
theorem Jey : PureOk Tryz.prog 28 JbM := by
 refine xF mixed [] [] trivial trivial Tryz.func28 ?_
 rintro a0 out H
 have G := True.intro
 have Y := xZ y_9 <| xZ y_25 <| xZ y_39 <| xZ Tryz.results28 <| xZ d_Call.eq_1 <| d_Token.eq_1
 simp only [Jby] at H
 refine xS ?_
 refine xr ?_
 refine xr ?_
 refine xr ?_
 refine w_loop (JbI a0) (fun s => [(3, .c (.d (.v (str s.1)))), (6, .c (.d (.sl 11 (List.map d_Token a0)))), (7, .c (.d (.v (.int .i64 s.2.1)))), (8, .c (.d (.v (.int .i64 s.2.2))))]) (fun s => []) [] H (xK ⟨[], []⟩) ?_
 rintro n1 ⟨x1, x2, x3⟩ o1 H hF1
 rw [JbI] at H
 refine xS ?_
 refine xr ?_
 rcases bsplit H with ⟨hp1, H⟩ | ⟨hp1, H⟩
 ·obtain ⟨F, G, hq1⟩ := xH Y G hp1
  refine xT ?_
  obtain ⟨hg1, H⟩ := gsplit H
  have F := xZ Y (map_getD d_Token a0 x3.toNat default default (by omega))
  refine xR0 ?_
  refine then_normal ?_
  refine w_cut (Jak x2 x3) (fun s => [(3, .c (.d (.v (str s.1)))), (5, .c (.pt 1 0)), (6, .c (.d (.sl 11 (List.map d_Token a0)))), (7, .c (.d (.v (.int .i64 x2)))), (8, .c (.d (.v (.int .i64 x3))))]) (fun s => [[.d (.v (.int .i64 s.2.1)), .d (.v (str s.2.2.1)), .d (.v (.bool s.2.2.2.1)), .d (.v (.bool s.2.2.2.2.1)), .d (.v (.int .i64 s.2.2.2.2.2.1)), .d (.v (.int .i64 s.2.2.2.2.2.2.1)), .d (.v (.int .i64 s.2.2.2.2.2.2.2.1)), .d (.v (.int .i64 s.2.2.2.2.2.2.2.2.1)), .d (.sl 1 (List.map dS s.2.2.2.2.2.2.2.2.2.1)), .d (.sl 3 (List.map d_Call s.2.2.2.2.2.2.2.2.2.2.1)), .d (.v (.int .i64 s.2.2.2.2.2.2.2.2.2.2.2))]]) [] o1 ?_ ?_
  ·refine xS ?_
   refine xr ?_
   rcases bsplit H with ⟨hp2, H⟩ | ⟨hp2, H⟩
   ·obtain ⟨F, G, hq2⟩ := xH Y G hp2
    refine xT ?_
    obtain ⟨hg3, H⟩ := gsplit H
    refine xr ?_
    exact cut_at H (xK ⟨[1], []⟩)
   ·obtain ⟨F, G, hq2⟩ := xH Y G hp2
    refine xE ?_
    exact cut_at H (xK ⟨[1], []⟩)
  ·rintro ⟨x4, x5, x6, x7, x8, x9, x10, x11, x12, x13, x14, x15⟩ H
   rw [Jak] at H
   obtain ⟨hg2, H⟩ := gsplit H
   refine xr ?_
   refine xr ?_
   exact round_at (inl_fin H hF1) (xK ⟨[], []⟩)
 ·obtain ⟨F, G, hq1⟩ := xH Y G hp1
  replace H := inrO_fin H hF1
  refine xE ?_
  replace H := Option.some.inj H
  refine xr ?_
  subst H
  exact xN
theorem JeJ (a0 : List Token) (r : (List UInt8)) (H : Jby a0 = some r) : PC JbM [(dL 11 d_Token) a0] (dS r) := PF.c (a := a0) H
noncomputable def JcB (a0 : List (List UInt8)) (a1 : List UInt8) : Option ((List UInt8) × Fault) :=
 (V9 a0).bind fun r1 => (Xf a1).bind fun r2 => (Jae ([] : List Source) r1 r2 4000 1500).bind fun r3 => (Jby r3.1).bind fun r4 => some (r4, (⟨r3.2.2.1, r3.2.2.2.1, r3.2.2.2.2⟩ : Fault))
noncomputable def Jci : PF := PF.of (E2 (dL 1 dS) dS) (fun a => JcB a.1 a.2) (T2 dS d_Fault)
theorem Je5 : PureOk Tryz.prog 19 Jci := by
 refine xF mixed [(11, ZI), (9, Zl), (28, JbM)] [(10, true, ZZ)] ⟨⟨call_11, JcP⟩, ⟨call_9, Jb3⟩, ⟨call_28, Jey⟩, trivial⟩ ⟨Jd4, trivial⟩ Tryz.func19 ?_
 rintro ⟨a0, a1⟩ out H
 have G := True.intro
 have Y := xZ y_29 <| xZ Tryz.results19 <| xZ d_Call.eq_1 <| xZ d_Token.eq_1 <| xZ d_Macro.eq_1 <| xZ d_Fault.eq_1 <| xZ d_Source.eq_1 <| Z1.eq_1
 simp only [JcB] at H
 refine xS ?_
 refine xr ?_
 obtain ⟨r1, hr1, H⟩ := osplit H
 have F := xC Y (Jda a0 r1 hr1)
 obtain ⟨r2, hr2, H⟩ := osplit H
 have F := xCf F (Jcp a1 r2 hr2)
 obtain ⟨r3, hr3, H⟩ := osplit H
 have F := F
 refine xQ ?_
 refine xs 4 ?_
 refine xc ⟨[], []⟩ (tabG 0 (Jd0 ([] : List Source) r1 r2 4000 1500 r3 hr3)) ?_
 refine xs 8 ?_
 refine xl ?_
 refine xS ?_
 obtain ⟨r4, hr4, H⟩ := osplit H
 have F := xC Y (JeJ r3.1 r4 hr4)
 replace H := Option.some.inj H
 refine xR ?_
 subst H
 exact xN
theorem Jfs (a0 : List (List UInt8)) (a1 : List UInt8) (r : (List UInt8) × Fault) (H : JcB a0 a1 = some r) : PC Jci [(dL 1 dS) a0, dS a1] (T2 dS d_Fault r) := PF.c (a := (a0, a1)) H
noncomputable def Jaj : Bool → Option Bool
 | x1 => some x1
noncomputable def Zf  : Option Bool :=
 (JcB [[102, 40, 120, 41, 32, 91, 120, 43, 103, 93], [103, 32, 102], [99, 97, 116, 40, 97, 44, 98, 41, 32, 97, 35, 35, 98], [115, 116, 114, 40, 120, 41, 32, 35, 120]] [102, 40, 49, 41, 40, 50, 41, 32, 99, 97, 116, 40, 120, 44, 121, 41, 32, 115, 116, 114, 40, 32, 97, 32, 98, 32, 41, 32, 102]).bind fun r1 => if (eqI r1.2.Err 0) = true then Jaj (eqS r1.1 [91, 32, 49, 32, 43, 32, 102, 32, 93, 32, 40, 32, 50, 32, 41, 32, 120, 121, 32, 34, 97, 32, 98, 34, 32, 102]) else Jaj false
noncomputable def JbO : PF := PF.of E0 (fun _ => Zf) dB
theorem JeB : PureOk Tryz.prog 14 JbO := by
 refine xF mixed [(19, Jci)] [] ⟨⟨call_19, Je5⟩, trivial⟩ trivial Tryz.func14 ?_
 rintro _ out H
 have G := True.intro
 have Y := xZ y_9 <| xZ y_24 <| xZ y_27 <| xZ y_29 <| xZ Tryz.results14 <| d_Fault.eq_1
 simp only [Zf] at H
 refine xS ?_
 refine xr ?_
 obtain ⟨r1, hr1, H⟩ := osplit H
 have F := xC Y (Jfs [[102, 40, 120, 41, 32, 91, 120, 43, 103, 93], [103, 32, 102], [99, 97, 116, 40, 97, 44, 98, 41, 32, 97, 35, 35, 98], [115, 116, 114, 40, 120, 41, 32, 35, 120]] [102, 40, 49, 41, 40, 50, 41, 32, 99, 97, 116, 40, 120, 44, 121, 41, 32, 115, 116, 114, 40, 32, 97, 32, 98, 32, 41, 32, 102] r1 hr1)
 refine xR0 ?_
 refine then_normal ?_
 refine w_cut Jaj (fun s => [(0, .c (.d (.v (.bool s))))]) (fun s => []) [] out ?_ ?_
 ·rcases bsplit H with ⟨hp1, H⟩ | ⟨hp1, H⟩
  ·obtain ⟨F, G, hq1⟩ := xH Y G hp1
   refine xR ?_
   exact cut_at H (xK ⟨[], []⟩)
  ·obtain ⟨F, G, hq1⟩ := xH Y G hp1
   refine xR ?_
   exact cut_at H (xK ⟨[], []⟩)
 ·rintro x1 H
  rw [Jaj] at H
  replace H := Option.some.inj H
  refine xS ?_
  subst H
  exact xN
theorem JeL  (r : Bool) (H : Zf  = some r) : PC JbO [] (dB r) := PF.c (a := ()) H
noncomputable def KL (a0 : Token) (a1 : Token) : (Int × Int) → Option ((Int × Int) ⊕ Bool)
 | (x4, x5) => if (ltI x5 x4) = true then if (0 : Int) ≤ x5 ∧ x5.toNat < a0.Calls.length then if (0 : Int) ≤ x5 ∧ x5.toNat < a1.Calls.length then if (!(eqS ((a0.Calls.getD x5.toNat default).Name) ((a1.Calls.getD x5.toNat default).Name) && (eqI ((a0.Calls.getD x5.toNat default).File) ((a1.Calls.getD x5.toNat default).File) && (eqI ((a0.Calls.getD x5.toNat default).At) ((a1.Calls.getD x5.toNat default).At))))) = true then inrO (some false) else some (.inl (x4, IntKind.i64.wrap (x5 + 1))) else none else none else inrO (some true)
noncomputable def KE (a0 : Token) (a1 : Token) : (Int × Int) → Option ((Int × Int) ⊕ Bool)
 | (x2, x3) => if (ltI x3 x2) = true then if (0 : Int) ≤ x3 ∧ x3.toNat < a0.Hide.length then if (0 : Int) ≤ x3 ∧ x3.toNat < a1.Hide.length then if (!eqS (a0.Hide.getD x3.toNat default) (a1.Hide.getD x3.toNat default)) = true then inrO (some false) else some (.inl (x2, IntKind.i64.wrap (x3 + 1))) else none else none else inrO (loopO (KL a0 a1) ((a0.Calls.length : Int), 0))
noncomputable def Jc (a0 : Token) (a1 : Token) : Bool → Option Bool
 | x1 => if x1 = true then some false else loopO (KE a0 a1) ((a0.Hide.length : Int), 0)
noncomputable def VK (a0 : Token) (a1 : Token) : Option Bool :=
 if (!eqI a0.Kind a1.Kind) = true then Jc a0 a1 true else if (!eqS a0.Text a1.Text) = true then Jc a0 a1 true else if (!eqB a0.Space a1.Space) = true then Jc a0 a1 true else if (!eqB a0.First a1.First) = true then Jc a0 a1 true else if (!eqI a0.File a1.File) = true then Jc a0 a1 true else if (!eqI a0.At a1.At) = true then Jc a0 a1 true else if (!eqI a0.End a1.End) = true then Jc a0 a1 true else if (!eqI a0.Line a1.Line) = true then Jc a0 a1 true else if (!eqI a0.Made a1.Made) = true then Jc a0 a1 true else if (!eqI (a0.Hide.length : Int) (a1.Hide.length : Int)) = true then Jc a0 a1 true else Jc a0 a1 (!eqI (a0.Calls.length : Int) (a1.Calls.length : Int))
noncomputable def Jad : PF := PF.of (E2 d_Token d_Token) (fun a => VK a.1 a.2) dB
theorem JdD : PureOk Tryz.prog 27 Jad := by
 refine xF mixed [] [] trivial trivial Tryz.func27 ?_
 rintro ⟨a0, a1⟩ out H
 have G := True.intro
 have Y := xZ y_3 <| xZ y_4 <| xZ y_9 <| xZ y_24 <| xZ y_37 <| xZ y_39 <| xZ y_49 <| xZ Tryz.results27 <| xZ d_Call.eq_1 <| d_Token.eq_1
 simp only [VK] at H
 refine xS ?_
 refine xr0 ?_
 refine then_normal ?_
 refine w_seq ?_
 refine w_cut (Jc a0 a1) (fun s => [(2, .c (.pt 1 0)), (3, .c (.pt 2 0)), (85, .c (.d (.v (.bool s))))]) (fun s => [[.d (.v (.int .i64 a0.Kind)), .d (.v (str a0.Text)), .d (.v (.bool a0.Space)), .d (.v (.bool a0.First)), .d (.v (.int .i64 a0.File)), .d (.v (.int .i64 a0.At)), .d (.v (.int .i64 a0.End)), .d (.v (.int .i64 a0.Line)), .d (.sl 1 (List.map dS a0.Hide)), .d (.sl 3 (List.map d_Call a0.Calls)), .d (.v (.int .i64 a0.Made))], [.d (.v (.int .i64 a1.Kind)), .d (.v (str a1.Text)), .d (.v (.bool a1.Space)), .d (.v (.bool a1.First)), .d (.v (.int .i64 a1.File)), .d (.v (.int .i64 a1.At)), .d (.v (.int .i64 a1.End)), .d (.v (.int .i64 a1.Line)), .d (.sl 1 (List.map dS a1.Hide)), .d (.sl 3 (List.map d_Call a1.Calls)), .d (.v (.int .i64 a1.Made))]]) [] out ?_ ?_
 ·rcases bsplit H with ⟨hp6, H⟩ | ⟨hp6, H⟩
  ·obtain ⟨F, G, hq6⟩ := xH Y G hp6
   refine xR ?_
   exact cut_at H (xK ⟨[1,2], []⟩)
  ·obtain ⟨F, G, hq6⟩ := xH Y G hp6
   rcases bsplit H with ⟨hp7, H⟩ | ⟨hp7, H⟩
   ·obtain ⟨F, G, hq7⟩ := xH F G hp7
    refine xR ?_
    exact cut_at H (xK ⟨[1,2], []⟩)
   ·obtain ⟨F, G, hq7⟩ := xH F G hp7
    rcases bsplit H with ⟨hp8, H⟩ | ⟨hp8, H⟩
    ·obtain ⟨F, G, hq8⟩ := xH F G hp8
     refine xR ?_
     exact cut_at H (xK ⟨[1,2], []⟩)
    ·obtain ⟨F, G, hq8⟩ := xH F G hp8
     rcases bsplit H with ⟨hp9, H⟩ | ⟨hp9, H⟩
     ·obtain ⟨F, G, hq9⟩ := xH F G hp9
      refine xR ?_
      exact cut_at H (xK ⟨[1,2], []⟩)
     ·obtain ⟨F, G, hq9⟩ := xH F G hp9
      rcases bsplit H with ⟨hp10, H⟩ | ⟨hp10, H⟩
      ·obtain ⟨F, G, hq10⟩ := xH F G hp10
       refine xR ?_
       exact cut_at H (xK ⟨[1,2], []⟩)
      ·obtain ⟨F, G, hq10⟩ := xH F G hp10
       rcases bsplit H with ⟨hp11, H⟩ | ⟨hp11, H⟩
       ·obtain ⟨F, G, hq11⟩ := xH F G hp11
        refine xR ?_
        exact cut_at H (xK ⟨[1,2], []⟩)
       ·obtain ⟨F, G, hq11⟩ := xH F G hp11
        rcases bsplit H with ⟨hp12, H⟩ | ⟨hp12, H⟩
        ·obtain ⟨F, G, hq12⟩ := xH F G hp12
         refine xR ?_
         exact cut_at H (xK ⟨[1,2], []⟩)
        ·obtain ⟨F, G, hq12⟩ := xH F G hp12
         rcases bsplit H with ⟨hp13, H⟩ | ⟨hp13, H⟩
         ·obtain ⟨F, G, hq13⟩ := xH F G hp13
          refine xR ?_
          exact cut_at H (xK ⟨[1,2], []⟩)
         ·obtain ⟨F, G, hq13⟩ := xH F G hp13
          rcases bsplit H with ⟨hp14, H⟩ | ⟨hp14, H⟩
          ·obtain ⟨F, G, hq14⟩ := xH F G hp14
           refine xR ?_
           exact cut_at H (xK ⟨[1,2], []⟩)
          ·obtain ⟨F, G, hq14⟩ := xH F G hp14
           rcases bsplit H with ⟨hp15, H⟩ | ⟨hp15, H⟩
           ·obtain ⟨F, G, hq15⟩ := xH F G hp15
            refine xR ?_
            exact cut_at H (xK ⟨[1,2], []⟩)
           ·obtain ⟨F, G, hq15⟩ := xH F G hp15
            refine xR ?_
            exact cut_at H (xK ⟨[1,2], []⟩)
 ·rintro x1 H
  rw [Jc] at H
  rcases bsplit H with ⟨hp1, H⟩ | ⟨hp1, H⟩
  ·obtain ⟨F, G, hq1⟩ := xH Y G hp1
   refine xT ?_
   replace H := Option.some.inj H
   refine xr ?_
   subst H
   exact xN
  ·obtain ⟨F, G, hq1⟩ := xH Y G hp1
   refine xE ?_
   refine xr ?_
   refine w_loop (KE a0 a1) (fun s => [(2, .c (.pt 1 0)), (3, .c (.pt 2 0)), (88, .c (.d (.v (.int .i64 s.1)))), (89, .c (.d (.v (.int .i64 s.2))))]) (fun s => [[.d (.v (.int .i64 a0.Kind)), .d (.v (str a0.Text)), .d (.v (.bool a0.Space)), .d (.v (.bool a0.First)), .d (.v (.int .i64 a0.File)), .d (.v (.int .i64 a0.At)), .d (.v (.int .i64 a0.End)), .d (.v (.int .i64 a0.Line)), .d (.sl 1 (List.map dS a0.Hide)), .d (.sl 3 (List.map d_Call a0.Calls)), .d (.v (.int .i64 a0.Made))], [.d (.v (.int .i64 a1.Kind)), .d (.v (str a1.Text)), .d (.v (.bool a1.Space)), .d (.v (.bool a1.First)), .d (.v (.int .i64 a1.File)), .d (.v (.int .i64 a1.At)), .d (.v (.int .i64 a1.End)), .d (.v (.int .i64 a1.Line)), .d (.sl 1 (List.map dS a1.Hide)), .d (.sl 3 (List.map d_Call a1.Calls)), .d (.v (.int .i64 a1.Made))]]) [] H (xK ⟨[1,2], []⟩) ?_
   rintro n1 ⟨x2, x3⟩ o1 H hF1
   rw [KE] at H
   refine xS ?_
   refine xr ?_
   rcases bsplit H with ⟨hp2, H⟩ | ⟨hp2, H⟩
   ·obtain ⟨F, G, hq2⟩ := xH Y G hp2
    refine xT ?_
    refine xr ?_
    obtain ⟨hg1, H⟩ := gsplit H
    have F := xZ Y (map_getD dS a0.Hide x3.toNat default default (by omega))
    obtain ⟨hg2, H⟩ := gsplit H
    have F := xZ F (map_getD dS a1.Hide x3.toNat default default (by omega))
    refine xR ?_
    rcases bsplit H with ⟨hp3, H⟩ | ⟨hp3, H⟩
    ·obtain ⟨F, G, hq3⟩ := xH Y G hp3
     refine xT ?_
     replace H := inrO_fin H hF1
     replace H := Option.some.inj H
     refine xr ?_
     subst H
     exact xN
    ·obtain ⟨F, G, hq3⟩ := xH Y G hp3
     refine xE ?_
     refine xr ?_
     exact round_at (inl_fin H hF1) (xK ⟨[1,2], []⟩)
   ·obtain ⟨F, G, hq2⟩ := xH Y G hp2
    replace H := inrO_fin H hF1
    refine xE ?_
    refine xr ?_
    refine w_loop (KL a0 a1) (fun s => [(2, .c (.pt 1 0)), (3, .c (.pt 2 0)), (106, .c (.d (.v (.int .i64 s.1)))), (107, .c (.d (.v (.int .i64 s.2))))]) (fun s => [[.d (.v (.int .i64 a0.Kind)), .d (.v (str a0.Text)), .d (.v (.bool a0.Space)), .d (.v (.bool a0.First)), .d (.v (.int .i64 a0.File)), .d (.v (.int .i64 a0.At)), .d (.v (.int .i64 a0.End)), .d (.v (.int .i64 a0.Line)), .d (.sl 1 (List.map dS a0.Hide)), .d (.sl 3 (List.map d_Call a0.Calls)), .d (.v (.int .i64 a0.Made))], [.d (.v (.int .i64 a1.Kind)), .d (.v (str a1.Text)), .d (.v (.bool a1.Space)), .d (.v (.bool a1.First)), .d (.v (.int .i64 a1.File)), .d (.v (.int .i64 a1.At)), .d (.v (.int .i64 a1.End)), .d (.v (.int .i64 a1.Line)), .d (.sl 1 (List.map dS a1.Hide)), .d (.sl 3 (List.map d_Call a1.Calls)), .d (.v (.int .i64 a1.Made))]]) [] H (xK ⟨[1,2], []⟩) ?_
    rintro n2 ⟨x4, x5⟩ o2 H hF2
    rw [KL] at H
    refine xS ?_
    refine xr ?_
    rcases bsplit H with ⟨hp4, H⟩ | ⟨hp4, H⟩
    ·obtain ⟨F, G, hq4⟩ := xH Y G hp4
     refine xT ?_
     refine xr ?_
     obtain ⟨hg3, H⟩ := gsplit H
     have F := xZ Y (map_getD d_Call a0.Calls x5.toNat default default (by omega))
     obtain ⟨hg4, H⟩ := gsplit H
     have F := xZ F (map_getD d_Call a1.Calls x5.toNat default default (by omega))
     refine xR ?_
     rcases bsplit H with ⟨hp5, H⟩ | ⟨hp5, H⟩
     ·obtain ⟨F, G, hq5⟩ := xH Y G hp5
      refine xT ?_
      replace H := inrO_fin H hF2
      replace H := Option.some.inj H
      refine xr ?_
      subst H
      exact xN
     ·obtain ⟨F, G, hq5⟩ := xH Y G hp5
      refine xE ?_
      refine xr ?_
      exact round_at (inl_fin H hF2) (xK ⟨[1,2], []⟩)
    ·obtain ⟨F, G, hq4⟩ := xH Y G hp4
     replace H := inrO_fin H hF2
     refine xE ?_
     replace H := Option.some.inj H
     refine xr ?_
     subst H
     exact xN
theorem JdM (a0 : Token) (a1 : Token) (r : Bool) (H : VK a0 a1 = some r) : PC Jad [d_Token a0, d_Token a1] (dB r) := PF.c (a := (a0, a1)) H
noncomputable def Vl (a0 : List Token) (a1 : List Token) : (Int × Int) → Option ((Int × Int) ⊕ Bool)
 | (x1, x2) => if (ltI x2 x1) = true then if (0 : Int) ≤ x2 ∧ x2.toNat < a0.length then if (0 : Int) ≤ x2 ∧ x2.toNat < a1.length then (VK (a0.getD x2.toNat default) (a1.getD x2.toNat default)).bind fun r1 => if (!r1) = true then inrO (some false) else some (.inl (x1, IntKind.i64.wrap (x2 + 1))) else none else none else inrO (some true)
noncomputable def Vj (a0 : List Token) (a1 : List Token) : Option Bool :=
 if (!eqI (a0.length : Int) (a1.length : Int)) = true then some false else loopO (Vl a0 a1) ((a0.length : Int), 0)
noncomputable def ZN : PF := PF.of (E2 (dL 11 d_Token) (dL 11 d_Token)) (fun a => Vj a.1 a.2) dB
theorem Jdx : PureOk Tryz.prog 13 ZN := by
 refine xF mixed [(27, Jad)] [] ⟨⟨call_27, JdD⟩, trivial⟩ trivial Tryz.func13 ?_
 rintro ⟨a0, a1⟩ out H
 have G := True.intro
 have Y := xZ y_25 <| xZ y_39 <| xZ Tryz.results13 <| xZ d_Call.eq_1 <| d_Token.eq_1
 simp only [Vj] at H
 refine xS ?_
 refine xr ?_
 refine xr ?_
 rcases bsplit H with ⟨hp1, H⟩ | ⟨hp1, H⟩
 ·obtain ⟨F, G, hq1⟩ := xH Y G hp1
  refine xT ?_
  replace H := Option.some.inj H
  refine xr ?_
  subst H
  exact xN
 ·obtain ⟨F, G, hq1⟩ := xH Y G hp1
  refine xE ?_
  refine xr ?_
  refine w_loop (Vl a0 a1) (fun s => [(0, .c (.d (.sl 11 (List.map d_Token a0)))), (1, .c (.d (.sl 11 (List.map d_Token a1)))), (12, .c (.d (.v (.int .i64 s.1)))), (13, .c (.d (.v (.int .i64 s.2))))]) (fun s => []) [] H (xK ⟨[], []⟩) ?_
  rintro n1 ⟨x1, x2⟩ o1 H hF1
  rw [Vl] at H
  refine xS ?_
  refine xr ?_
  rcases bsplit H with ⟨hp2, H⟩ | ⟨hp2, H⟩
  ·obtain ⟨F, G, hq2⟩ := xH Y G hp2
   refine xT ?_
   refine xr ?_
   obtain ⟨hg1, H⟩ := gsplit H
   have F := xZ Y (map_getD d_Token a0 x2.toNat default default (by omega))
   obtain ⟨hg2, H⟩ := gsplit H
   have F := xZ F (map_getD d_Token a1 x2.toNat default default (by omega))
   obtain ⟨r1, hr1, H⟩ := osplit H
   have F := xCf F (JdM (a0.getD x2.toNat default) (a1.getD x2.toNat default) r1 hr1)
   refine xR ?_
   rcases bsplit H with ⟨hp3, H⟩ | ⟨hp3, H⟩
   ·obtain ⟨F, G, hq3⟩ := xH Y G hp3
    refine xT ?_
    replace H := inrO_fin H hF1
    replace H := Option.some.inj H
    refine xr ?_
    subst H
    exact xN
   ·obtain ⟨F, G, hq3⟩ := xH Y G hp3
    refine xE ?_
    refine xr ?_
    exact round_at (inl_fin H hF1) (xK ⟨[], []⟩)
  ·obtain ⟨F, G, hq2⟩ := xH Y G hp2
   replace H := inrO_fin H hF1
   refine xE ?_
   replace H := Option.some.inj H
   refine xr ?_
   subst H
   exact xN
theorem JdH (a0 : List Token) (a1 : List Token) (r : Bool) (H : Vj a0 a1 = some r) : PC ZN [(dL 11 d_Token) a0, (dL 11 d_Token) a1] (dB r) := PF.c (a := (a0, a1)) H
noncomputable def Kq (x1 : Int) (x2 : Int) : Bool → Option ((Int × Int) ⊕ Bool)
 | x3 => if x3 = true then inrO (some true) else some (.inl (x1, IntKind.i64.wrap (x2 + 1)))
noncomputable def Kr : Bool → Option Bool
 | x4 => some x4
noncomputable def Kn (r2 : (List Macro)) (r3 : (List Token)) : (Int × Int) → Option ((Int × Int) ⊕ Bool)
 | (x1, x2) => if (ltI x2 x1) = true then if (0 : Int) ≤ x2 ∧ x2.toNat < r3.length then (XS r2 ((r3.getD x2.toNat default).Text)).bind fun r4 => if (leI 0 r4) = true then Kq x1 x2 true else if (eqS ((r3.getD x2.toNat default).Text) [95, 95, 76, 73, 78, 69, 95, 95]) = true then Kq x1 x2 true else Kq x1 x2 (eqS ((r3.getD x2.toNat default).Text) [95, 95, 70, 73, 76, 69, 95, 95]) else none else inrO ((Jae ([] : List Source) r2 r3 4000 1500).bind fun r5 => if (eqI r5.2.2.1 0) = true then (Vj r5.1 r3).bind fun r6 => if r6 = true then Kr (eqI r5.2.1 (IntKind.i64.wrap (4000 - (r3.length : Int)))) else Kr false else Kr false)
noncomputable def Xl (a0 : List (List UInt8)) (a1 : List UInt8) : Option Bool :=
 (Zf).bind fun r1 => if (!r1) = true then some false else (V9 a0).bind fun r2 => (Xf a1).bind fun r3 => if (ltI 1500 (r3.length : Int)) = true then some true else loopO (Kn r2 r3) ((r3.length : Int), 0)
noncomputable def JbU : PF := PF.of (E2 (dL 1 dS) dS) (fun a => Xl a.1 a.2) dB
theorem JdA : PureOk Tryz.prog 5 JbU := by
 refine xF mixed [(14, JbO), (11, ZI), (9, Zl), (15, JaD), (13, ZN)] [(10, true, ZZ)] ⟨⟨call_14, JeB⟩, ⟨call_11, JcP⟩, ⟨call_9, Jb3⟩, ⟨call_15, Jdl⟩, ⟨call_13, Jdx⟩, trivial⟩ ⟨Jd4, trivial⟩ Tryz.func5 ?_
 rintro ⟨a0, a1⟩ out H
 have G := True.intro
 have Y := xZ y_9 <| xZ y_25 <| xZ y_27 <| xZ y_29 <| xZ y_39 <| xZ Tryz.results5 <| xZ d_Call.eq_1 <| xZ d_Token.eq_1 <| xZ d_Macro.eq_1 <| xZ d_Fault.eq_1 <| xZ d_Source.eq_1 <| Z1.eq_1
 simp only [Xl] at H
 refine xS ?_
 refine xr ?_
 obtain ⟨r1, hr1, H⟩ := osplit H
 have F := xC Y (JeL  r1 hr1)
 refine xR ?_
 rcases bsplit H with ⟨hp1, H⟩ | ⟨hp1, H⟩
 ·obtain ⟨F, G, hq1⟩ := xH Y G hp1
  refine xT ?_
  replace H := Option.some.inj H
  refine xr ?_
  subst H
  exact xN
 ·obtain ⟨F, G, hq1⟩ := xH Y G hp1
  refine xE ?_
  obtain ⟨r2, hr2, H⟩ := osplit H
  have F := xC Y (Jda a0 r2 hr2)
  refine xR ?_
  obtain ⟨r3, hr3, H⟩ := osplit H
  have F := xC Y (Jcp a1 r3 hr3)
  refine xR ?_
  refine xr ?_
  rcases bsplit H with ⟨hp2, H⟩ | ⟨hp2, H⟩
  ·obtain ⟨F, G, hq2⟩ := xH Y G hp2
   refine xT ?_
   replace H := Option.some.inj H
   refine xr ?_
   subst H
   exact xN
  ·obtain ⟨F, G, hq2⟩ := xH Y G hp2
   refine xE ?_
   refine xr ?_
   refine w_loop (Kn r2 r3) (fun s => [(5, .c (.d (.sl 5 (List.map d_Macro r2)))), (6, .c (.d (.sl 11 (List.map d_Token r3)))), (21, .c (.d (.sl 11 (List.map d_Token r3)))), (22, .c (.d (.v (.int .i64 s.1)))), (23, .c (.d (.v (.int .i64 s.2))))]) (fun s => []) [] H (xK ⟨[], []⟩) ?_
   rintro n1 ⟨x1, x2⟩ o1 H hF1
   rw [Kn] at H
   refine xS ?_
   refine xr ?_
   rcases bsplit H with ⟨hp3, H⟩ | ⟨hp3, H⟩
   ·obtain ⟨F, G, hq3⟩ := xH Y G hp3
    refine xT ?_
    obtain ⟨hg1, H⟩ := gsplit H
    have F := xZ Y (map_getD d_Token r3 x2.toNat default default (by omega))
    refine xR0 ?_
    refine then_normal ?_
    refine w_cut (Kq x1 x2) (fun s => [(5, .c (.d (.sl 5 (List.map d_Macro r2)))), (6, .c (.d (.sl 11 (List.map d_Token r3)))), (21, .c (.d (.sl 11 (List.map d_Token r3)))), (22, .c (.d (.v (.int .i64 x1)))), (23, .c (.d (.v (.int .i64 x2)))), (41, .c (.d (.v (.bool s))))]) (fun s => []) [] o1 ?_ ?_
    ·obtain ⟨r4, hr4, H⟩ := osplit H
     have F := xC Y (Jdw r2 ((r3.getD x2.toNat default).Text) r4 hr4)
     rcases bsplit H with ⟨hp5, H⟩ | ⟨hp5, H⟩
     ·obtain ⟨F, G, hq5⟩ := xH F G hp5
      refine xR ?_
      exact cut_at H (xK ⟨[], []⟩)
     ·obtain ⟨F, G, hq5⟩ := xH F G hp5
      rcases bsplit H with ⟨hp6, H⟩ | ⟨hp6, H⟩
      ·obtain ⟨F, G, hq6⟩ := xH F G hp6
       refine xR ?_
       exact cut_at H (xK ⟨[], []⟩)
      ·obtain ⟨F, G, hq6⟩ := xH F G hp6
       refine xR ?_
       exact cut_at H (xK ⟨[], []⟩)
    ·rintro x3 H
     rw [Kq] at H
     rcases bsplit H with ⟨hp4, H⟩ | ⟨hp4, H⟩
     ·obtain ⟨F, G, hq4⟩ := xH Y G hp4
      refine xT ?_
      replace H := inrO_fin H hF1
      replace H := Option.some.inj H
      refine xr ?_
      subst H
      exact xN
     ·obtain ⟨F, G, hq4⟩ := xH Y G hp4
      refine xE ?_
      refine xr ?_
      exact round_at (inl_fin H hF1) (xK ⟨[], []⟩)
   ·obtain ⟨F, G, hq3⟩ := xH Y G hp3
    replace H := inrO_fin H hF1
    refine xE ?_
    obtain ⟨r5, hr5, H⟩ := osplit H
    have F := Y
    refine xQ ?_
    refine xs 2 ?_
    refine xc ⟨[], []⟩ (tabG 0 (Jd0 ([] : List Source) r2 r3 4000 1500 r5 hr5)) ?_
    refine xs 8 ?_
    refine xl ?_
    refine  ?_
    refine then_normal ?_
    refine w_cut Kr (fun s => [(4, .c (.d (.v (.bool s))))]) (fun s => []) [] out ?_ ?_
    ·rcases bsplit H with ⟨hp7, H⟩ | ⟨hp7, H⟩
     ·obtain ⟨F, G, hq7⟩ := xH Y G hp7
      obtain ⟨r6, hr6, H⟩ := osplit H
      have F := xCf F (JdH r5.1 r3 r6 hr6)
      rcases bsplit H with ⟨hp8, H⟩ | ⟨hp8, H⟩
      ·obtain ⟨F, G, hq8⟩ := xH F G hp8
       refine xR ?_
       exact cut_at H (xK ⟨[], []⟩)
      ·obtain ⟨F, G, hq8⟩ := xH F G hp8
       refine xR ?_
       exact cut_at H (xK ⟨[], []⟩)
     ·obtain ⟨F, G, hq7⟩ := xH Y G hp7
      refine xR ?_
      exact cut_at H (xK ⟨[], []⟩)
    ·rintro x4 H
     rw [Kr] at H
     replace H := Option.some.inj H
     refine xS ?_
     subst H
     exact xN
end Go.Proofs.YtjgimofnepechaaGreatDoor
