/- Functions of data for functions of the program. Written by dec3.py. -/
import Derived.Test.YtfkhlbhjhdpkoaaGreatDoorZqas
import Derived.Test.YtfkhlbhjhdpkoaaGreatDoorZqau
import Derived.Test.YtfkhlbhjhdpkoaaGreatDoorZqbl
set_option linter.unusedVariables false
set_option linter.unusedSimpArgs false
set_option maxHeartbeats 4000000
set_option maxRecDepth 100000
namespace Go.Proofs.YtfkhlbhjhdpkoaaGreatDoor
open Go.RowKit
noncomputable def Jgf  : Option Limits :=
 some (⟨4000,1500,6⟩:Limits)
noncomputable def Jgh:PF:=PF.of E0 (fun _=>Jgf) Ku
theorem Joy:JB Tryz.prog 18 Jgh:=by
 refine xF mixed [] [] trivial trivial Tryz.func18 ?_
 rintro _ out H
 have G:=True.intro
 have Y:=xZ y_3 <| xZ y_39 <| xZ Tryz.results18 <| Ku.eq_1
 simp only[Jgf]at H
 refine xS ?_
 refine xr ?_
 replace H:=oI H
 refine xr ?_
 subst H
 exact xN
theorem Jqa  (r:Limits) (H:Jgf  = some r):PC Jgh [] (Ku r):=PF.c (a:=()) H
noncomputable def Xf:Bool→Option Bool
 | x1=>some x1
noncomputable def JdG  : Option Bool :=
 (Jgf).bind fun r1=>(Jdk [(⟨[97,46,104],[35,100,101,102,105,110,101,32,88,32,49,10]⟩:Source),(⟨[98,46,99],[35,105,110,99,108,117,100,101,32,34,97,46,104,34,10,35,105,102,32,88,10,121,101,115,32,88,10,35,101,108,115,101,10,110,111,10,35,101,110,100,105,102,10]⟩:Source)] 1 ([]:List Macro) r1).bind fun r2=>if(eqI r2.2.2.2.1 0)=true then if(eqI (r2.1.length:Int) 2)=true then if 1<r2.1.length then if(eqS ((r2.1.getD 1 default).Text) [49])=true then if(eqI (r2.2.2.1.length:Int) 1)=true then Xf (eqI (r2.2.1.length:Int) 2) else Xf false else Xf false else none else Xf false else Xf false
noncomputable def JfL:PF:=PF.of E0 (fun _=>JdG) dB
theorem JnF:JB Tryz.prog 15 JfL:=by
 refine xF mixed [(18,Jgh)] [(11,true,Jfc)] ⟨⟨JDW,Joy⟩,trivial⟩ ⟨Jnj,trivial⟩ Tryz.func15 ?_
 rintro _ out H
 have G:=True.intro
 have Y:=xZ y_3 <| xZ y_9 <| xZ y_24 <| xZ y_25 <| xZ y_27 <| xZ y_28 <| xZ y_29 <| xZ y_31 <| xZ y_35 <| xZ y_37 <| xZ y_44 <| xZ y_63 <| xZ Tryz.results15 <| xZ Jg.eq_1 <| xZ Ku.eq_1 <| xZ Jl.eq_1 <| xZ Ja.eq_1 <| xZ Jf.eq_1 <| xZ JU.eq_1 <| Jff.eq_1
 simp only[JdG]at H
 refine xS ?_
 refine xr ?_
 obtain⟨r1,hr1,H⟩:=Ji H
 have F:=xC Y (Jqa  r1 hr1)
 obtain⟨r2,hr2,H⟩:=Ji H
 have F:=F
 refine xQ ?_
 refine xs 4 ?_
 refine xc ⟨[],[]⟩ (tabG 0 (cg4 hr2)) ?_
 refine xs 9 ?_
 refine xl ?_
 refine  ?_
 refine Jj ?_
 refine Jn Xf (fun s=>[(0,cB s)]) (fun s=>[]) [] out ?_ ?_
 ·rcases xB Y G H with⟨p,H,F,G,q⟩|⟨p,H,F,G,q⟩
  ·rcases xB F G H with⟨p,H,F,G,q⟩|⟨p,H,F,G,q⟩
   ·obtain⟨g,H⟩:=Jc H
    have F:=xZ F (Jh Ja r2.1 1 default default (by omega))
    rcases xB F G H with⟨p,H,F,G,q⟩|⟨p,H,F,G,q⟩
    ·rcases xB F G H with⟨p,H,F,G,q⟩|⟨p,H,F,G,q⟩
     ·refine xR ?_
      exact Jb H (xK ⟨[],[]⟩)
     refine xR ?_
     exact Jb H (xK ⟨[],[]⟩)
    refine xR ?_
    exact Jb H (xK ⟨[],[]⟩)
   refine xR ?_
   exact Jb H (xK ⟨[],[]⟩)
  refine xR ?_
  exact Jb H (xK ⟨[],[]⟩)
 rintro x1 H
 rw[Xf]at H
 replace H:=oI H
 refine xS ?_
 subst H
 exact xN
theorem JpL  (r:Bool) (H:JdG  = some r):PC JfL [] (dB r):=PF.c (a:=()) H
noncomputable def Kx:Bool→Option Bool
 | x1=>some x1
noncomputable def X1(a0:List UInt8):Option Bool :=
 if(ltI 0 (a0.length:Int))=true then if(0:Int)≤(IntKind.i64.wrap ((a0.length:Int)-1))∧(IntKind.i64.wrap ((a0.length:Int)-1)).toNat<a0.length then if(eqI ((a0.getD ((IntKind.i64.wrap ((a0.length:Int)-1)).toNat) 0).toNat:Int) 92)=true then Kx true else if(ltI 1 (a0.length:Int))=true then if(0:Int)≤(IntKind.i64.wrap ((a0.length:Int)-1))∧(IntKind.i64.wrap ((a0.length:Int)-1)).toNat<a0.length then if(eqI ((a0.getD ((IntKind.i64.wrap ((a0.length:Int)-1)).toNat) 0).toNat:Int) 13)=true then if(0:Int)≤(IntKind.i64.wrap ((a0.length:Int)-2))∧(IntKind.i64.wrap ((a0.length:Int)-2)).toNat<a0.length then Kx (eqI ((a0.getD ((IntKind.i64.wrap ((a0.length:Int)-2)).toNat) 0).toNat:Int) 92) else none else Kx false else none else Kx false else none else if(ltI 1 (a0.length:Int))=true then if(0:Int)≤(IntKind.i64.wrap ((a0.length:Int)-1))∧(IntKind.i64.wrap ((a0.length:Int)-1)).toNat<a0.length then if(eqI ((a0.getD ((IntKind.i64.wrap ((a0.length:Int)-1)).toNat) 0).toNat:Int) 13)=true then if(0:Int)≤(IntKind.i64.wrap ((a0.length:Int)-2))∧(IntKind.i64.wrap ((a0.length:Int)-2)).toNat<a0.length then Kx (eqI ((a0.getD ((IntKind.i64.wrap ((a0.length:Int)-2)).toNat) 0).toNat:Int) 92) else none else Kx false else none else Kx false
noncomputable def JgD:PF:=PF.of (E1 dS) (fun a=>X1 a) dB
theorem JpO:JB Tryz.prog 17 JgD:=by
 refine xF mixed [] [] trivial trivial Tryz.func17 ?_
 rintro a0 out H
 have G:=True.intro
 have Y:=xZ y_9 <| Tryz.results17
 simp only[X1]at H
 refine xS ?_
 refine xr ?_
 refine xr0 ?_
 refine Jj ?_
 refine Jn Kx (fun s=>[(2,cB s)]) (fun s=>[]) [] out ?_ ?_
 ·rcases xB Y G H with⟨p,H,F,G,q⟩|⟨p,H,F,G,q⟩
  ·obtain⟨g,H⟩:=Jc H
   rcases xB F G H with⟨p,H,F,G,q⟩|⟨p,H,F,G,q⟩
   ·refine xR ?_
    exact Jb H (xK ⟨[],[]⟩)
   rcases xB F G H with⟨p,H,F,G,q⟩|⟨p,H,F,G,q⟩
   ·obtain⟨g,H⟩:=Jc H
    rcases xB F G H with⟨p,H,F,G,q⟩|⟨p,H,F,G,q⟩
    ·obtain⟨g,H⟩:=Jc H
     refine xR ?_
     exact Jb H (xK ⟨[],[]⟩)
    refine xR ?_
    exact Jb H (xK ⟨[],[]⟩)
   refine xR ?_
   exact Jb H (xK ⟨[],[]⟩)
  rcases xB F G H with⟨p,H,F,G,q⟩|⟨p,H,F,G,q⟩
  ·obtain⟨g,H⟩:=Jc H
   rcases xB F G H with⟨p,H,F,G,q⟩|⟨p,H,F,G,q⟩
   ·obtain⟨g,H⟩:=Jc H
    refine xR ?_
    exact Jb H (xK ⟨[],[]⟩)
   refine xR ?_
   exact Jb H (xK ⟨[],[]⟩)
  refine xR ?_
  exact Jb H (xK ⟨[],[]⟩)
 rintro x1 H
 rw[Kx]at H
 replace H:=oI H
 refine xS ?_
 subst H
 exact xN
theorem Jqo(a0:List UInt8)(r:Bool)(H:X1 a0=some r):PC JgD [dS a0] (dB r):=PF.c (a:=a0) H
noncomputable def VS:Bool→Option Bool
 | x5=>some x5
noncomputable def VQ(a0:List UInt8)(a1:Int):(Int×Int)→Option YR
 | (x3,x4)=>if(ltI x4 x3)=true then if(0:Int)≤x4∧x4.toNat<a0.length then if(eqI ((a0.getD x4.toNat 0).toNat:Int) 35)=true then inrO (some true) else some (.inl (x3,IntKind.i64.wrap (x4+1))) else none else inrO (if a0.length+14≤9223372036854775807 then(Jdk [(⟨[109],a0++[10,35,105,110,99,108,117,100,101,32,34,109,34,10]⟩:Source)] 0 ([]:List Macro) (⟨4000,1500,a1⟩:Limits)).bind fun r3=>if(eqI r3.2.2.2.1 10)=true then if(eqI r3.2.2.2.2.1 0)=true then VS (ltI (a0.length:Int) r3.2.2.2.2.2) else VS false else VS false else none)
noncomputable def XU(a0:List UInt8)(a1:Int):Bool→Option Bool
 | x2=>if x2=true then some true else Jv (VQ a0 a1) ((a0.length:Int),0)
noncomputable def Va(a0:List UInt8)(a1:Int):Bool→Option Bool
 | x1=>if x1=true then some true else(XC 0 a0).bind fun r2=>if(!eqI r2.2.Err 0)=true then XU a0 a1 true else XU a0 a1 (ltI 200 (r2.1.length:Int))
noncomputable def JaX(a0:List UInt8)(a1:Int):Option Bool :=
 (JdG).bind fun r1=>if(!r1)=true then some false else if(ltI a1 0)=true then Va a0 a1 true else if(ltI 6 a1)=true then Va a0 a1 true else(X1 a0).bind fun r4=>if r4=true then Va a0 a1 true else Va a0 a1 (ltI 1000 (a0.length:Int))
noncomputable def Jgs:PF:=PF.of (E2 dS dI) (fun a=>JaX a.1 a.2) dB
theorem Jj5:JB Tryz.prog 6 Jgs:=by
 refine xF mixed [(15,JfL),(16,Je2),(17,JgD)] [(11,true,Jfc)] ⟨⟨JDm,JnF⟩,⟨JDR,Jm6⟩,⟨JDd,JpO⟩,trivial⟩ ⟨Jnj,trivial⟩ Tryz.func6 ?_
 rintro ⟨a0,a1⟩ out H
 have G:=True.intro
 have Y:=xZ y_3 <| xZ y_9 <| xZ y_24 <| xZ y_27 <| xZ y_29 <| xZ y_31 <| xZ y_35 <| xZ y_37 <| xZ y_39 <| xZ y_44 <| xZ Tryz.results6 <| xZ Jg.eq_1 <| xZ Ku.eq_1 <| xZ Jl.eq_1 <| xZ Ja.eq_1 <| xZ Jf.eq_1 <| xZ JU.eq_1 <| Jff.eq_1
 simp only[JaX]at H
 refine xS ?_
 refine xr ?_
 obtain⟨r1,hr1,H⟩:=Ji H
 have F:=xC Y (JpL  r1 hr1)
 refine xR ?_
 rcases xB Y G H with⟨p,H,F,G,q⟩|⟨p,H,F,G,q⟩
 ·refine xT ?_
  replace H:=oI H
  refine xr ?_
  subst H
  exact xN
 refine xE0 ?_
 refine VA ?_
 refine Jj ?_
 refine Kf ?_
 refine Jn (Va a0 a1) (fun s=>[(0,cS a0),(1,cI a1),(27,cB s)]) (fun s=>[]) [] out ?_ ?_
 ·rcases xB Y G H with⟨p,H,F,G,q⟩|⟨p,H,F,G,q⟩
  ·refine xR ?_
   exact Jb H (xK ⟨[],[]⟩)
  rcases xB F G H with⟨p,H,F,G,q⟩|⟨p,H,F,G,q⟩
  ·refine xR ?_
   exact Jb H (xK ⟨[],[]⟩)
  obtain⟨r4,hr4,H⟩:=Ji H
  have F:=xCf F (Jqo a0 r4 hr4)
  rcases xB F G H with⟨p,H,F,G,q⟩|⟨p,H,F,G,q⟩
  ·refine xR ?_
   exact Jb H (xK ⟨[],[]⟩)
  refine xR ?_
  exact Jb H (xK ⟨[],[]⟩)
 rintro x1 H
 rw[Va]at H
 rcases xB Y G H with⟨p,H,F,G,q⟩|⟨p,H,F,G,q⟩
 ·refine xT ?_
  replace H:=oI H
  refine xr ?_
  subst H
  exact xN
 refine xE ?_
 obtain⟨r2,hr2,H⟩:=Ji H
 have F:=xC Y (Jnw 0 a0 r2 hr2)
 refine xR0 ?_
 refine Jj ?_
 refine Jn (XU a0 a1) (fun s=>[(0,cS a0),(1,cI a1),(40,cB s)]) (fun s=>[]) [] out ?_ ?_
 ·rcases xB Y G H with⟨p,H,F,G,q⟩|⟨p,H,F,G,q⟩
  ·refine xR ?_
   exact Jb H (xK ⟨[],[]⟩)
  refine xR ?_
  exact Jb H (xK ⟨[],[]⟩)
 rintro x2 H
 rw[XU]at H
 rcases xB Y G H with⟨p,H,F,G,q⟩|⟨p,H,F,G,q⟩
 ·refine xT ?_
  replace H:=oI H
  refine xr ?_
  subst H
  exact xN
 refine xE ?_
 refine xr ?_
 refine JG (VQ a0 a1) (fun s=>[(0,cS a0),(1,cI a1),(42,cI s.1),(43,cI s.2)]) (fun s=>[]) [] H (xK ⟨[],[]⟩) ?_
 rintro n1 ⟨x3,x4⟩ o1 H hF1
 rw[VQ]at H
 refine xS ?_
 refine xr ?_
 rcases xB Y G H with⟨p,H,F,G,q⟩|⟨p,H,F,G,q⟩
 ·refine xT ?_
  refine xr ?_
  obtain⟨g,H⟩:=Jc H
  refine xr ?_
  rcases xB Y G H with⟨p,H,F,G,q⟩|⟨p,H,F,G,q⟩
  ·refine xT ?_
   replace H:=Jq H hF1
   replace H:=oI H
   refine xr ?_
   subst H
   exact xN
  refine xE ?_
  refine xr ?_
  exact Jw (JA H hF1) (xK ⟨[],[]⟩)
 replace H:=Jq H hF1
 refine xE ?_
 obtain⟨g,H⟩:=Jc H
 obtain⟨r3,hr3,H⟩:=Ji H
 have F:=Y
 refine xQ ?_
 refine xs 6 ?_
 refine xc ⟨[],[]⟩ (tabG 0 (cg4 hr3)) ?_
 refine xs 9 ?_
 refine xl ?_
 refine  ?_
 refine Jj ?_
 refine Jn VS (fun s=>[(4,cB s)]) (fun s=>[]) [] out ?_ ?_
 ·rcases xB Y G H with⟨p,H,F,G,q⟩|⟨p,H,F,G,q⟩
  ·rcases xB F G H with⟨p,H,F,G,q⟩|⟨p,H,F,G,q⟩
   ·refine xR ?_
    exact Jb H (xK ⟨[],[]⟩)
   refine xR ?_
   exact Jb H (xK ⟨[],[]⟩)
  refine xR ?_
  exact Jb H (xK ⟨[],[]⟩)
 rintro x5 H
 rw[VS]at H
 replace H:=oI H
 refine xS ?_
 subst H
 exact xN
end Go.Proofs.YtfkhlbhjhdpkoaaGreatDoor
