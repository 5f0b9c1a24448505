/- Functions of data for functions of the program. Written by dec3.py. -/
import Derived.Test.YtfkhlbhjhdpkoaaGreatDoorZras
import Derived.Test.YtfkhlbhjhdpkoaaGreatDoorZrau
import Derived.Test.YtfkhlbhjhdpkoaaGreatDoorZrbl
set_option linter.unusedVariables false
set_option linter.unusedSimpArgs false
set_option maxHeartbeats 4000000
set_option maxRecDepth 100000
namespace Go.Proofs.YtfkhlbhjhdpkoaaGreatDoor
open Go.RowKit
noncomputable def JbX  : Option Limits :=
 some (⟨4000,1500,6⟩:Limits)
noncomputable def Jd4:PF:=PF.of E0 (fun _=>JbX) Kw
theorem Jia:JF Tryz.prog 12 Jd4:=by
 refine xF mixed [] [] trivial trivial Tryz.func12 ?_
 rintro _ out H
 have G:=True.intro
 have Y:=xZ y_3 <| xZ y_39 <| xZ Tryz.results12 <| Kw.eq_1
 simp only[JbX]at H
 refine xS ?_
 refine xr ?_
 replace H:=oI H
 refine xr ?_
 subst H
 exact xN
theorem JjH  (r:Limits) (H:JbX  = some r):PC Jd4 [] (Kw r):=PF.c (a:=()) H
noncomputable def Jdn(x2 x3:Int):((List UInt8)×Int×(List UInt8)×Bool×Bool×Int×Int×Int×Int×YO×(List Call)×Int)→Option Yt
 | (x4,x5,x6,x7,x8,x9,x10,x11,x12,x13,x14,x15)=>if x4.length+x6.length≤9223372036854775807 then some (.inl (x4++x6,x2,IntKind.i64.wrap (x3+1))) else none
noncomputable def Jfp(a0:List Token):YE→Option Yt
 | (x1,x2,x3)=>if(ltI x3 x2)=true then if(0:Int)≤x3∧x3.toNat<a0.length then if(ltI 0 x3)=true then if x1.length+1≤9223372036854775807 then Jdn x2 x3 (x1++[32],(a0.getD x3.toNat default).Kind,(a0.getD x3.toNat default).Text,(a0.getD x3.toNat default).Space,(a0.getD x3.toNat default).First,(a0.getD x3.toNat default).File,(a0.getD x3.toNat default).At,(a0.getD x3.toNat default).End,(a0.getD x3.toNat default).Line,(a0.getD x3.toNat default).Hide,(a0.getD x3.toNat default).Calls,(a0.getD x3.toNat default).Made) else none else Jdn x2 x3 (x1,(a0.getD x3.toNat default).Kind,(a0.getD x3.toNat default).Text,(a0.getD x3.toNat default).Space,(a0.getD x3.toNat default).First,(a0.getD x3.toNat default).File,(a0.getD x3.toNat default).At,(a0.getD x3.toNat default).End,(a0.getD x3.toNat default).Line,(a0.getD x3.toNat default).Hide,(a0.getD x3.toNat default).Calls,(a0.getD x3.toNat default).Made) else none else inrO (some x1)
noncomputable def JdJ(a0:List Token):Option (List UInt8) :=
 Jt (Jfp a0) ([],(a0.length:Int),0)
noncomputable def JfF:PF:=PF.of (E1 (dL 11 Ja)) (fun a=>JdJ a) dS
theorem JmJ:JF Tryz.prog 26 JfF:=by
 refine xF mixed [] [] trivial trivial Tryz.func26 ?_
 rintro a0 out H
 have G:=True.intro
 have Y:=xZ y_9 <| xZ y_24 <| xZ y_44 <| xZ Tryz.results26 <| xZ Jk.eq_1 <| Ja.eq_1
 simp only[JdJ]at H
 refine xS ?_
 refine xr ?_
 refine xr ?_
 refine xr ?_
 refine JZ (Jfp a0) (fun s=>[(3,cS s.1),(6,.c (.d (.sl 11 (List.map Ja a0)))),(7,cI s.2.1),(8,cI s.2.2)]) (fun s=>[]) [] H (xK ⟨[],[]⟩) ?_
 rintro n1 ⟨x1,x2,x3⟩ o1 H hF1
 rw[Jfp]at H
 refine xS ?_
 refine xr ?_
 rcases xB Y G H with⟨p,H,F,G,q⟩|⟨p,H,F,G,q⟩
 ·refine xT ?_
  obtain⟨g,H⟩:=Jd H
  have F:=xZ Y (Jh Ja a0 x3.toNat default default (by omega))
  refine xR0 ?_
  refine Jl ?_
  refine Jp (Jdn x2 x3) (fun s=>[(3,cS s.1),(5,.c (.pt 1 0)),(6,.c (.d (.sl 11 (List.map Ja a0)))),(7,cI x2),(8,cI x3)]) (fun s=>[[kI s.2.1,kS s.2.2.1,kB s.2.2.2.1,kB s.2.2.2.2.1,kI s.2.2.2.2.2.1,kI s.2.2.2.2.2.2.1,kI s.2.2.2.2.2.2.2.1,kI s.2.2.2.2.2.2.2.2.1,.d (.sl 1 (List.map dS s.2.2.2.2.2.2.2.2.2.1)),.d (.sl 3 (List.map Jk s.2.2.2.2.2.2.2.2.2.2.1)),kI s.2.2.2.2.2.2.2.2.2.2.2]]) [] o1 ?_ ?_
  ·refine xS ?_
   refine xr ?_
   rcases xB Y G H with⟨p,H,F,G,q⟩|⟨p,H,F,G,q⟩
   ·refine xT ?_
    obtain⟨g,H⟩:=Jd H
    refine xr ?_
    exact Jb H (xK ⟨[1],[]⟩)
   refine xE ?_
   exact Jb H (xK ⟨[1],[]⟩)
  rintro ⟨x4,x5,x6,x7,x8,x9,x10,x11,x12,x13,x14,x15⟩ H
  rw[Jdn]at H
  obtain⟨g,H⟩:=Jd H
  refine xr ?_
  refine xr ?_
  exact JB (JG H hF1) (xK ⟨[],[]⟩)
 replace H:=Js H hF1
 refine xE ?_
 replace H:=oI H
 refine xr ?_
 subst H
 exact xN
theorem JoH(a0:List Token)(r:(List UInt8))(H:JdJ a0=some r):PC JfF [(dL 11 Ja) a0] (dS r):=PF.c (a:=a0) H
noncomputable def JdS(a0:List Source)(a1:Int):Option YM :=
 (JbX).bind fun r1=>(XN a0 a1 ([]:List Macro) r1).bind fun r2=>(JdJ r2.1).bind fun r3=>some (r3,r2.2.2.2.1)
noncomputable def JgD:PF:=PF.of (E2 (dL 2 Jf) dI) (fun a=>JdS a.1 a.2) (T2 dS dI)
theorem JsA:JF Tryz.prog 14 JgD:=by
 refine xF mixed [(12,Jd4),(26,JfF)] [(11,true,Jel)] ⟨⟨Jwm,Jia⟩,⟨JBw,JmJ⟩,trivial⟩ ⟨JlZ,trivial⟩ Tryz.func14 ?_
 rintro ⟨a0,a1⟩ out H
 have G:=True.intro
 have Y:=xZ y_24 <| xZ y_27 <| xZ y_29 <| xZ y_31 <| xZ Tryz.results14 <| xZ Jf.eq_1 <| xZ Kw.eq_1 <| xZ Jk.eq_1 <| xZ Ja.eq_1 <| xZ Je.eq_1 <| xZ J9.eq_1 <| Jer.eq_1
 simp only[JdS]at H
 refine xS ?_
 refine xr ?_
 obtain⟨r1,hr1,H⟩:=Ji H
 have F:=xC Y (JjH  r1 hr1)
 obtain⟨r2,hr2,H⟩:=Ji H
 have F:=F
 refine xQ ?_
 refine xs 3 ?_
 refine xc ⟨[],[]⟩ (tabG 0 (cg4 hr2)) ?_
 refine xs 9 ?_
 refine xl ?_
 refine xS ?_
 obtain⟨r3,hr3,H⟩:=Ji H
 have F:=xC Y (JoH r2.1 r3 hr3)
 replace H:=oI H
 refine xR ?_
 subst H
 exact xN
theorem Js8(a0:List Source)(a1:Int)(r:(List UInt8)×Int)(H:JdS a0 a1=some r):PC JgD [(dL 2 Jf) a0,dI a1] (T2 dS dI r):=PF.c (a:=(a0,a1)) H
noncomputable def ZY:Bool→Option Bool
 | x1=>some x1
noncomputable def Zz  : Option Bool :=
 (JdS [(⟨[109],[35,100,101,102,105,110,101,32,65,32,66,10,35,100,101,102,105,110,101,32,66,32,65,32,120,10,65]⟩:Source)] 0).bind fun r1=>if(eqI r1.2 0)=true then ZY (eqS r1.1 [65,32,120]) else ZY false
noncomputable def Jfs:PF:=PF.of E0 (fun _=>Zz) dB
theorem Jn0:JF Tryz.prog 9 Jfs:=by
 refine xF mixed [(14,JgD)] [] ⟨⟨JBC,JsA⟩,trivial⟩ trivial Tryz.func9 ?_
 rintro _ out H
 have G:=True.intro
 have Y:=xZ y_9 <| xZ y_35 <| xZ y_37 <| xZ Tryz.results9 <| Jf.eq_1
 simp only[Zz]at H
 refine xS ?_
 refine xr ?_
 obtain⟨r1,hr1,H⟩:=Ji H
 have F:=xC Y (Js8 [(⟨[109],[35,100,101,102,105,110,101,32,65,32,66,10,35,100,101,102,105,110,101,32,66,32,65,32,120,10,65]⟩:Source)] 0 r1 hr1)
 refine xR0 ?_
 refine Jl ?_
 refine Jp ZY (fun s=>[(0,cB s)]) (fun s=>[]) [] out ?_ ?_
 ·rcases xB Y G H with⟨p,H,F,G,q⟩|⟨p,H,F,G,q⟩
  ·refine xR ?_
   exact Jb H (xK ⟨[],[]⟩)
  refine xR ?_
  exact Jb H (xK ⟨[],[]⟩)
 rintro x1 H
 rw[ZY]at H
 replace H:=oI H
 refine xS ?_
 subst H
 exact xN
theorem JoS  (r:Bool) (H:Zz  = some r):PC Jfs [] (dB r):=PF.c (a:=()) H
noncomputable def Xr(a0:Int):Option (List UInt8) :=
 (ZH a0).bind fun r1=>if 1+r1.length≤9223372036854775807 then some ([77]++r1) else none
noncomputable def Jf9:PF:=PF.of (E1 dI) (fun a=>Xr a) dS
theorem Joo:JF Tryz.prog 10 Jf9:=by
 refine xF mixed [(13,Jbu)] [] ⟨⟨JvE,JhE⟩,trivial⟩ trivial Tryz.func10 ?_
 rintro a0 out H
 have G:=True.intro
 have Y:=Tryz.results10
 simp only[Xr]at H
 refine xS ?_
 refine xr ?_
 obtain⟨r1,hr1,H⟩:=Ji H
 have F:=xC Y (Jib a0 r1 hr1)
 obtain⟨g,H⟩:=Jd H
 replace H:=oI H
 refine xR ?_
 subst H
 exact xN
theorem Jex(a0:Int)(r:(List UInt8))(H:Xr a0=some r):PC Jf9 [dI a0] (dS r):=PF.c (a:=a0) H
end Go.Proofs.YtfkhlbhjhdpkoaaGreatDoor
