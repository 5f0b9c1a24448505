/- Functions of data for functions of the program. Written by dec3.py. -/
import Derived.Test.YtfkhlbhjhdpkoaaGreatDoorZpas
import Derived.Test.YtfkhlbhjhdpkoaaGreatDoorZpau
import Derived.Test.YtfkhlbhjhdpkoaaGreatDoorZpbl
set_option linter.unusedVariables false
set_option linter.unusedSimpArgs false
set_option maxHeartbeats 4000000
set_option maxRecDepth 100000
namespace Go.Proofs.YtfkhlbhjhdpkoaaGreatDoor
open Go.RowKit
noncomputable def Jdh  : Option Limits :=
 some (⟨4000,1500,6⟩:Limits)
noncomputable def Jge:PF:=PF.of E0 (fun _=>Jdh) KH
theorem Jpq:JE Tryz.prog 12 Jge:=by
 refine xF mixed [] [] trivial trivial Tryz.func12 ?_
 rintro _ out H
 have G:=True.intro
 have Y:=xZ y_3 <| xZ y_39 <| xZ Tryz.results12 <| KH.eq_1
 simp only[Jdh]at H
 refine xS ?_
 refine xr ?_
 replace H:=oI H
 refine xr ?_
 subst H
 exact xN
theorem Js7  (r:Limits) (H:Jdh  = some r):PC Jge [] (KH r):=PF.c (a:=()) H
noncomputable def Jab(x2 x3:Int):((List UInt8)×Int×(List UInt8)×Bool×Bool×Int×Int×Int×Int×YR×(List Call)×Int)→Option Yv
 | (x4,x5,x6,x7,x8,x9,x10,x11,x12,x13,x14,x15)=>if x4.length+x6.length≤9223372036854775807 then some (.inl (x4++x6,x2,IntKind.i64.wrap (x3+1))) else none
noncomputable def Z0(a0:List Token):((List UInt8)×Int×Int)→Option Yv
 | (x1,x2,x3)=>if(ltI x3 x2)=true then if(0:Int)≤x3∧x3.toNat<a0.length then if(ltI 0 x3)=true then if x1.length+1≤9223372036854775807 then Jab x2 x3 (x1++[32],(a0.getD x3.toNat default).Kind,(a0.getD x3.toNat default).Text,(a0.getD x3.toNat default).Space,(a0.getD x3.toNat default).First,(a0.getD x3.toNat default).File,(a0.getD x3.toNat default).At,(a0.getD x3.toNat default).End,(a0.getD x3.toNat default).Line,(a0.getD x3.toNat default).Hide,(a0.getD x3.toNat default).Calls,(a0.getD x3.toNat default).Made) else none else Jab x2 x3 (x1,(a0.getD x3.toNat default).Kind,(a0.getD x3.toNat default).Text,(a0.getD x3.toNat default).Space,(a0.getD x3.toNat default).First,(a0.getD x3.toNat default).File,(a0.getD x3.toNat default).At,(a0.getD x3.toNat default).End,(a0.getD x3.toNat default).Line,(a0.getD x3.toNat default).Hide,(a0.getD x3.toNat default).Calls,(a0.getD x3.toNat default).Made) else none else inrO (some x1)
noncomputable def Jbn(a0:List Token):Option (List UInt8) :=
 Jy (Z0 a0) ([],(a0.length:Int),0)
noncomputable def JfM:PF:=PF.of (E1 (dL 11 Ja)) (fun a=>Jbn a) dS
theorem Joj:JE Tryz.prog 26 JfM:=by
 refine xF mixed [] [] trivial trivial Tryz.func26 ?_
 rintro a0 out H
 have G:=True.intro
 have Y:=xZ y_9 <| xZ y_24 <| xZ y_44 <| xZ Tryz.results26 <| xZ Jl.eq_1 <| Ja.eq_1
 simp only[Jbn]at H
 refine xS ?_
 refine xr ?_
 refine xr ?_
 refine xr ?_
 refine JZ (Z0 a0) (fun s=>[(3,cS s.1),(6,.c (.d (.sl 11 (List.map Ja a0)))),(7,cI s.2.1),(8,cI s.2.2)]) (fun s=>[]) [] H (xK ⟨[],[]⟩) ?_
 rintro n1 ⟨x1,x2,x3⟩ o1 H hF1
 rw[Z0]at H
 refine xS ?_
 refine xr ?_
 rcases xB Y G H with⟨p,H,F,G,q⟩|⟨p,H,F,G,q⟩
 ·refine xT ?_
  obtain⟨g,H⟩:=Jd H
  have F:=xZ Y (Ji Ja a0 x3.toNat default default (by omega))
  refine xR0 ?_
  refine Jm ?_
  refine Jp (Jab x2 x3) (fun s=>[(3,cS s.1),(5,.c (.pt 1 0)),(6,.c (.d (.sl 11 (List.map Ja a0)))),(7,cI x2),(8,cI x3)]) (fun s=>[[kI s.2.1,kS s.2.2.1,kB s.2.2.2.1,kB s.2.2.2.2.1,kI s.2.2.2.2.2.1,kI s.2.2.2.2.2.2.1,kI s.2.2.2.2.2.2.2.1,kI s.2.2.2.2.2.2.2.2.1,.d (.sl 1 (List.map dS s.2.2.2.2.2.2.2.2.2.1)),.d (.sl 3 (List.map Jl s.2.2.2.2.2.2.2.2.2.2.1)),kI s.2.2.2.2.2.2.2.2.2.2.2]]) [] o1 ?_ ?_
  ·refine xS ?_
   refine xr ?_
   rcases xB Y G H with⟨p,H,F,G,q⟩|⟨p,H,F,G,q⟩
   ·refine xT ?_
    obtain⟨g,H⟩:=Jd H
    refine xr ?_
    exact Jb H (xK ⟨[1],[]⟩)
   refine xE ?_
   exact Jb H (xK ⟨[1],[]⟩)
  rintro ⟨x4,x5,x6,x7,x8,x9,x10,x11,x12,x13,x14,x15⟩ H
  rw[Jab]at H
  obtain⟨g,H⟩:=Jd H
  refine xr ?_
  refine xr ?_
  exact JA (JF H hF1) (xK ⟨[],[]⟩)
 replace H:=Js H hF1
 refine xE ?_
 replace H:=oI H
 refine xr ?_
 subst H
 exact xN
theorem Jo3(a0:List Token)(r:(List UInt8))(H:Jbn a0=some r):PC JfM [(dL 11 Ja) a0] (dS r):=PF.c (a:=a0) H
noncomputable def JbH(a0:List Source)(a1:Int):Option YP :=
 (Jdh).bind fun r1=>(JbR a0 a1 ([]:List Macro) r1).bind fun r2=>(Jbn r2.1).bind fun r3=>some (r3,r2.2.2.2.1)
noncomputable def JeD:PF:=PF.of (E2 (dL 2 Jf) dI) (fun a=>JbH a.1 a.2) (T2 dS dI)
theorem JjQ:JE Tryz.prog 14 JeD:=by
 refine xF mixed [(12,Jge),(26,JfM)] [(11,true,Jgl)] ⟨⟨JDd,Jpq⟩,⟨JDa,Joj⟩,trivial⟩ ⟨JvW,trivial⟩ Tryz.func14 ?_
 rintro ⟨a0,a1⟩ out H
 have G:=True.intro
 have Y:=xZ y_24 <| xZ y_27 <| xZ y_29 <| xZ y_31 <| xZ Tryz.results14 <| xZ Jf.eq_1 <| xZ KH.eq_1 <| xZ Jl.eq_1 <| xZ Ja.eq_1 <| xZ Je.eq_1 <| xZ Kf.eq_1 <| Jgh.eq_1
 simp only[JbH]at H
 refine xS ?_
 refine xr ?_
 obtain⟨r1,hr1,H⟩:=Jj H
 have F:=xC Y (Js7  r1 hr1)
 obtain⟨r2,hr2,H⟩:=Jj H
 have F:=F
 refine xQ ?_
 refine xs 3 ?_
 refine xc ⟨[],[]⟩ (tabG 0 (cg4 hr2)) ?_
 refine xs 9 ?_
 refine xl ?_
 refine xS ?_
 obtain⟨r3,hr3,H⟩:=Jj H
 have F:=xC Y (Jo3 r2.1 r3 hr3)
 replace H:=oI H
 refine xR ?_
 subst H
 exact xN
theorem Jk1(a0:List Source)(a1:Int)(r:(List UInt8)×Int)(H:JbH a0 a1=some r):PC JeD [(dL 2 Jf) a0,dI a1] (T2 dS dI r):=PF.c (a:=(a0,a1)) H
noncomputable def ZV:Bool→Option Bool
 | x1=>some x1
noncomputable def ZO  : Option Bool :=
 (JbH [(⟨[109],[35,100,101,102,105,110,101,32,65,32,66,10,35,100,101,102,105,110,101,32,66,32,65,32,120,10,65]⟩:Source)] 0).bind fun r1=>if(eqI r1.2 0)=true then ZV (eqS r1.1 [65,32,120]) else ZV false
noncomputable def JfE:PF:=PF.of E0 (fun _=>ZO) dB
theorem JnO:JE Tryz.prog 9 JfE:=by
 refine xF mixed [(14,JeD)] [] ⟨⟨JwT,JjQ⟩,trivial⟩ trivial Tryz.func9 ?_
 rintro _ out H
 have G:=True.intro
 have Y:=xZ y_9 <| xZ y_35 <| xZ y_37 <| xZ Tryz.results9 <| Jf.eq_1
 simp only[ZO]at H
 refine xS ?_
 refine xr ?_
 obtain⟨r1,hr1,H⟩:=Jj H
 have F:=xC Y (Jk1 [(⟨[109],[35,100,101,102,105,110,101,32,65,32,66,10,35,100,101,102,105,110,101,32,66,32,65,32,120,10,65]⟩:Source)] 0 r1 hr1)
 refine xR0 ?_
 refine Jm ?_
 refine Jp ZV (fun s=>[(0,cB s)]) (fun s=>[]) [] out ?_ ?_
 ·rcases xB Y G H with⟨p,H,F,G,q⟩|⟨p,H,F,G,q⟩
  ·refine xR ?_
   exact Jb H (xK ⟨[],[]⟩)
  refine xR ?_
  exact Jb H (xK ⟨[],[]⟩)
 rintro x1 H
 rw[ZV]at H
 replace H:=oI H
 refine xS ?_
 subst H
 exact xN
theorem Jpt  (r:Bool) (H:ZO  = some r):PC JfE [] (dB r):=PF.c (a:=()) H
noncomputable def XH(x2 x3:Int):Bool→Option YM
 | x4=>if x4=true then inrO (some true) else some (.inl (x2,IntKind.i64.wrap (x3+1)))
noncomputable def XN:Bool→Option Bool
 | x8=>some x8
noncomputable def KD(a0:Int)(a1:List UInt8):YC→Option (YC ⊕ Bool)
 | (x5,x6,x7)=>if(ltI x7 a0)=true then(VP x7).bind fun r2=>if 1+r2.length≤9223372036854775807 then if(x5.length + [(⟨[97]++r2,[35,105,110,99,108,117,100,101,32,34,100,46,104,34,10]⟩:Source)].length) * 32≤140737488355328 then if x6.length+11≤9223372036854775807 then(VP x7).bind fun r3=>if x6.length+11+r3.length≤9223372036854775807 then if x6.length+11+r3.length+2≤9223372036854775807 then some (.inl (x5++[(⟨[97]++r2,[35,105,110,99,108,117,100,101,32,34,100,46,104,34,10]⟩:Source)],((x6++[35,105,110,99,108,117,100,101,32,34,97])++r3)++[34,10],IntKind.i64.wrap (x7+1))) else none else none else none else none else none else inrO (if 24+a1.length≤9223372036854775807 then if 24+a1.length+8≤9223372036854775807 then if x6.length+3≤9223372036854775807 then if(x5.length + [(⟨[100,46,104],([35,105,102,110,100,101,102,32,68,95,72,10,35,100,101,102,105,110,101,32,68,95,72,10]++a1)++[10,35,101,110,100,105,102,10]⟩:Source),(⟨[109,46,99],x6++[101,110,100]⟩:Source)].length) * 32≤140737488355328 then(JbH (x5++[(⟨[100,46,104],([35,105,102,110,100,101,102,32,68,95,72,10,35,100,101,102,105,110,101,32,68,95,72,10]++a1)++[10,35,101,110,100,105,102,10]⟩:Source),(⟨[109,46,99],x6++[101,110,100]⟩:Source)]) (IntKind.i64.wrap (a0+1))).bind fun r4=>if(eqI r4.2 0)=true then if a1.length+4≤9223372036854775807 then XN (eqS r4.1 (a1++[32,101,110,100])) else none else XN false else none else none else none else none)
noncomputable def VD(a0:Int)(a1:List UInt8):(Int×Int)→Option YM
 | (x2,x3)=>if(ltI x3 x2)=true then if(0:Int)≤x3∧x3.toNat<a1.length then if(ltI ((a1.getD x3.toNat default).toNat:Int) 97)=true then XH x2 x3 true else XH x2 x3 (ltI 122 ((a1.getD x3.toNat default).toNat:Int)) else none else inrO (Jy (KD a0 a1) (([]:List Source),[],0))
noncomputable def K4(a0:Int)(a1:List UInt8):Bool→Option Bool
 | x1=>if x1=true then some true else Jy (VD a0 a1) ((a1.length:Int),0)
noncomputable def Jau(a0:Int)(a1:List UInt8):Option Bool :=
 (ZO).bind fun r1=>if(!r1)=true then some false else if(ltI a0 1)=true then K4 a0 a1 true else if(ltI 6 a0)=true then K4 a0 a1 true else if(eqS a1 [])=true then K4 a0 a1 true else K4 a0 a1 (ltI 20 (a1.length:Int))
noncomputable def JfO:PF:=PF.of (E2 dI dS) (fun a=>Jau a.1 a.2) dB
theorem JjD:JE Tryz.prog 7 JfO:=by
 refine xF mixed [(9,JfE),(13,JbS),(14,JeD)] [] ⟨⟨JDQ,JnO⟩,⟨Jxx,JhW⟩,⟨JwT,JjQ⟩,trivial⟩ trivial Tryz.func7 ?_
 rintro ⟨a0,a1⟩ out H
 have G:=True.intro
 have Y:=xZ y_5 <| xZ y_9 <| xZ y_35 <| xZ y_37 <| xZ y_55 <| xZ Tryz.results7 <| Jf.eq_1
 simp only[Jau]at H
 refine xS ?_
 refine xr ?_
 obtain⟨r1,hr1,H⟩:=Jj H
 have F:=xC Y (Jpt  r1 hr1)
 refine xR ?_
 rcases xB Y G H with⟨p,H,F,G,q⟩|⟨p,H,F,G,q⟩
 ·refine xT ?_
  replace H:=oI H
  refine xr ?_
  subst H
  exact xN
 refine xE0 ?_
 refine Jbh ?_
 refine Jm ?_
 refine Vi ?_
 refine Jp (K4 a0 a1) (fun s=>[(0,cI a0),(1,cS a1),(28,cB s)]) (fun s=>[]) [] out ?_ ?_
 ·rcases xB Y G H with⟨p,H,F,G,q⟩|⟨p,H,F,G,q⟩
  ·refine xR ?_
   exact Jb H (xK ⟨[],[]⟩)
  rcases xB F G H with⟨p,H,F,G,q⟩|⟨p,H,F,G,q⟩
  ·refine xR ?_
   exact Jb H (xK ⟨[],[]⟩)
  rcases xB F G H with⟨p,H,F,G,q⟩|⟨p,H,F,G,q⟩
  ·refine xR ?_
   exact Jb H (xK ⟨[],[]⟩)
  refine xR ?_
  exact Jb H (xK ⟨[],[]⟩)
 rintro x1 H
 rw[K4]at H
 rcases xB Y G H with⟨p,H,F,G,q⟩|⟨p,H,F,G,q⟩
 ·refine xT ?_
  replace H:=oI H
  refine xr ?_
  subst H
  exact xN
 refine xE ?_
 refine xr ?_
 refine JZ (VD a0 a1) (fun s=>[(0,cI a0),(1,cS a1),(30,.c (.d (.sl 1 (List.map dU a1)))),(31,cI s.1),(32,cI s.2)]) (fun s=>[]) [] H (xK ⟨[],[]⟩) ?_
 rintro n1 ⟨x2,x3⟩ o1 H hF1
 rw[VD]at H
 refine xS ?_
 refine xr ?_
 rcases xB Y G H with⟨p,H,F,G,q⟩|⟨p,H,F,G,q⟩
 ·refine xT ?_
  obtain⟨g,H⟩:=Jd H
  have F:=xZ Y (Ji dU a1 x3.toNat default default (by omega))
  refine xR0 ?_
  refine Jm ?_
  refine Jp (XH x2 x3) (fun s=>[(0,cI a0),(1,cS a1),(30,.c (.d (.sl 1 (List.map dU a1)))),(31,cI x2),(32,cI x3),(41,cB s)]) (fun s=>[]) [] o1 ?_ ?_
  ·rcases xB Y G H with⟨p,H,F,G,q⟩|⟨p,H,F,G,q⟩
   ·refine xR ?_
    exact Jb H (xK ⟨[],[]⟩)
   refine xR ?_
   exact Jb H (xK ⟨[],[]⟩)
  rintro x4 H
  rw[XH]at H
  rcases xB Y G H with⟨p,H,F,G,q⟩|⟨p,H,F,G,q⟩
  ·refine xT ?_
   replace H:=Js H hF1
   replace H:=oI H
   refine xr ?_
   subst H
   exact xN
  refine xE ?_
  refine xr ?_
  exact JA (JF H hF1) (xK ⟨[],[]⟩)
 replace H:=Js H hF1
 refine xE ?_
 refine xr ?_
 refine xr ?_
 refine xr ?_
 refine JZ (KD a0 a1) (fun s=>[(0,cI a0),(1,cS a1),(7,.c (.sl 2 (List.map Jf s.1) 1)),(8,cS s.2.1),(44,cI a0),(45,cI s.2.2)]) (fun s=>[]) [35] H (xK ⟨[],[0]⟩) ?_
 rintro n2 ⟨x5,x6,x7⟩ o2 H hF2
 rw[KD]at H
 refine xS ?_
 refine xr ?_
 rcases xB Y G H with⟨p,H,F,G,q⟩|⟨p,H,F,G,q⟩
 ·refine xT ?_
  refine xr ?_
  obtain⟨r2,hr2,H⟩:=Jj H
  have F:=xC Y (JfU x7 r2 hr2)
  obtain⟨g,H⟩:=Jd H
  obtain⟨g,H⟩:=Jd H
  have F:=xZ F (JQ Jnf [(⟨[97]++r2,[35,105,110,99,108,117,100,101,32,34,100,46,104,34,10]⟩:Source)])
  refine xR ?_
  obtain⟨g,H⟩:=Jd H
  obtain⟨r3,hr3,H⟩:=Jj H
  have F:=xC Y (JfU x7 r3 hr3)
  obtain⟨g,H⟩:=Jd H
  obtain⟨g,H⟩:=Jd H
  refine xR ?_
  refine xr ?_
  exact JA (JF H hF2) (xK ⟨[],[2]⟩)
 replace H:=Js H hF2
 refine xE ?_
 obtain⟨g,H⟩:=Jd H
 obtain⟨g,H⟩:=Jd H
 obtain⟨g,H⟩:=Jd H
 obtain⟨g,H⟩:=Jd H
 have F:=xZ Y (JQ Jnf [(⟨[100,46,104],([35,105,102,110,100,101,102,32,68,95,72,10,35,100,101,102,105,110,101,32,68,95,72,10]++a1)++[10,35,101,110,100,105,102,10]⟩:Source),(⟨[109,46,99],x6++[101,110,100]⟩:Source)])
 refine xR ?_
 obtain⟨r4,hr4,H⟩:=Jj H
 have F:=xC Y (Jk1 (x5++[(⟨[100,46,104],([35,105,102,110,100,101,102,32,68,95,72,10,35,100,101,102,105,110,101,32,68,95,72,10]++a1)++[10,35,101,110,100,105,102,10]⟩:Source),(⟨[109,46,99],x6++[101,110,100]⟩:Source)]) (IntKind.i64.wrap (a0+1)) r4 hr4)
 refine xR0 ?_
 refine Jm ?_
 refine Jp XN (fun s=>[(4,cB s)]) (fun s=>[]) [] out ?_ ?_
 ·rcases xB Y G H with⟨p,H,F,G,q⟩|⟨p,H,F,G,q⟩
  ·obtain⟨g,H⟩:=Jd H
   refine xR ?_
   exact Jb H (xK ⟨[],[]⟩)
  refine xR ?_
  exact Jb H (xK ⟨[],[]⟩)
 rintro x8 H
 rw[XN]at H
 replace H:=oI H
 refine xS ?_
 subst H
 exact xN
end Go.Proofs.YtfkhlbhjhdpkoaaGreatDoor
