/- Functions of data for functions of the program. Written by dec3.py. -/
import Derived.Test.YtfkhlbhjhdpkoaaGreatDoorZoas
import Derived.Test.YtfkhlbhjhdpkoaaGreatDoorZoau
import Derived.Test.YtfkhlbhjhdpkoaaGreatDoorZobl
set_option linter.unusedVariables false
set_option linter.unusedSimpArgs false
set_option maxHeartbeats 4000000
set_option maxRecDepth 100000
namespace Go.Proofs.YtfkhlbhjhdpkoaaGreatDoor
open Go.RowKit
noncomputable def JbV  : Option Limits :=
 some (⟨4000,1500,6⟩:Limits)
noncomputable def Jeh:PF:=PF.of E0 (fun _=>JbV) KF
theorem Ji6:JC Tryz.prog 18 Jeh:=by
 refine xF mixed [] [] trivial trivial Tryz.func18 ?_
 rintro _ out H
 have G:=True.intro
 have Y:=xZ y_3 <| xZ y_39 <| xZ Tryz.results18 <| KF.eq_1
 simp only[JbV]at H
 refine xS ?_
 refine xr ?_
 replace H:=oI H
 refine xr ?_
 subst H
 exact xN
theorem Jj0  (r:Limits) (H:JbV  = some r):PC Jeh [] (KF r):=PF.c (a:=()) H
noncomputable def Xp:Bool→Option Bool
 | x1=>some x1
noncomputable def Jd5  : Option Bool :=
 (JbV).bind fun r1=>(Jad [(⟨[97,46,104],[35,100,101,102,105,110,101,32,88,32,49,10]⟩:Source),(⟨[98,46,99],[35,105,110,99,108,117,100,101,32,34,97,46,104,34,10,35,105,102,32,88,10,121,101,115,32,88,10,35,101,108,115,101,10,110,111,10,35,101,110,100,105,102,10]⟩:Source)] 1 ([]:List Macro) r1).bind fun r2=>if(eqI r2.2.2.2.1 0)=true then if(eqI (r2.1.length:Int) 2)=true then if 1<r2.1.length then if(eqS ((r2.1.getD 1 default).Text) [49])=true then if(eqI (r2.2.2.1.length:Int) 1)=true then Xp (eqI (r2.2.1.length:Int) 2) else Xp false else Xp false else none else Xp false else Xp false
noncomputable def JfP:PF:=PF.of E0 (fun _=>Jd5) dB
theorem Joc:JC Tryz.prog 15 JfP:=by
 refine xF mixed [(18,Jeh)] [(11,true,Jfq)] ⟨⟨Jyn,Ji6⟩,trivial⟩ ⟨JnZ,trivial⟩ Tryz.func15 ?_
 rintro _ out H
 have G:=True.intro
 have Y:=xZ y_3 <| xZ y_9 <| xZ y_24 <| xZ y_25 <| xZ y_27 <| xZ y_28 <| xZ y_29 <| xZ y_31 <| xZ y_35 <| xZ y_37 <| xZ y_44 <| xZ y_63 <| xZ Tryz.results15 <| xZ Jg.eq_1 <| xZ KF.eq_1 <| xZ Jm.eq_1 <| xZ Ja.eq_1 <| xZ Jf.eq_1 <| xZ J3.eq_1 <| Jfp.eq_1
 simp only[Jd5]at H
 refine xS ?_
 refine xr ?_
 obtain⟨r1,hr1,H⟩:=Jj H
 have F:=xC Y (Jj0  r1 hr1)
 obtain⟨r2,hr2,H⟩:=Jj H
 have F:=F
 refine xQ ?_
 refine xs 4 ?_
 refine xc ⟨[],[]⟩ (tabG 0 (cg4 hr2)) ?_
 refine xs 9 ?_
 refine xl ?_
 refine  ?_
 refine Jk ?_
 refine Jo Xp (fun s=>[(0,cB s)]) (fun s=>[]) [] out ?_ ?_
 ·rcases xB Y G H with⟨p,H,F,G,q⟩|⟨p,H,F,G,q⟩
  ·rcases xB F G H with⟨p,H,F,G,q⟩|⟨p,H,F,G,q⟩
   ·obtain⟨g,H⟩:=Jc H
    have F:=xZ F (Jh Ja r2.1 1 default default (by omega))
    rcases xB F G H with⟨p,H,F,G,q⟩|⟨p,H,F,G,q⟩
    ·rcases xB F G H with⟨p,H,F,G,q⟩|⟨p,H,F,G,q⟩
     ·refine xR ?_
      exact Jb H (xK ⟨[],[]⟩)
     refine xR ?_
     exact Jb H (xK ⟨[],[]⟩)
    refine xR ?_
    exact Jb H (xK ⟨[],[]⟩)
   refine xR ?_
   exact Jb H (xK ⟨[],[]⟩)
  refine xR ?_
  exact Jb H (xK ⟨[],[]⟩)
 rintro x1 H
 rw[Xp]at H
 replace H:=oI H
 refine xS ?_
 subst H
 exact xN
theorem JoU  (r:Bool) (H:Jd5  = some r):PC JfP [] (dB r):=PF.c (a:=()) H
noncomputable def KH:Bool→Option Bool
 | x1=>some x1
noncomputable def Za(a0:List UInt8):Option Bool :=
 if(ltI 0 (a0.length:Int))=true then if(0:Int)≤(IntKind.i64.wrap ((a0.length:Int)-1))∧(IntKind.i64.wrap ((a0.length:Int)-1)).toNat<a0.length then if(eqI ((a0.getD ((IntKind.i64.wrap ((a0.length:Int)-1)).toNat) 0).toNat:Int) 92)=true then KH true else if(ltI 1 (a0.length:Int))=true then if(0:Int)≤(IntKind.i64.wrap ((a0.length:Int)-1))∧(IntKind.i64.wrap ((a0.length:Int)-1)).toNat<a0.length then if(eqI ((a0.getD ((IntKind.i64.wrap ((a0.length:Int)-1)).toNat) 0).toNat:Int) 13)=true then if(0:Int)≤(IntKind.i64.wrap ((a0.length:Int)-2))∧(IntKind.i64.wrap ((a0.length:Int)-2)).toNat<a0.length then KH (eqI ((a0.getD ((IntKind.i64.wrap ((a0.length:Int)-2)).toNat) 0).toNat:Int) 92) else none else KH false else none else KH false else none else if(ltI 1 (a0.length:Int))=true then if(0:Int)≤(IntKind.i64.wrap ((a0.length:Int)-1))∧(IntKind.i64.wrap ((a0.length:Int)-1)).toNat<a0.length then if(eqI ((a0.getD ((IntKind.i64.wrap ((a0.length:Int)-1)).toNat) 0).toNat:Int) 13)=true then if(0:Int)≤(IntKind.i64.wrap ((a0.length:Int)-2))∧(IntKind.i64.wrap ((a0.length:Int)-2)).toNat<a0.length then KH (eqI ((a0.getD ((IntKind.i64.wrap ((a0.length:Int)-2)).toNat) 0).toNat:Int) 92) else none else KH false else none else KH false
noncomputable def Jgt:PF:=PF.of (E1 dS) (fun a=>Za a) dB
theorem Jpk:JC Tryz.prog 17 Jgt:=by
 refine xF mixed [] [] trivial trivial Tryz.func17 ?_
 rintro a0 out H
 have G:=True.intro
 have Y:=xZ y_9 <| Tryz.results17
 simp only[Za]at H
 refine xS ?_
 refine xr ?_
 refine xr0 ?_
 refine Jk ?_
 refine Jo KH (fun s=>[(2,cB s)]) (fun s=>[]) [] out ?_ ?_
 ·rcases xB Y G H with⟨p,H,F,G,q⟩|⟨p,H,F,G,q⟩
  ·obtain⟨g,H⟩:=Jc H
   rcases xB F G H with⟨p,H,F,G,q⟩|⟨p,H,F,G,q⟩
   ·refine xR ?_
    exact Jb H (xK ⟨[],[]⟩)
   rcases xB F G H with⟨p,H,F,G,q⟩|⟨p,H,F,G,q⟩
   ·obtain⟨g,H⟩:=Jc H
    rcases xB F G H with⟨p,H,F,G,q⟩|⟨p,H,F,G,q⟩
    ·obtain⟨g,H⟩:=Jc H
     refine xR ?_
     exact Jb H (xK ⟨[],[]⟩)
    refine xR ?_
    exact Jb H (xK ⟨[],[]⟩)
   refine xR ?_
   exact Jb H (xK ⟨[],[]⟩)
  rcases xB F G H with⟨p,H,F,G,q⟩|⟨p,H,F,G,q⟩
  ·obtain⟨g,H⟩:=Jc H
   rcases xB F G H with⟨p,H,F,G,q⟩|⟨p,H,F,G,q⟩
   ·obtain⟨g,H⟩:=Jc H
    refine xR ?_
    exact Jb H (xK ⟨[],[]⟩)
   refine xR ?_
   exact Jb H (xK ⟨[],[]⟩)
  refine xR ?_
  exact Jb H (xK ⟨[],[]⟩)
 rintro x1 H
 rw[KH]at H
 replace H:=oI H
 refine xS ?_
 subst H
 exact xN
theorem JqN(a0:List UInt8)(r:Bool)(H:Za a0=some r):PC Jgt [dS a0] (dB r):=PF.c (a:=a0) H
noncomputable def ZP(a0:List Token):YJ→Option (YJ ⊕ (List UInt8))
 | (x1,x2,x3)=>if(ltI x3 x2)=true then if(0:Int)≤x3∧x3.toNat<a0.length then if x1.length+((a0.getD x3.toNat default).Text).length≤9223372036854775807 then if x1.length+((a0.getD x3.toNat default).Text).length+1≤9223372036854775807 then some (.inl ((x1++((a0.getD x3.toNat default).Text))++[32],x2,IntKind.i64.wrap (x3+1))) else none else none else none else inrO (some x1)
noncomputable def Jcb(a0:List Token):Option (List UInt8) :=
 Jt (ZP a0) ([],(a0.length:Int),0)
noncomputable def JfT:PF:=PF.of (E1 (dL 11 Ja)) (fun a=>Jcb a) dS
theorem Jou:JC Tryz.prog 19 JfT:=by
 refine xF mixed [] [] trivial trivial Tryz.func19 ?_
 rintro a0 out H
 have G:=True.intro
 have Y:=xZ y_9 <| xZ y_24 <| xZ y_44 <| xZ Tryz.results19 <| xZ Jm.eq_1 <| Ja.eq_1
 simp only[Jcb]at H
 refine xS ?_
 refine xr ?_
 refine xr ?_
 refine xr ?_
 refine JK (ZP a0) (fun s=>[(3,cS s.1),(6,.c (.d (.sl 11 (List.map Ja a0)))),(7,cI s.2.1),(8,cI s.2.2)]) (fun s=>[]) [] H (xK ⟨[],[]⟩) ?_
 rintro n1 ⟨x1,x2,x3⟩ o1 H hF1
 rw[ZP]at H
 refine xS ?_
 refine xr ?_
 rcases xB Y G H with⟨p,H,F,G,q⟩|⟨p,H,F,G,q⟩
 ·refine xT ?_
  obtain⟨g,H⟩:=Jc H
  have F:=xZ Y (Jh Ja a0 x3.toNat default default (by omega))
  refine xR ?_
  obtain⟨g,H⟩:=Jc H
  obtain⟨g,H⟩:=Jc H
  refine xr ?_
  refine xr ?_
  exact Jw (JA H hF1) (xK ⟨[],[]⟩)
 replace H:=Jq H hF1
 refine xE ?_
 replace H:=oI H
 refine xr ?_
 subst H
 exact xN
theorem JiV(a0:List Token)(r:(List UInt8))(H:Jcb a0=some r):PC JfT [(dL 11 Ja) a0] (dS r):=PF.c (a:=a0) H
noncomputable def KJ(x2 x3:Int):Bool→Option YT
 | x4=>if x4=true then inrO (some true) else some (.inl (x2,IntKind.i64.wrap (x3+1)))
noncomputable def XZ:Bool→Option Bool
 | x8=>some x8
noncomputable def VQ(r2:(List Token)×Fault)(r4:Yp):Int→Option Bool
 | x7=>(Jcb r4.1).bind fun r5=>(Jcb r2.1).bind fun r6=>if(eqS r5 r6)=true then XZ (eqI (r4.2.1.length:Int) x7) else XZ false
noncomputable def VT(r2:(List Token)×Fault):YP→Option Bool
 | (x5,x6)=>(JbV).bind fun r3=>(Jad [(⟨[104],x6⟩:Source),(⟨[109],[35,105,110,99,108,117,100,101,32,34,104,34,10,35,105,110,99,108,117,100,101,32,34,104,34,10]⟩:Source)] 1 ([]:List Macro) r3).bind fun r4=>if(!eqI r4.2.2.2.1 0)=true then some false else if x5=true then VQ r2 r4 2 else VQ r2 r4 3
noncomputable def Km(a0:List UInt8)(a1:Bool)(r2:(List Token)×Fault):(Int×Int)→Option YT
 | (x2,x3)=>if(ltI x3 x2)=true then if(0:Int)≤x3∧x3.toNat<r2.1.length then if(eqS ((r2.1.getD x3.toNat default).Text) [35])=true then KJ x2 x3 true else if(eqS ((r2.1.getD x3.toNat default).Text) [71,85,65,82,68,95,72])=true then KJ x2 x3 true else if(eqS ((r2.1.getD x3.toNat default).Text) [95,95,76,73,78,69,95,95])=true then KJ x2 x3 true else KJ x2 x3 (eqS ((r2.1.getD x3.toNat default).Text) [95,95,70,73,76,69,95,95]) else none else inrO (if 32+a0.length≤9223372036854775807 then if 32+a0.length+8≤9223372036854775807 then if a1=true then if 13+a0.length≤9223372036854775807 then if 13+a0.length+1≤9223372036854775807 then VT r2 (true,([35,112,114,97,103,109,97,32,111,110,99,101,10]++a0)++[10]) else none else none else VT r2 (false,([35,105,102,110,100,101,102,32,71,85,65,82,68,95,72,10,35,100,101,102,105,110,101,32,71,85,65,82,68,95,72,10]++a0)++[10,35,101,110,100,105,102,10]) else none else none)
noncomputable def VS(a0:List UInt8)(a1:Bool)(r2:(List Token)×Fault):Bool→Option Bool
 | x1=>if x1=true then some true else Jt (Km a0 a1 r2) ((r2.1.length:Int),0)
noncomputable def JaW(a0:List UInt8)(a1:Bool):Option Bool :=
 (Jd5).bind fun r1=>if(!r1)=true then some false else(XL 0 a0).bind fun r2=>if(!eqI r2.2.Err 0)=true then VS a0 a1 r2 true else if(ltI 1000 (a0.length:Int))=true then VS a0 a1 r2 true else(Za a0).bind fun r7=>VS a0 a1 r2 r7
noncomputable def JgS:PF:=PF.of (E2 dS dB) (fun a=>JaW a.1 a.2) dB
theorem Jkx:JC Tryz.prog 5 JgS:=by
 refine xF mixed [(15,JfP),(16,Jfm),(18,Jeh),(19,JfT),(17,Jgt)] [(11,true,Jfq)] ⟨⟨JEf,Joc⟩,⟨JD3,JnJ⟩,⟨Jyn,Ji6⟩,⟨JDB,Jou⟩,⟨JD7,Jpk⟩,trivial⟩ ⟨JnZ,trivial⟩ Tryz.func5 ?_
 rintro ⟨a0,a1⟩ out H
 have G:=True.intro
 have Y:=xZ y_3 <| xZ y_9 <| xZ y_24 <| xZ y_25 <| xZ y_27 <| xZ y_29 <| xZ y_31 <| xZ y_35 <| xZ y_37 <| xZ y_44 <| xZ Tryz.results5 <| xZ Jg.eq_1 <| xZ KF.eq_1 <| xZ Jm.eq_1 <| xZ Ja.eq_1 <| xZ Jf.eq_1 <| xZ J3.eq_1 <| Jfp.eq_1
 simp only[JaW]at H
 refine xS ?_
 refine xr ?_
 obtain⟨r1,hr1,H⟩:=Jj H
 have F:=xC Y (JoU  r1 hr1)
 refine xR ?_
 rcases xB Y G H with⟨p,H,F,G,q⟩|⟨p,H,F,G,q⟩
 ·refine xT ?_
  replace H:=oI H
  refine xr ?_
  subst H
  exact xN
 refine xE ?_
 obtain⟨r2,hr2,H⟩:=Jj H
 have F:=xC Y (Jn4 0 a0 r2 hr2)
 refine xR0 ?_
 refine Jk ?_
 refine Kv ?_
 refine Jo (VS a0 a1 r2) (fun s=>[(0,cS a0),(1,cB a1),(5,.c (.d (.sl 11 (List.map Ja r2.1)))),(6,.c (.pt 1 0)),(31,cB s)]) (fun s=>[[kI r2.2.Err,kI r2.2.File,kI r2.2.At]]) [] out ?_ ?_
 ·rcases xB Y G H with⟨p,H,F,G,q⟩|⟨p,H,F,G,q⟩
  ·refine xR ?_
   exact Jb H (xK ⟨[1],[]⟩)
  rcases xB F G H with⟨p,H,F,G,q⟩|⟨p,H,F,G,q⟩
  ·refine xR ?_
   exact Jb H (xK ⟨[1],[]⟩)
  obtain⟨r7,hr7,H⟩:=Jj H
  have F:=xCf F (JqN a0 r7 hr7)
  refine xR ?_
  exact Jb H (xK ⟨[1],[]⟩)
 rintro x1 H
 rw[VS]at H
 rcases xB Y G H with⟨p,H,F,G,q⟩|⟨p,H,F,G,q⟩
 ·refine xT ?_
  replace H:=oI H
  refine xr ?_
  subst H
  exact xN
 refine xE ?_
 refine xr ?_
 refine JK (Km a0 a1 r2) (fun s=>[(0,cS a0),(1,cB a1),(5,.c (.d (.sl 11 (List.map Ja r2.1)))),(6,.c (.pt 1 0)),(32,.c (.d (.sl 11 (List.map Ja r2.1)))),(33,cI s.1),(34,cI s.2)]) (fun s=>[[kI r2.2.Err,kI r2.2.File,kI r2.2.At]]) [] H (xK ⟨[1],[]⟩) ?_
 rintro n1 ⟨x2,x3⟩ o1 H hF1
 rw[Km]at H
 refine xS ?_
 refine xr ?_
 rcases xB Y G H with⟨p,H,F,G,q⟩|⟨p,H,F,G,q⟩
 ·refine xT ?_
  obtain⟨g,H⟩:=Jc H
  have F:=xZ Y (Jh Ja r2.1 x3.toNat default default (by omega))
  refine xR0 ?_
  refine Jk ?_
  refine Jo (KJ x2 x3) (fun s=>[(0,cS a0),(1,cB a1),(5,.c (.d (.sl 11 (List.map Ja r2.1)))),(6,.c (.pt 1 0)),(32,.c (.d (.sl 11 (List.map Ja r2.1)))),(33,cI x2),(34,cI x3),(55,cB s)]) (fun s=>[[kI r2.2.Err,kI r2.2.File,kI r2.2.At]]) [] o1 ?_ ?_
  ·rcases xB Y G H with⟨p,H,F,G,q⟩|⟨p,H,F,G,q⟩
   ·refine xR ?_
    exact Jb H (xK ⟨[1],[]⟩)
   rcases xB F G H with⟨p,H,F,G,q⟩|⟨p,H,F,G,q⟩
   ·refine xR ?_
    exact Jb H (xK ⟨[1],[]⟩)
   rcases xB F G H with⟨p,H,F,G,q⟩|⟨p,H,F,G,q⟩
   ·refine xR ?_
    exact Jb H (xK ⟨[1],[]⟩)
   refine xR ?_
   exact Jb H (xK ⟨[1],[]⟩)
  rintro x4 H
  rw[KJ]at H
  rcases xB Y G H with⟨p,H,F,G,q⟩|⟨p,H,F,G,q⟩
  ·refine xT ?_
   replace H:=Jq H hF1
   replace H:=oI H
   refine xr ?_
   subst H
   exact xN
  refine xE ?_
  refine xr ?_
  exact Jw (JA H hF1) (xK ⟨[1],[]⟩)
 replace H:=Jq H hF1
 refine xE ?_
 obtain⟨g,H⟩:=Jc H
 obtain⟨g,H⟩:=Jc H
 refine xr0 ?_
 refine Jk ?_
 refine Jo (VT r2) (fun s=>[(1,cB s.1),(5,.c (.d (.sl 11 (List.map Ja r2.1)))),(6,.c (.pt 1 0)),(9,cS s.2)]) (fun s=>[[kI r2.2.Err,kI r2.2.File,kI r2.2.At]]) [] out ?_ ?_
 ·refine xS ?_
  refine xr ?_
  rcases xB Y G H with⟨p,H,F,G,q⟩|⟨p,H,F,G,q⟩
  ·refine xT ?_
   obtain⟨g,H⟩:=Jc H
   obtain⟨g,H⟩:=Jc H
   refine xr ?_
   exact Jb H (xK ⟨[1],[]⟩)
  refine xE ?_
  exact Jb H (xK ⟨[1],[]⟩)
 rintro ⟨x5,x6⟩ H
 rw[VT]at H
 refine xS ?_
 obtain⟨r3,hr3,H⟩:=Jj H
 have F:=xC Y (Jj0  r3 hr3)
 obtain⟨r4,hr4,H⟩:=Jj H
 have F:=F
 refine xQ ?_
 refine xs 5 ?_
 refine xc ⟨[],[]⟩ (tabG 0 (cg4 hr4)) ?_
 refine xs 8 ?_
 refine xl ?_
 refine xS ?_
 refine xr ?_
 rcases xB Y G H with⟨p,H,F,G,q⟩|⟨p,H,F,G,q⟩
 ·refine xT ?_
  replace H:=oI H
  refine xr ?_
  subst H
  exact xN
 refine xE ?_
 refine xr0 ?_
 refine Jk ?_
 refine Jo (VQ r2 r4) (fun s=>[(5,.c (.d (.sl 11 (List.map Ja r2.1)))),(10,.c (.pt 1 0)),(12,cI s)]) (fun s=>[[.d (.sl 11 (List.map Ja r4.1)),.sl 1 (List.map dI r4.2.1) 2]]) [3] out ?_ ?_
 ·refine xS ?_
  refine xr ?_
  rcases xB Y G H with⟨p,H,F,G,q⟩|⟨p,H,F,G,q⟩
  ·refine xT ?_
   refine xr ?_
   exact Jb H (xK ⟨[3],[2]⟩)
  refine xE ?_
  exact Jb H (xK ⟨[3],[2]⟩)
 rintro x7 H
 rw[VQ]at H
 refine Jo XZ (fun s=>[(4,cB s)]) (fun s=>[]) [] out ?_ ?_
 ·obtain⟨r5,hr5,H⟩:=Jj H
  have F:=xC Y (JiV r4.1 r5 hr5)
  obtain⟨r6,hr6,H⟩:=Jj H
  have F:=xCf F (JiV r2.1 r6 hr6)
  rcases xB F G H with⟨p,H,F,G,q⟩|⟨p,H,F,G,q⟩
  ·refine xR ?_
   exact Jb H (xK ⟨[],[]⟩)
  refine xR ?_
  exact Jb H (xK ⟨[],[]⟩)
 rintro x8 H
 rw[XZ]at H
 replace H:=oI H
 refine xS ?_
 subst H
 exact xN
end Go.Proofs.YtfkhlbhjhdpkoaaGreatDoor
