/- Functions of data for functions of the program. Written by dec3.py. -/
import Derived.Test.YtfkhlbhjhdpkoaaGreatDoorZqbd
import Derived.Test.YtfkhlbhjhdpkoaaGreatDoorZqbf
set_option linter.unusedVariables false
set_option linter.unusedSimpArgs false
set_option maxHeartbeats 4000000
set_option maxRecDepth 100000
namespace Go.Proofs.YtfkhlbhjhdpkoaaGreatDoor
open Go.RowKit
noncomputable def Jbw(x1 x2:Int):Bool→Option ((Int×Int) ⊕ Fault)
 | x3=>if x3=true then inrO (some (⟨2,x2,0⟩:Fault)) else some (.inl (x1,IntKind.i64.wrap (x2+1)))
noncomputable def Jc4(a0:List Source):(Int×Int)→Option ((Int×Int) ⊕ Fault)
 | (x1,x2)=>if(ltI x2 x1)=true then if(0:Int)≤x2∧x2.toNat<a0.length then(JcG ((a0.getD x2.toNat default).Path)).bind fun r1=>if(!r1)=true then inrO (some (⟨7,x2,0⟩:Fault)) else if(ltI 3000 (((a0.getD x2.toNat default).Text).length:Int))=true then inrO (some (⟨4,x2,0⟩:Fault)) else if(ltI 0 x2)=true then if(0:Int)≤(IntKind.i64.wrap (x2-1))∧(IntKind.i64.wrap (x2-1)).toNat<a0.length then Jbw x1 x2 (!Op.bytesLess ((a0.getD ((IntKind.i64.wrap (x2-1)).toNat) default).Path) ((a0.getD x2.toNat default).Path)) else none else Jbw x1 x2 false else none else inrO (some (⟨0,(-1),0⟩:Fault))
noncomputable def Jbo(a0:List Source):Option Fault :=
 if(ltI 8 (a0.length:Int))=true then some (⟨5,(-1),0⟩:Fault) else Jv (Jc4 a0) ((a0.length:Int),0)
noncomputable def JgY:PF:=PF.of (E1 (dL 2 Jg)) (fun a=>Jbo a) JU
theorem Jqh:JB Tryz.prog 20 JgY:=by
 refine xF mixed [(31,JeW)] [] ⟨⟨Jye,Jjl⟩,trivial⟩ trivial Tryz.func20 ?_
 rintro a0 out H
 have G:=True.intro
 have Y:=xZ y_3 <| xZ y_9 <| xZ y_29 <| xZ y_31 <| xZ y_35 <| xZ y_37 <| xZ Tryz.results20 <| xZ Jg.eq_1 <| JU.eq_1
 simp only[Jbo]at H
 refine xS ?_
 refine xr ?_
 refine xr ?_
 rcases xB Y G H with⟨p,H,F,G,q⟩|⟨p,H,F,G,q⟩
 ·refine xT ?_
  replace H:=oI H
  refine xr ?_
  subst H
  exact xN
 refine xE ?_
 refine xr ?_
 refine JG (Jc4 a0) (fun s=>[(0,.c (.d (.sl 2 (List.map Jg a0)))),(2,.c (.pt 1 0)),(9,.c (.d (.sl 2 (List.map Jg a0)))),(10,cI s.1),(11,cI s.2)]) (fun s=>[[kI 0,kI 0,kI 0]]) [] H (xK ⟨[1],[]⟩) ?_
 rintro n1 ⟨x1,x2⟩ o1 H hF1
 rw[Jc4]at H
 refine xS ?_
 refine xr ?_
 rcases xB Y G H with⟨p,H,F,G,q⟩|⟨p,H,F,G,q⟩
 ·refine xT ?_
  obtain⟨g,H⟩:=Jc H
  have F:=xZ Y (Jh Jg a0 x2.toNat default default (by omega))
  refine xR ?_
  obtain⟨r1,hr1,H⟩:=Ji H
  have F:=xC Y (JhB ((a0.getD x2.toNat default).Path) r1 hr1)
  refine xR ?_
  rcases xB Y G H with⟨p,H,F,G,q⟩|⟨p,H,F,G,q⟩
  ·refine xT ?_
   replace H:=Jq H hF1
   replace H:=oI H
   refine xr ?_
   subst H
   exact xN
  refine xE ?_
  refine xr ?_
  rcases xB Y G H with⟨p,H,F,G,q⟩|⟨p,H,F,G,q⟩
  ·refine xT ?_
   replace H:=Jq H hF1
   replace H:=oI H
   refine xr ?_
   subst H
   exact xN
  refine xE0 ?_
  refine Jn (Jbw x1 x2) (fun s=>[(0,.c (.d (.sl 2 (List.map Jg a0)))),(2,.c (.pt 1 0)),(3,cI x2),(9,.c (.d (.sl 2 (List.map Jg a0)))),(10,cI x1),(11,cI x2),(30,cB s)]) (fun s=>[[kI 0,kI 0,kI 0]]) [] o1 ?_ ?_
  ·rcases xB Y G H with⟨p,H,F,G,q⟩|⟨p,H,F,G,q⟩
   ·obtain⟨g,H⟩:=Jc H
    have F:=xZ F (Jh Jg a0 ((IntKind.i64.wrap (x2-1)).toNat) default default (by omega))
    refine xR ?_
    exact Jb H (xK ⟨[1],[]⟩)
   refine xR ?_
   exact Jb H (xK ⟨[1],[]⟩)
  rintro x3 H
  rw[Jbw]at H
  rcases xB Y G H with⟨p,H,F,G,q⟩|⟨p,H,F,G,q⟩
  ·refine xT ?_
   replace H:=Jq H hF1
   replace H:=oI H
   refine xr ?_
   subst H
   exact xN
  refine xE ?_
  refine xr ?_
  exact Jw (JA H hF1) (xK ⟨[1],[]⟩)
 replace H:=Jq H hF1
 refine xE ?_
 replace H:=oI H
 refine xr ?_
 subst H
 exact xN
theorem Jue(a0:List Source)(r:Fault)(H:Jbo a0=some r):PC JgY [(dL 2 Jg) a0] (JU r):=PF.c (a:=a0) H
noncomputable def Jif(a0:Source)(a1:List UInt8):Option Bool :=
 some (eqS a0.Path a1)
def JeS(a0:Source)(a1:List UInt8)(r:Bool):GI :=
 ⟨[.ag [kS a0.Path,kS a0.Text],.c (.pt 1 0)],[[kS a1]],[],.ret (cB r) [[kS a1]] []⟩
def JeK:GI→Prop:=Sg2 Jif JeS
theorem Jo2:∀ g,JeK g→Jm Tryz.prog 131 g:=by
 rintro _ ⟨a0,a1,r,H,rfl⟩
 refine xGn mixed [] [] [] trivial trivial trivial Tryz.func131 _ ?_
 have G:=True.intro
 have Y:=xZ y_9 <| xZ y_35 <| xZ Tryz.results131 <| xZ Jg.eq_1 <| JeS.eq_1
 dsimp only[JeS]
 simp only[Jif]at H
 refine xS ?_
 refine xr ?_
 replace H:=oI H
 refine xr ?_
 subst H
 refine xrD [] ?_
 exact xO ⟨[1],[]⟩
theorem Jqu:Jd Tryz.prog 131∧(∀ g,JeK g→Jm Tryz.prog 131 g)∧(true=true→∀ g,JeK g→∃ val bs ts,g.out=.ret val bs ts) :=
 ⟨JA3,Jo2,fun _=>by rintro _ ⟨_,_,_,_,rfl⟩; exact⟨_,_,_,rfl⟩⟩
noncomputable def Vb(a0:List Source)(a1:List UInt8):(Int×Int)→Option YW
 | (x1,x2)=>if(ltI x2 x1)=true then if(0:Int)≤x2∧x2.toNat<a0.length then(Jif (a0.getD x2.toNat default) a1).bind fun r1=>if r1=true then inrO (some x2) else some (.inl (x1,IntKind.i64.wrap (x2+1))) else none else inrO (some (-1))
noncomputable def Ks(a0:List Source)(a1:List UInt8):Option Int :=
 Jv (Vb a0 a1) ((a0.length:Int),0)
def Ki(a0:List Source)(a1:List UInt8)(r:Int):GI :=
 ⟨[.c (.d (.sl 2 (List.map Jg a0))),.c (.clo 131 [1])],[[kS a1]],[],.ret (cI r) [[kS a1]] []⟩
def Kh:GI→Prop:=Sg2 Ks Ki
theorem Jdo:∀ g,Kh g→Jm Tryz.prog 130 g:=by
 rintro _ ⟨a0,a1,r,H,rfl⟩
 refine xGn mixed [] [(131,true,JeK)] [] trivial ⟨Jqu,trivial⟩ trivial Tryz.func130 _ ?_
 have G:=True.intro
 have Y:=xZ y_35 <| xZ y_37 <| xZ Tryz.results130 <| xZ Jg.eq_1 <| xZ JeS.eq_1 <| Ki.eq_1
 dsimp only[Ki]
 simp only[Ks]at H
 refine xS ?_
 refine xr ?_
 refine xr ?_
 refine JG (Vb a0 a1) (fun s=>[(0,.c (.d (.sl 2 (List.map Jg a0)))),(1,.c (.clo 131 [1])),(7,cI s.1),(8,cI s.2)]) (fun s=>[[kS a1]]) [] H (xK ⟨[1],[]⟩) ?_
 rintro n1 ⟨x1,x2⟩ o1 H hF1
 rw[Vb]at H
 refine xS ?_
 refine xr ?_
 rcases xB Y G H with⟨p,H,F,G,q⟩|⟨p,H,F,G,q⟩
 ·refine xT ?_
  refine xr ?_
  obtain⟨g,H⟩:=Jc H
  have F:=xZ Y (Jh Jg a0 x2.toNat default default (by omega))
  obtain⟨r1,hr1,H⟩:=Ji H
  have F:=F
  refine xQ ?_
  refine xs 5 ?_
  refine xc ⟨[1],[]⟩ (tabG 0 (cg2 hr1)) ?_
  refine xl ?_
  refine xS ?_
  rcases xB Y G H with⟨p,H,F,G,q⟩|⟨p,H,F,G,q⟩
  ·refine xT ?_
   replace H:=Jq H hF1
   replace H:=oI H
   refine xr ?_
   subst H
   refine xrD [] ?_
   exact xO ⟨[1],[]⟩
  refine xE ?_
  refine xr ?_
  exact Jw (JA H hF1) (xK ⟨[1],[]⟩)
 replace H:=Jq H hF1
 refine xE ?_
 replace H:=oI H
 refine xr ?_
 subst H
 refine xrD [] ?_
 exact xO ⟨[1],[]⟩
theorem JdV:Jd Tryz.prog 130∧(∀ g,Kh g→Jm Tryz.prog 130 g)∧(true=true→∀ g,Kh g→∃ val bs ts,g.out=.ret val bs ts) :=
 ⟨JB1,Jdo,fun _=>by rintro _ ⟨_,_,_,_,rfl⟩; exact⟨_,_,_,rfl⟩⟩
noncomputable def Jcp(a0:List Source)(a1:List UInt8):Option Int :=
 (Ks a0 a1).bind fun r1=>some r1
noncomputable def Jhw:PF:=PF.of (E2 (dL 2 Jg) dS) (fun a=>Jcp a.1 a.2) dI
theorem Jt5:JB Tryz.prog 114 Jhw:=by
 refine xF mixed [] [(130,true,Kh)] trivial ⟨JdV,trivial⟩ Tryz.func114 ?_
 rintro ⟨a0,a1⟩ out H
 have G:=True.intro
 have Y:=xZ Tryz.results114 <| xZ Jg.eq_1 <| Ki.eq_1
 simp only[Jcp]at H
 refine xS ?_
 refine xr ?_
 obtain⟨r1,hr1,H⟩:=Ji H
 have F:=Y
 refine xQ ?_
 refine xs 2 ?_
 refine xc ⟨[1],[]⟩ (tabG 0 (cg2 hr1)) ?_
 refine xs 1 ?_
 refine xl ?_
 replace H:=oI H
 refine xS ?_
 subst H
 exact xN
theorem Jiw(a0:List Source)(a1:List UInt8)(r:Int)(H:Jcp a0 a1=some r):PC Jhw [(dL 2 Jg) a0,dS a1] (dI r):=PF.c (a:=(a0,a1)) H
noncomputable def ZE(a0:List Source)(a1:Int)(a2:List UInt8)(a3:Bool):Bool→Option Int
 | x1=>if x1=true then some (-1) else if(!a3)=true then(JbF [108,105,98,47,120] a2).bind fun r1=>(Jcp a0 r1).bind fun r2=>some r2 else if(0:Int)≤a1∧a1.toNat<a0.length then(JbF ((a0.getD a1.toNat default).Path) a2).bind fun r3=>(Jcp a0 r3).bind fun r4=>if(leI 0 r4)=true then some r4 else(JbF [120] a2).bind fun r5=>(Jcp a0 r5).bind fun r6=>some r6 else none
noncomputable def Xc(a0:List Source)(a1:Int)(a2:List UInt8)(a3:Bool):Option Int :=
 if(ltI a1 0)=true then ZE a0 a1 a2 a3 true else ZE a0 a1 a2 a3 (leI (a0.length:Int) a1)
noncomputable def JfJ:PF:=PF.of (E4 (dL 2 Jg) dI dS dB) (fun a=>Xc a.1 a.2.1 a.2.2.1 a.2.2.2) dI
theorem JnB:JB Tryz.prog 90 JfJ:=by
 refine xF mixed [(115,Jf1),(114,Jhw)] [] ⟨⟨JB3,Joi⟩,⟨JBs,Jt5⟩,trivial⟩ trivial Tryz.func90 ?_
 rintro ⟨a0,a1,a2,a3⟩ out H
 have G:=True.intro
 have Y:=xZ y_9 <| xZ y_35 <| xZ y_37 <| xZ Tryz.results90 <| Jg.eq_1
 simp only[Xc]at H
 refine xS ?_
 refine xr0 ?_
 refine Jj ?_
 refine Kf ?_
 refine Jn (ZE a0 a1 a2 a3) (fun s=>[(0,.c (.d (.sl 2 (List.map Jg a0)))),(1,cI a1),(2,cS a2),(3,cB a3),(17,cB s)]) (fun s=>[]) [] out ?_ ?_
 ·rcases xB Y G H with⟨p,H,F,G,q⟩|⟨p,H,F,G,q⟩
  ·refine xR ?_
   exact Jb H (xK ⟨[],[]⟩)
  refine xR ?_
  exact Jb H (xK ⟨[],[]⟩)
 rintro x1 H
 rw[ZE]at H
 rcases xB Y G H with⟨p,H,F,G,q⟩|⟨p,H,F,G,q⟩
 ·refine xT ?_
  replace H:=oI H
  refine xr ?_
  subst H
  exact xN
 refine xE ?_
 refine xr ?_
 rcases xB Y G H with⟨p,H,F,G,q⟩|⟨p,H,F,G,q⟩
 ·refine xT ?_
  obtain⟨r1,hr1,H⟩:=Ji H
  have F:=xC Y (JgX [108,105,98,47,120] a2 r1 hr1)
  obtain⟨r2,hr2,H⟩:=Ji H
  have F:=xCf F (Jiw a0 r1 r2 hr2)
  replace H:=oI H
  refine xR ?_
  subst H
  exact xN
 refine xE ?_
 obtain⟨g,H⟩:=Jc H
 have F:=xZ Y (Jh Jg a0 a1.toNat default default (by omega))
 obtain⟨r3,hr3,H⟩:=Ji H
 have F:=xCf F (JgX ((a0.getD a1.toNat default).Path) a2 r3 hr3)
 obtain⟨r4,hr4,H⟩:=Ji H
 have F:=xCf F (Jiw a0 r3 r4 hr4)
 refine xR ?_
 refine xr ?_
 rcases xB Y G H with⟨p,H,F,G,q⟩|⟨p,H,F,G,q⟩
 ·refine xT ?_
  replace H:=oI H
  refine xr ?_
  subst H
  exact xN
 refine xE ?_
 obtain⟨r5,hr5,H⟩:=Ji H
 have F:=xC Y (JgX [120] a2 r5 hr5)
 obtain⟨r6,hr6,H⟩:=Ji H
 have F:=xCf F (Jiw a0 r5 r6 hr6)
 replace H:=oI H
 refine xR ?_
 subst H
 exact xN
theorem JoE(a0:List Source)(a1:Int)(a2:List UInt8)(a3:Bool)(r:Int)(H:Xc a0 a1 a2 a3=some r):PC JfJ [(dL 2 Jg) a0,dI a1,dS a2,dB a3] (dI r):=PF.c (a:=(a0,a1,a2,a3)) H
end Go.Proofs.YtfkhlbhjhdpkoaaGreatDoor
