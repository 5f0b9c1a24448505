/- Functions of data for functions of the program. Written by dec3.py. -/
import Derived.Test.YtfkhlbhjhdpkoaaGreatDoorZrbd
import Derived.Test.YtfkhlbhjhdpkoaaGreatDoorZrbf
set_option linter.unusedVariables false
set_option linter.unusedSimpArgs false
set_option maxHeartbeats 4000000
set_option maxRecDepth 100000
namespace Go.Proofs.YtfkhlbhjhdpkoaaGreatDoor
open Go.RowKit
noncomputable def JaU(x1 x2:Int):Bool→Option ((Int×Int) ⊕ Fault)
 | x3=>if x3=true then inrO (some (⟨2,x2,0⟩:Fault)) else some (.inl (x1,IntKind.i64.wrap (x2+1)))
noncomputable def Jcf(a0:List Source):(Int×Int)→Option ((Int×Int) ⊕ Fault)
 | (x1,x2)=>if(ltI x2 x1)=true then if(0:Int)≤x2∧x2.toNat<a0.length then(JbW ((a0.getD x2.toNat default).Path)).bind fun r1=>if(!r1)=true then inrO (some (⟨7,x2,0⟩:Fault)) else if(ltI 3000 (((a0.getD x2.toNat default).Text).length:Int))=true then inrO (some (⟨4,x2,0⟩:Fault)) else if(ltI 0 x2)=true then if(0:Int)≤(IntKind.i64.wrap (x2-1))∧(IntKind.i64.wrap (x2-1)).toNat<a0.length then JaU x1 x2 (!Op.bytesLess ((a0.getD ((IntKind.i64.wrap (x2-1)).toNat) default).Path) ((a0.getD x2.toNat default).Path)) else none else JaU x1 x2 false else none else inrO (some (⟨0,(-1),0⟩:Fault))
noncomputable def Zg(a0:List Source):Option Fault :=
 if(ltI 8 (a0.length:Int))=true then some (⟨5,(-1),0⟩:Fault) else Jt (Jcf a0) ((a0.length:Int),0)
noncomputable def Jf6:PF:=PF.of (E1 (dL 2 Jf)) (fun a=>Zg a) J9
theorem JoO:JF Tryz.prog 20 Jf6:=by
 refine xF mixed [(31,Jeb)] [] ⟨⟨JvV,Jil⟩,trivial⟩ trivial Tryz.func20 ?_
 rintro a0 out H
 have G:=True.intro
 have Y:=xZ y_3 <| xZ y_9 <| xZ y_29 <| xZ y_31 <| xZ y_35 <| xZ y_37 <| xZ Tryz.results20 <| xZ Jf.eq_1 <| J9.eq_1
 simp only[Zg]at H
 refine xS ?_
 refine xr ?_
 refine xr ?_
 rcases xB Y G H with⟨p,H,F,G,q⟩|⟨p,H,F,G,q⟩
 ·refine xT ?_
  replace H:=oI H
  refine xr ?_
  subst H
  exact xN
 refine xE ?_
 refine xr ?_
 refine JZ (Jcf a0) (fun s=>[(0,.c (.d (.sl 2 (List.map Jf a0)))),(2,.c (.pt 1 0)),(9,.c (.d (.sl 2 (List.map Jf a0)))),(10,cI s.1),(11,cI s.2)]) (fun s=>[[kI 0,kI 0,kI 0]]) [] H (xK ⟨[1],[]⟩) ?_
 rintro n1 ⟨x1,x2⟩ o1 H hF1
 rw[Jcf]at H
 refine xS ?_
 refine xr ?_
 rcases xB Y G H with⟨p,H,F,G,q⟩|⟨p,H,F,G,q⟩
 ·refine xT ?_
  obtain⟨g,H⟩:=Jd H
  have F:=xZ Y (Jh Jf a0 x2.toNat default default (by omega))
  refine xR ?_
  obtain⟨r1,hr1,H⟩:=Ji H
  have F:=xC Y (JgE ((a0.getD x2.toNat default).Path) r1 hr1)
  refine xR ?_
  rcases xB Y G H with⟨p,H,F,G,q⟩|⟨p,H,F,G,q⟩
  ·refine xT ?_
   replace H:=Js H hF1
   replace H:=oI H
   refine xr ?_
   subst H
   exact xN
  refine xE ?_
  refine xr ?_
  rcases xB Y G H with⟨p,H,F,G,q⟩|⟨p,H,F,G,q⟩
  ·refine xT ?_
   replace H:=Js H hF1
   replace H:=oI H
   refine xr ?_
   subst H
   exact xN
  refine xE0 ?_
  refine Jp (JaU x1 x2) (fun s=>[(0,.c (.d (.sl 2 (List.map Jf a0)))),(2,.c (.pt 1 0)),(3,cI x2),(9,.c (.d (.sl 2 (List.map Jf a0)))),(10,cI x1),(11,cI x2),(30,cB s)]) (fun s=>[[kI 0,kI 0,kI 0]]) [] o1 ?_ ?_
  ·rcases xB Y G H with⟨p,H,F,G,q⟩|⟨p,H,F,G,q⟩
   ·obtain⟨g,H⟩:=Jd H
    have F:=xZ F (Jh Jf a0 ((IntKind.i64.wrap (x2-1)).toNat) default default (by omega))
    refine xR ?_
    exact Jb H (xK ⟨[1],[]⟩)
   refine xR ?_
   exact Jb H (xK ⟨[1],[]⟩)
  rintro x3 H
  rw[JaU]at H
  rcases xB Y G H with⟨p,H,F,G,q⟩|⟨p,H,F,G,q⟩
  ·refine xT ?_
   replace H:=Js H hF1
   replace H:=oI H
   refine xr ?_
   subst H
   exact xN
  refine xE ?_
  refine xr ?_
  exact JB (JG H hF1) (xK ⟨[1],[]⟩)
 replace H:=Js H hF1
 refine xE ?_
 replace H:=oI H
 refine xr ?_
 subst H
 exact xN
theorem Jst(a0:List Source)(r:Fault)(H:Zg a0=some r):PC Jf6 [(dL 2 Jf) a0] (J9 r):=PF.c (a:=a0) H
noncomputable def Jht(a0:Source)(a1:List UInt8):Option Bool :=
 some (eqS a0.Path a1)
def Jd3(a0:Source)(a1:List UInt8)(r:Bool):GI :=
 ⟨[.ag [kS a0.Path,kS a0.Text],.c (.pt 1 0)],[[kS a1]],[],.ret (cB r) [[kS a1]] []⟩
def JdO:GI→Prop:=Sg2 Jht Jd3
theorem JnR:∀ g,JdO g→Jm Tryz.prog 131 g:=by
 rintro _ ⟨a0,a1,r,H,rfl⟩
 refine xGn mixed [] [] [] trivial trivial trivial Tryz.func131 _ ?_
 have G:=True.intro
 have Y:=xZ y_9 <| xZ y_35 <| xZ Tryz.results131 <| xZ Jf.eq_1 <| Jd3.eq_1
 dsimp only[Jd3]
 simp only[Jht]at H
 refine xS ?_
 refine xr ?_
 replace H:=oI H
 refine xr ?_
 subst H
 refine xrD [] ?_
 exact xO ⟨[1],[]⟩
theorem Jok:Jc Tryz.prog 131∧(∀ g,JdO g→Jm Tryz.prog 131 g)∧(true=true→∀ g,JdO g→∃ val bs ts,g.out=.ret val bs ts) :=
 ⟨JAb,JnR,fun _=>by rintro _ ⟨_,_,_,_,rfl⟩; exact⟨_,_,_,rfl⟩⟩
noncomputable def KW(a0:List Source)(a1:List UInt8):(Int×Int)→Option YP
 | (x1,x2)=>if(ltI x2 x1)=true then if(0:Int)≤x2∧x2.toNat<a0.length then(Jht (a0.getD x2.toNat default) a1).bind fun r1=>if r1=true then inrO (some x2) else some (.inl (x1,IntKind.i64.wrap (x2+1))) else none else inrO (some (-1))
noncomputable def Vf(a0:List Source)(a1:List UInt8):Option Int :=
 Jt (KW a0 a1) ((a0.length:Int),0)
def Km(a0:List Source)(a1:List UInt8)(r:Int):GI :=
 ⟨[.c (.d (.sl 2 (List.map Jf a0))),.c (.clo 131 [1])],[[kS a1]],[],.ret (cI r) [[kS a1]] []⟩
def Kn:GI→Prop:=Sg2 Vf Km
theorem JcM:∀ g,Kn g→Jm Tryz.prog 130 g:=by
 rintro _ ⟨a0,a1,r,H,rfl⟩
 refine xGn mixed [] [(131,true,JdO)] [] trivial ⟨Jok,trivial⟩ trivial Tryz.func130 _ ?_
 have G:=True.intro
 have Y:=xZ y_35 <| xZ y_37 <| xZ Tryz.results130 <| xZ Jf.eq_1 <| xZ Jd3.eq_1 <| Km.eq_1
 dsimp only[Km]
 simp only[Vf]at H
 refine xS ?_
 refine xr ?_
 refine xr ?_
 refine JZ (KW a0 a1) (fun s=>[(0,.c (.d (.sl 2 (List.map Jf a0)))),(1,.c (.clo 131 [1])),(7,cI s.1),(8,cI s.2)]) (fun s=>[[kS a1]]) [] H (xK ⟨[1],[]⟩) ?_
 rintro n1 ⟨x1,x2⟩ o1 H hF1
 rw[KW]at H
 refine xS ?_
 refine xr ?_
 rcases xB Y G H with⟨p,H,F,G,q⟩|⟨p,H,F,G,q⟩
 ·refine xT ?_
  refine xr ?_
  obtain⟨g,H⟩:=Jd H
  have F:=xZ Y (Jh Jf a0 x2.toNat default default (by omega))
  obtain⟨r1,hr1,H⟩:=Ji H
  have F:=F
  refine xQ ?_
  refine xs 5 ?_
  refine xc ⟨[1],[]⟩ (tabG 0 (cg2 hr1)) ?_
  refine xl ?_
  refine xS ?_
  rcases xB Y G H with⟨p,H,F,G,q⟩|⟨p,H,F,G,q⟩
  ·refine xT ?_
   replace H:=Js H hF1
   replace H:=oI H
   refine xr ?_
   subst H
   refine xrD [] ?_
   exact xO ⟨[1],[]⟩
  refine xE ?_
  refine xr ?_
  exact JB (JG H hF1) (xK ⟨[1],[]⟩)
 replace H:=Js H hF1
 refine xE ?_
 replace H:=oI H
 refine xr ?_
 subst H
 refine xrD [] ?_
 exact xO ⟨[1],[]⟩
theorem JcX:Jc Tryz.prog 130∧(∀ g,Kn g→Jm Tryz.prog 130 g)∧(true=true→∀ g,Kn g→∃ val bs ts,g.out=.ret val bs ts) :=
 ⟨JAD,JcM,fun _=>by rintro _ ⟨_,_,_,_,rfl⟩; exact⟨_,_,_,rfl⟩⟩
noncomputable def Jd5(a0:List Source)(a1:List UInt8):Option Int :=
 (Vf a0 a1).bind fun r1=>some r1
noncomputable def JgA:PF:=PF.of (E2 (dL 2 Jf) dS) (fun a=>Jd5 a.1 a.2) dI
theorem Jsj:JF Tryz.prog 114 JgA:=by
 refine xF mixed [] [(130,true,Kn)] trivial ⟨JcX,trivial⟩ Tryz.func114 ?_
 rintro ⟨a0,a1⟩ out H
 have G:=True.intro
 have Y:=xZ Tryz.results114 <| xZ Jf.eq_1 <| Km.eq_1
 simp only[Jd5]at H
 refine xS ?_
 refine xr ?_
 obtain⟨r1,hr1,H⟩:=Ji H
 have F:=Y
 refine xQ ?_
 refine xs 2 ?_
 refine xc ⟨[1],[]⟩ (tabG 0 (cg2 hr1)) ?_
 refine xs 1 ?_
 refine xl ?_
 replace H:=oI H
 refine xS ?_
 subst H
 exact xN
theorem Jg6(a0:List Source)(a1:List UInt8)(r:Int)(H:Jd5 a0 a1=some r):PC JgA [(dL 2 Jf) a0,dS a1] (dI r):=PF.c (a:=(a0,a1)) H
noncomputable def JcL(a0:List Source)(a1:Int)(a2:List UInt8)(a3:Bool):Bool→Option Int
 | x1=>if x1=true then some (-1) else if(!a3)=true then(Jct [108,105,98,47,120] a2).bind fun r1=>(Jd5 a0 r1).bind fun r2=>some r2 else if(0:Int)≤a1∧a1.toNat<a0.length then(Jct ((a0.getD a1.toNat default).Path) a2).bind fun r3=>(Jd5 a0 r3).bind fun r4=>if(leI 0 r4)=true then some r4 else(Jct [120] a2).bind fun r5=>(Jd5 a0 r5).bind fun r6=>some r6 else none
noncomputable def JeE(a0:List Source)(a1:Int)(a2:List UInt8)(a3:Bool):Option Int :=
 if(ltI a1 0)=true then JcL a0 a1 a2 a3 true else JcL a0 a1 a2 a3 (leI (a0.length:Int) a1)
noncomputable def JeU:PF:=PF.of (E4 (dL 2 Jf) dI dS dB) (fun a=>JeE a.1 a.2.1 a.2.2.1 a.2.2.2) dI
theorem Jmk:JF Tryz.prog 90 JeU:=by
 refine xF mixed [(115,Jfb),(114,JgA)] [] ⟨⟨JzM,JnM⟩,⟨Jzx,Jsj⟩,trivial⟩ trivial Tryz.func90 ?_
 rintro ⟨a0,a1,a2,a3⟩ out H
 have G:=True.intro
 have Y:=xZ y_9 <| xZ y_35 <| xZ y_37 <| xZ Tryz.results90 <| Jf.eq_1
 simp only[JeE]at H
 refine xS ?_
 refine xr0 ?_
 refine Jl ?_
 refine Vl ?_
 refine Jp (JcL a0 a1 a2 a3) (fun s=>[(0,.c (.d (.sl 2 (List.map Jf a0)))),(1,cI a1),(2,cS a2),(3,cB a3),(17,cB s)]) (fun s=>[]) [] out ?_ ?_
 ·rcases xB Y G H with⟨p,H,F,G,q⟩|⟨p,H,F,G,q⟩
  ·refine xR ?_
   exact Jb H (xK ⟨[],[]⟩)
  refine xR ?_
  exact Jb H (xK ⟨[],[]⟩)
 rintro x1 H
 rw[JcL]at H
 rcases xB Y G H with⟨p,H,F,G,q⟩|⟨p,H,F,G,q⟩
 ·refine xT ?_
  replace H:=oI H
  refine xr ?_
  subst H
  exact xN
 refine xE ?_
 refine xr ?_
 rcases xB Y G H with⟨p,H,F,G,q⟩|⟨p,H,F,G,q⟩
 ·refine xT ?_
  obtain⟨r1,hr1,H⟩:=Ji H
  have F:=xC Y (Jf7 [108,105,98,47,120] a2 r1 hr1)
  obtain⟨r2,hr2,H⟩:=Ji H
  have F:=xCf F (Jg6 a0 r1 r2 hr2)
  replace H:=oI H
  refine xR ?_
  subst H
  exact xN
 refine xE ?_
 obtain⟨g,H⟩:=Jd H
 have F:=xZ Y (Jh Jf a0 a1.toNat default default (by omega))
 obtain⟨r3,hr3,H⟩:=Ji H
 have F:=xCf F (Jf7 ((a0.getD a1.toNat default).Path) a2 r3 hr3)
 obtain⟨r4,hr4,H⟩:=Ji H
 have F:=xCf F (Jg6 a0 r3 r4 hr4)
 refine xR ?_
 refine xr ?_
 rcases xB Y G H with⟨p,H,F,G,q⟩|⟨p,H,F,G,q⟩
 ·refine xT ?_
  replace H:=oI H
  refine xr ?_
  subst H
  exact xN
 refine xE ?_
 obtain⟨r5,hr5,H⟩:=Ji H
 have F:=xC Y (Jf7 [120] a2 r5 hr5)
 obtain⟨r6,hr6,H⟩:=Ji H
 have F:=xCf F (Jg6 a0 r5 r6 hr6)
 replace H:=oI H
 refine xR ?_
 subst H
 exact xN
theorem JmC(a0:List Source)(a1:Int)(a2:List UInt8)(a3:Bool)(r:Int)(H:JeE a0 a1 a2 a3=some r):PC JeU [(dL 2 Jf) a0,dI a1,dS a2,dB a3] (dI r):=PF.c (a:=(a0,a1,a2,a3)) H
end Go.Proofs.YtfkhlbhjhdpkoaaGreatDoor
