/- Functions of data for functions of the program. Written by dec3.py. -/
import Derived.Test.YtfkhlbhjhdpkoaaDoorZban
import Derived.Test.YtfkhlbhjhdpkoaaDoorZbas
set_option linter.unusedVariables false
set_option linter.unusedSimpArgs false
set_option maxHeartbeats 4000000
set_option maxRecDepth 100000
namespace Go.Proofs.YtfkhlbhjhdpkoaaDoor
open Go.RowKit
noncomputable def Xj(a0:Int):Option Bool :=
 some (!eqI a0 a0)
noncomputable def X8:PF:=PF.of (E1 dI) (fun a=>Xj a) dB
theorem Jcr:Kd Tryd.prog 50 X8:=by
 refine xF mixed [] [] trivial trivial Tryd.func50 ?_
 rintro a0 out H
 have G:=True.intro
 have Y:=Tryd.results50
 simp only[Xj]at H
 refine xS ?_
 refine xr ?_
 replace H:=Option.some.inj H
 refine xr ?_
 subst H
 exact xN
theorem JaE(a0:Int)(r:Bool)(H:Xj a0=some r):PC X8 [dI a0] (dB r):=PF.c (a:=a0) H
noncomputable def Vc(a0:Int)(a1:Int):Option Int :=
 (Xj a0).bind fun r1=>(Xj a1).bind fun r2=>if r1=true then if r2=true then some 0 else some (-1) else if r2=true then some 1 else if(ltI a0 a1)=true then some (-1) else if(ltI a1 a0)=true then some 1 else some 0
noncomputable def Xx:PF:=PF.of (E2 dI dI) (fun a=>Vc a.1 a.2) dI
theorem JbM:Kd Tryd.prog 40 Xx:=by
 refine xF mixed [(50,X8)] [] ⟨⟨Jjp,Jcr⟩,trivial⟩ trivial Tryd.func40 ?_
 rintro ⟨a0,a1⟩ out H
 have G:=True.intro
 have Y:=Tryd.results40
 simp only[Vc]at H
 refine xS ?_
 refine xr ?_
 obtain⟨r1,hr1,H⟩:=Jl H
 have F:=xC Y (JaE a0 r1 hr1)
 refine xR ?_
 obtain⟨r2,hr2,H⟩:=Jl H
 have F:=xC Y (JaE a1 r2 hr2)
 refine xR ?_
 refine xr ?_
 rcases Jd H with⟨hp1,H⟩|⟨hp1,H⟩
 ·obtain⟨F,G,hq1⟩:=xH Y G hp1
  refine xT ?_
  refine xr ?_
  rcases Jd H with⟨hp2,H⟩|⟨hp2,H⟩
  ·obtain⟨F,G,hq2⟩:=xH Y G hp2
   refine xT ?_
   replace H:=Option.some.inj H
   refine xr ?_
   subst H
   exact xN
  ·obtain⟨F,G,hq2⟩:=xH Y G hp2
   refine xE ?_
   replace H:=Option.some.inj H
   refine xr ?_
   subst H
   exact xN
 ·obtain⟨F,G,hq1⟩:=xH Y G hp1
  refine xE ?_
  refine xr ?_
  rcases Jd H with⟨hp3,H⟩|⟨hp3,H⟩
  ·obtain⟨F,G,hq3⟩:=xH Y G hp3
   refine xT ?_
   replace H:=Option.some.inj H
   refine xr ?_
   subst H
   exact xN
  ·obtain⟨F,G,hq3⟩:=xH Y G hp3
   refine xE ?_
   refine xr ?_
   rcases Jd H with⟨hp4,H⟩|⟨hp4,H⟩
   ·obtain⟨F,G,hq4⟩:=xH Y G hp4
    refine xT ?_
    replace H:=Option.some.inj H
    refine xr ?_
    subst H
    exact xN
   ·obtain⟨F,G,hq4⟩:=xH Y G hp4
    refine xE ?_
    refine xr ?_
    rcases Jd H with⟨hp5,H⟩|⟨hp5,H⟩
    ·obtain⟨F,G,hq5⟩:=xH Y G hp5
     refine xT ?_
     replace H:=Option.some.inj H
     refine xr ?_
     subst H
     exact xN
    ·obtain⟨F,G,hq5⟩:=xH Y G hp5
     refine xE ?_
     replace H:=Option.some.inj H
     refine xr ?_
     subst H
     exact xN
theorem XS(a0:Int)(a1:Int)(r:Int)(H:Vc a0 a1=some r):PC Xx [dI a0,dI a1] (dI r):=PF.c (a:=(a0,a1)) H
noncomputable def Z6(a0:List Int):(Int×Int)→Option ((Int×Int) ⊕ Int)
 | (x1,x2)=>if(ltI x2 x1)=true then if(0:Int)≤x2∧x2.toNat<a0.length then if(!eqI (a0.getD x2.toNat default) 0)=true then inrO (some (a0.getD x2.toNat default)) else some (.inl (x1,IntKind.i64.wrap (x2+1))) else none else inrO (some 0)
noncomputable def Jad(a0:List Int):Option Int :=
 Jz (Z6 a0) ((a0.length:Int),0)
noncomputable def Z7:PF:=PF.of (E1 (dL 1 dI)) (fun a=>Jad a) dI
theorem JeK:Kd Tryd.prog 39 Z7:=by
 refine xF mixed [] [] trivial trivial Tryd.func39 ?_
 rintro a0 out H
 have G:=True.intro
 have Y:=xZ y_3 <| xZ y_81 <| Tryd.results39
 simp only[Jad]at H
 refine xS ?_
 refine xr ?_
 refine xr ?_
 refine xr ?_
 refine KQ (Z6 a0) (fun s=>[(3,.c (.d (.v (.int .i64 0)))),(6,.c (.d (.sl 1 (List.map dI a0)))),(7,.c (.d (.v (.int .i64 s.1)))),(8,.c (.d (.v (.int .i64 s.2))))]) (fun s=>[]) [] H (xK ⟨[],[]⟩) ?_
 rintro n1 ⟨x1,x2⟩ o1 H hF1
 rw[Z6]at H
 refine xS ?_
 refine xr ?_
 rcases Jd H with⟨hp1,H⟩|⟨hp1,H⟩
 ·obtain⟨F,G,hq1⟩:=xH Y G hp1
  refine xT ?_
  obtain⟨hg1,H⟩:=Jc H
  have F:=xZ Y (Ji dI a0 x2.toNat default default (by omega))
  refine xR ?_
  refine xr ?_
  rcases Jd H with⟨hp2,H⟩|⟨hp2,H⟩
  ·obtain⟨F,G,hq2⟩:=xH Y G hp2
   refine xT ?_
   replace H:=Jo H hF1
   replace H:=Option.some.inj H
   refine xr ?_
   subst H
   exact xN
  ·obtain⟨F,G,hq2⟩:=xH Y G hp2
   refine xE ?_
   refine xr ?_
   exact JL (J3 H hF1) (xK ⟨[],[]⟩)
 ·obtain⟨F,G,hq1⟩:=xH Y G hp1
  replace H:=Jo H hF1
  refine xE ?_
  replace H:=Option.some.inj H
  refine xr ?_
  subst H
  exact xN
theorem Jfz(a0:List Int)(r:Int)(H:Jad a0=some r):PC Z7 [(dL 1 dI) a0] (dI r):=PF.c (a:=a0) H
noncomputable def VK(a0:Edit)(a1:Edit):Option Int :=
 (Vc a0.File a1.File).bind fun r1=>(Vc a0.From a1.From).bind fun r2=>(Vc a0.To a1.To).bind fun r3=>(Jad [r1,r2,r3]).bind fun r4=>some r4
noncomputable def XI:PF:=PF.of (E2 Ja Ja) (fun a=>VK a.1 a.2) dI
theorem JaP:Kd Tryd.prog 32 XI:=by
 refine xF mixed [(40,Xx),(39,Z7)] [] ⟨⟨JjW,JbM⟩,⟨JjE,JeK⟩,trivial⟩ trivial Tryd.func32 ?_
 rintro ⟨a0,a1⟩ out H
 have G:=True.intro
 have Y:=xZ y_3 <| xZ y_41 <| xZ y_81 <| xZ Tryd.results32 <| Ja.eq_1
 simp only[VK]at H
 refine xS ?_
 refine xr ?_
 obtain⟨r1,hr1,H⟩:=Jl H
 have F:=xC Y (XS a0.File a1.File r1 hr1)
 obtain⟨r2,hr2,H⟩:=Jl H
 have F:=xCf F (XS a0.From a1.From r2 hr2)
 obtain⟨r3,hr3,H⟩:=Jl H
 have F:=xCf F (XS a0.To a1.To r3 hr3)
 obtain⟨r4,hr4,H⟩:=Jl H
 have F:=xCf F (Jfz [r1,r2,r3] r4 hr4)
 replace H:=Option.some.inj H
 refine xR ?_
 subst H
 exact xN
theorem X4(a0:Edit)(a1:Edit)(r:Int)(H:VK a0 a1=some r):PC XI [Ja a0,Ja a1] (dI r):=PF.c (a:=(a0,a1)) H
noncomputable def JR(x1:Int)(x3:Int)(x4:List Edit):Bool→Option ((Int×(List Edit)) ⊕ ((Int×(List Edit)) ⊕ (List Edit)))
 | x5=>if x5=true then if(0:Int)≤(IntKind.i64.wrap (x3-1))∧(IntKind.i64.wrap (x3-1)).toNat<x4.length then if(IntKind.i64.wrap (x3-1)).toNat<x4.length then if(0:Int)≤x3∧x3.toNat<x4.length then if x3.toNat<x4.length then if(0:Int)≤x3∧x3.toNat<x4.length then if x3.toNat<x4.length then if(0:Int)≤(IntKind.i64.wrap (x3-1))∧(IntKind.i64.wrap (x3-1)).toNat<x4.length then if(IntKind.i64.wrap (x3-1)).toNat<(List.set x4 x3.toNat (x4.getD ((IntKind.i64.wrap (x3-1)).toNat) default)).length then some (.inl (IntKind.i64.wrap (x3-1),List.set (List.set x4 x3.toNat (x4.getD ((IntKind.i64.wrap (x3-1)).toNat) default)) ((IntKind.i64.wrap (x3-1)).toNat) (x4.getD x3.toNat default))) else none else none else none else none else none else none else none else none else inrO (some (.inl (IntKind.i64.wrap (x1+1),x4)))
noncomputable def Kl(a0:Int)(x1:Int):(Int×(List Edit))→Option ((Int×(List Edit)) ⊕ ((Int×(List Edit)) ⊕ (List Edit)))
 | (x3,x4)=>if(ltI a0 x3)=true then if(0:Int)≤x3∧x3.toNat<x4.length then if x3.toNat<x4.length then if(0:Int)≤(IntKind.i64.wrap (x3-1))∧(IntKind.i64.wrap (x3-1)).toNat<x4.length then if(IntKind.i64.wrap (x3-1)).toNat<x4.length then(VK (x4.getD x3.toNat default) (x4.getD ((IntKind.i64.wrap (x3-1)).toNat) default)).bind fun r1=>JR x1 x3 x4 (ltI r1 0) else none else none else none else none else JR x1 x3 x4 false
noncomputable def Jw(a0:Int)(a1:Int):(Int×(List Edit))→Option ((Int×(List Edit)) ⊕ (List Edit))
 | (x1,x2)=>if(ltI x1 a1)=true then Jz (Kl a0 x1) (x1,x2) else inrO (some x2)
noncomputable def Jt(a0:Int)(a1:Int)(a2:List Edit):Option (List Edit) :=
 Jz (Jw a0 a1) (IntKind.i64.wrap (a0+1),a2)
def JB(a0:Int)(a1:Int)(a2:List Edit)(r:(List Edit)):GI :=
 ⟨[.c (.os 1 4 0 a2.length),.c (.d (.v (.int .i64 a0))),.c (.d (.v (.int .i64 a1))),.c (.d (.v (.func (.func 32) #[] #[])))],[[.arr 4 (List.map Ja a2)]],[],.ret (.tu []) [[.arr 4 (List.map Ja r)]] []⟩
def JA:GI→Prop:=fun g=>∃ (a0:Int) (a1:Int) (a2:List Edit) (r:(List Edit)),Jt a0 a1 a2=some r∧g=JB a0 a1 a2 r
theorem K5(a0:Int)(a1:Int)(a2:List Edit)(r:(List Edit))(H:Jt a0 a1 a2=some r):JA (JB a0 a1 a2 r):=⟨a0,a1,a2,r,H,rfl⟩
theorem Xi:∀ g,JA g→JP Tryd.prog 48 g:=by
 rintro _ ⟨a0,a1,a2,r,H,rfl⟩
 refine xGn mixed [(32,XI)] [] [] ⟨⟨JgF,JaP⟩,trivial⟩ trivial trivial Tryd.func48 _ ?_
 have G:=True.intro
 have Y:=xZ y_24 <| xZ y_41 <| xZ Tryd.results48 <| xZ Ja.eq_1 <| JB.eq_1
 dsimp only[JB]
 simp only[Jt]at H
 refine xS ?_
 refine xr ?_
 refine KQ (Jw a0 a1) (fun s=>[(0,.c (.os 1 4 0 s.2.length)),(1,.c (.d (.v (.int .i64 a0)))),(2,.c (.d (.v (.int .i64 a1)))),(3,.c (.d (.v (.func (.func 32) #[] #[])))),(8,.c (.d (.v (.int .i64 s.1))))]) (fun s=>[[.arr 4 (List.map Ja s.2)]]) [] H (xK ⟨[1],[]⟩) ?_
 rintro n1 ⟨x1,x2⟩ o1 H hF1
 rw[Jw]at H
 refine xS ?_
 refine xr ?_
 rcases Jd H with⟨hp1,H⟩|⟨hp1,H⟩
 ·obtain⟨F,G,hq1⟩:=xH Y G hp1
  refine xT ?_
  refine xr ?_
  refine KQ (Kl a0 x1) (fun s=>[(0,.c (.os 1 4 0 s.2.length)),(1,.c (.d (.v (.int .i64 a0)))),(2,.c (.d (.v (.int .i64 a1)))),(3,.c (.d (.v (.func (.func 32) #[] #[])))),(8,.c (.d (.v (.int .i64 x1)))),(9,.c (.d (.v (.int .i64 s.1))))]) (fun s=>[[.arr 4 (List.map Ja s.2)]]) [] H (xK ⟨[1],[]⟩) ?_
  rintro n2 ⟨x3,x4⟩ o2 H hF2
  rw[Kl]at H
  refine Jca ?_
  refine Vw (JR x1 x3 x4) (fun s=>[(0,.c (.os 1 4 0 x4.length)),(1,.c (.d (.v (.int .i64 a0)))),(2,.c (.d (.v (.int .i64 a1)))),(3,.c (.d (.v (.func (.func 32) #[] #[])))),(8,.c (.d (.v (.int .i64 x1)))),(9,.c (.d (.v (.int .i64 x3)))),(34,.c (.d (.v (.bool s))))]) (fun s=>[[.arr 4 (List.map Ja x4)]]) [] o2 ?_ ?_
  ·rcases Jd H with⟨hp3,H⟩|⟨hp3,H⟩
   ·obtain⟨F,G,hq3⟩:=xH Y G hp3
    obtain⟨hg5,H⟩:=Jc H
    obtain⟨hg,H⟩:=Jc H
    have F:=xZ F (Ji Ja x4 x3.toNat default default (by omega))
    obtain⟨hg6,H⟩:=Jc H
    obtain⟨hg,H⟩:=Jc H
    have F:=xZ F (Ji Ja x4 ((IntKind.i64.wrap (x3-1)).toNat) default default (by omega))
    obtain⟨r1,hr1,H⟩:=Jl H
    have F:=xCf F (X4 (x4.getD x3.toNat default) (x4.getD ((IntKind.i64.wrap (x3-1)).toNat) default) r1 hr1)
    refine xR ?_
    exact Jj H (xK ⟨[1],[]⟩)
   ·obtain⟨F,G,hq3⟩:=xH Y G hp3
    refine xR ?_
    exact Jj H (xK ⟨[1],[]⟩)
  ·rintro x5 H
   rw[JR]at H
   rcases Jd H with⟨hp2,H⟩|⟨hp2,H⟩
   ·obtain⟨F,G,hq2⟩:=xH Y G hp2
    refine xT ?_
    obtain⟨hg1,H⟩:=Jc H
    obtain⟨hg,H⟩:=Jc H
    have F:=xZ Y (Ji Ja x4 ((IntKind.i64.wrap (x3-1)).toNat) default default (by omega))
    obtain⟨hg2,H⟩:=Jc H
    obtain⟨hg,H⟩:=Jc H
    have F:=xZ F (Ji Ja x4 x3.toNat default default (by omega))
    obtain⟨hg3,H⟩:=Jc H
    obtain⟨hg,H⟩:=Jc H
    have F:=xZ F (Ji Ja x4 x3.toNat default default (by omega))
    have F:=xZ F (XP Ja x4 x3.toNat)
    have F:=xZ F (XB Ja x4 (show x3.toNat<x4.length by omega))
    have F:=xZ F (XJ Ja x4 x3.toNat)
    obtain⟨hg4,H⟩:=Jc H
    obtain⟨hg,H⟩:=Jc H
    have F:=xZ F (Ji Ja (List.set x4 x3.toNat (x4.getD ((IntKind.i64.wrap (x3-1)).toNat) default)) ((IntKind.i64.wrap (x3-1)).toNat) default default (by omega))
    have F:=xZ F (by have h:=sget Ja x4 x3.toNat (x4.getD ((IntKind.i64.wrap (x3-1)).toNat) default) default ((IntKind.i64.wrap (x3-1)).toNat) (by simpa only[List.length_set] using hg) default; simp only[Ja]at h; exact h)
    have F:=xZ F (XP Ja (List.set x4 x3.toNat (x4.getD ((IntKind.i64.wrap (x3-1)).toNat) default)) ((IntKind.i64.wrap (x3-1)).toNat))
    have F:=xZ F (XB Ja (List.set x4 x3.toNat (x4.getD ((IntKind.i64.wrap (x3-1)).toNat) default)) (show(IntKind.i64.wrap (x3-1)).toNat<(List.set x4 x3.toNat (x4.getD ((IntKind.i64.wrap (x3-1)).toNat) default)).length by omega))
    have F:=xZ F (XJ Ja (List.set x4 x3.toNat (x4.getD ((IntKind.i64.wrap (x3-1)).toNat) default)) ((IntKind.i64.wrap (x3-1)).toNat))
    refine xR ?_
    refine xr ?_
    exact JL (J3 H hF2) (xK ⟨[1],[]⟩)
   ·obtain⟨F,G,hq2⟩:=xH Y G hp2
    replace H:=Jo H hF2
    refine xE ?_
    refine xr ?_
    exact JL (J3 H hF1) (xK ⟨[1],[]⟩)
 ·obtain⟨F,G,hq1⟩:=xH Y G hp1
  replace H:=Jo H hF1
  replace H:=Option.some.inj H
  refine xE ?_
  subst H
  refine xnD [] ?_
  exact xO ⟨[1],[]⟩
theorem Xq:Je Tryd.prog 48∧(∀ g,JA g→JP Tryd.prog 48 g)∧(true=true→∀ g,JA g→∃ val bs ts,g.out=.ret val bs ts) :=
 ⟨Jjk,Xi,fun _=>by rintro _ ⟨_,_,_,_,_,rfl⟩; exact⟨_,_,_,rfl⟩⟩
noncomputable def Kv(a0:Int)(a1:Int)(a2:Int):(Int×(List Edit))→Option ((Int×(List Edit)) ⊕ (List Edit))
 | (x1,x2)=>if(ltI x1 a2)=true then if(0:Int)≤(IntKind.i64.wrap (a1+x1))∧(IntKind.i64.wrap (a1+x1)).toNat<x2.length then if(IntKind.i64.wrap (a1+x1)).toNat<x2.length then if(0:Int)≤(IntKind.i64.wrap (a0+x1))∧(IntKind.i64.wrap (a0+x1)).toNat<x2.length then if(IntKind.i64.wrap (a0+x1)).toNat<x2.length then if(0:Int)≤(IntKind.i64.wrap (a0+x1))∧(IntKind.i64.wrap (a0+x1)).toNat<x2.length then if(IntKind.i64.wrap (a0+x1)).toNat<x2.length then if(0:Int)≤(IntKind.i64.wrap (a1+x1))∧(IntKind.i64.wrap (a1+x1)).toNat<x2.length then if(IntKind.i64.wrap (a1+x1)).toNat<(List.set x2 ((IntKind.i64.wrap (a0+x1)).toNat) (x2.getD ((IntKind.i64.wrap (a1+x1)).toNat) default)).length then some (.inl (IntKind.i64.wrap (x1+1),List.set (List.set x2 ((IntKind.i64.wrap (a0+x1)).toNat) (x2.getD ((IntKind.i64.wrap (a1+x1)).toNat) default)) ((IntKind.i64.wrap (a1+x1)).toNat) (x2.getD ((IntKind.i64.wrap (a0+x1)).toNat) default))) else none else none else none else none else none else none else none else none else inrO (some x2)
noncomputable def JC(a0:Int)(a1:Int)(a2:Int)(a3:List Edit):Option (List Edit) :=
 Jz (Kv a0 a1 a2) (0,a3)
def JG(a0:Int)(a1:Int)(a2:Int)(a3:List Edit)(r:(List Edit)):GI :=
 ⟨[.c (.os 1 4 0 a3.length),.c (.d (.v (.int .i64 a0))),.c (.d (.v (.int .i64 a1))),.c (.d (.v (.int .i64 a2))),.c (.d (.v (.func (.func 32) #[] #[])))],[[.arr 4 (List.map Ja a3)]],[],.ret (.tu []) [[.arr 4 (List.map Ja r)]] []⟩
def JH:GI→Prop:=fun g=>∃ (a0:Int) (a1:Int) (a2:Int) (a3:List Edit) (r:(List Edit)),JC a0 a1 a2 a3=some r∧g=JG a0 a1 a2 a3 r
theorem Ky(a0:Int)(a1:Int)(a2:Int)(a3:List Edit)(r:(List Edit))(H:JC a0 a1 a2 a3=some r):JH (JG a0 a1 a2 a3 r):=⟨a0,a1,a2,a3,r,H,rfl⟩
theorem XH:∀ g,JH g→JP Tryd.prog 62 g:=by
 rintro _ ⟨a0,a1,a2,a3,r,H,rfl⟩
 refine xGn mixed [] [] [] trivial trivial trivial Tryd.func62 _ ?_
 have G:=True.intro
 have Y:=xZ y_24 <| xZ y_41 <| xZ Tryd.results62 <| xZ Ja.eq_1 <| JG.eq_1
 dsimp only[JG]
 simp only[JC]at H
 refine xS ?_
 refine xr ?_
 refine KQ (Kv a0 a1 a2) (fun s=>[(0,.c (.os 1 4 0 s.2.length)),(1,.c (.d (.v (.int .i64 a0)))),(2,.c (.d (.v (.int .i64 a1)))),(3,.c (.d (.v (.int .i64 a2)))),(10,.c (.d (.v (.int .i64 s.1))))]) (fun s=>[[.arr 4 (List.map Ja s.2)]]) [] H (xK ⟨[1],[]⟩) ?_
 rintro n1 ⟨x1,x2⟩ o1 H hF1
 rw[Kv]at H
 refine xS ?_
 refine xr ?_
 rcases Jd H with⟨hp1,H⟩|⟨hp1,H⟩
 ·obtain⟨F,G,hq1⟩:=xH Y G hp1
  refine xT ?_
  obtain⟨hg1,H⟩:=Jc H
  obtain⟨hg,H⟩:=Jc H
  have F:=xZ Y (Ji Ja x2 ((IntKind.i64.wrap (a1+x1)).toNat) default default (by omega))
  obtain⟨hg2,H⟩:=Jc H
  obtain⟨hg,H⟩:=Jc H
  have F:=xZ F (Ji Ja x2 ((IntKind.i64.wrap (a0+x1)).toNat) default default (by omega))
  obtain⟨hg3,H⟩:=Jc H
  obtain⟨hg,H⟩:=Jc H
  have F:=xZ F (Ji Ja x2 ((IntKind.i64.wrap (a0+x1)).toNat) default default (by omega))
  have F:=xZ F (XP Ja x2 ((IntKind.i64.wrap (a0+x1)).toNat))
  have F:=xZ F (XB Ja x2 (show(IntKind.i64.wrap (a0+x1)).toNat<x2.length by omega))
  have F:=xZ F (XJ Ja x2 ((IntKind.i64.wrap (a0+x1)).toNat))
  obtain⟨hg4,H⟩:=Jc H
  obtain⟨hg,H⟩:=Jc H
  have F:=xZ F (Ji Ja (List.set x2 ((IntKind.i64.wrap (a0+x1)).toNat) (x2.getD ((IntKind.i64.wrap (a1+x1)).toNat) default)) ((IntKind.i64.wrap (a1+x1)).toNat) default default (by omega))
  have F:=xZ F (by have h:=sget Ja x2 ((IntKind.i64.wrap (a0+x1)).toNat) (x2.getD ((IntKind.i64.wrap (a1+x1)).toNat) default) default ((IntKind.i64.wrap (a1+x1)).toNat) (by simpa only[List.length_set] using hg) default; simp only[Ja]at h; exact h)
  have F:=xZ F (XP Ja (List.set x2 ((IntKind.i64.wrap (a0+x1)).toNat) (x2.getD ((IntKind.i64.wrap (a1+x1)).toNat) default)) ((IntKind.i64.wrap (a1+x1)).toNat))
  have F:=xZ F (XB Ja (List.set x2 ((IntKind.i64.wrap (a0+x1)).toNat) (x2.getD ((IntKind.i64.wrap (a1+x1)).toNat) default)) (show(IntKind.i64.wrap (a1+x1)).toNat<(List.set x2 ((IntKind.i64.wrap (a0+x1)).toNat) (x2.getD ((IntKind.i64.wrap (a1+x1)).toNat) default)).length by omega))
  have F:=xZ F (XJ Ja (List.set x2 ((IntKind.i64.wrap (a0+x1)).toNat) (x2.getD ((IntKind.i64.wrap (a1+x1)).toNat) default)) ((IntKind.i64.wrap (a1+x1)).toNat))
  refine xR ?_
  refine xr ?_
  exact JL (J3 H hF1) (xK ⟨[1],[]⟩)
 ·obtain⟨F,G,hq1⟩:=xH Y G hp1
  replace H:=Jo H hF1
  replace H:=Option.some.inj H
  refine xE ?_
  subst H
  refine xnD [] ?_
  exact xO ⟨[1],[]⟩
theorem XV:Je Tryd.prog 62∧(∀ g,JH g→JP Tryd.prog 62 g)∧(true=true→∀ g,JH g→∃ val bs ts,g.out=.ret val bs ts) :=
 ⟨JjV,XH,fun _=>by rintro _ ⟨_,_,_,_,_,_,rfl⟩; exact⟨_,_,_,rfl⟩⟩
noncomputable def KO(a1:Int):(Int×Int×(List Edit))→Option ((Int×Int×(List Edit)) ⊕ (List Edit))
 | (x1,x2,x3)=>if(!eqI x1 x2)=true then if(ltI x2 x1)=true then(JC (IntKind.i64.wrap (a1-x1)) a1 x2 x3).bind fun r1=>if r1.length=x3.length then some (.inl (IntKind.i64.wrap (x1-x2),x2,r1)) else none else(JC (IntKind.i64.wrap (a1-x1)) (IntKind.i64.wrap ((IntKind.i64.wrap (a1+x2))-x1)) x1 x3).bind fun r2=>if r2.length=x3.length then some (.inl (x1,IntKind.i64.wrap (x2-x1),r2)) else none else inrO ((JC (IntKind.i64.wrap (a1-x1)) a1 x1 x3).bind fun r3=>if r3.length=x3.length then some r3 else none)
noncomputable def Kq(a0:Int)(a1:Int)(a2:Int)(a3:List Edit):Option (List Edit) :=
 Jz (KO a1) (IntKind.i64.wrap (a1-a0),IntKind.i64.wrap (a2-a1),a3)
def JX(a0:Int)(a1:Int)(a2:Int)(a3:List Edit)(r:(List Edit)):GI :=
 ⟨[.c (.os 1 4 0 a3.length),.c (.d (.v (.int .i64 a0))),.c (.d (.v (.int .i64 a1))),.c (.d (.v (.int .i64 a2))),.c (.d (.v (.func (.func 32) #[] #[])))],[[.arr 4 (List.map Ja a3)]],[],.ret (.tu []) [[.arr 4 (List.map Ja r)]] []⟩
def JY:GI→Prop:=fun g=>∃ (a0:Int) (a1:Int) (a2:Int) (a3:List Edit) (r:(List Edit)),Kq a0 a1 a2 a3=some r∧g=JX a0 a1 a2 a3 r
theorem Zn(a0:Int)(a1:Int)(a2:Int)(a3:List Edit)(r:(List Edit))(H:Kq a0 a1 a2 a3=some r):JY (JX a0 a1 a2 a3 r):=⟨a0,a1,a2,a3,r,H,rfl⟩
theorem Zd:∀ g,JY g→JP Tryd.prog 57 g:=by
 rintro _ ⟨a0,a1,a2,a3,r,H,rfl⟩
 refine xGn mixed [] [(62,true,JH)] [] trivial ⟨XV,trivial⟩ trivial Tryd.func57 _ ?_
 have G:=True.intro
 have Y:=xZ Tryd.results57 <| xZ Ja.eq_1 <| xZ JG.eq_1 <| JX.eq_1
 dsimp only[JX]
 simp only[Kq]at H
 refine xS ?_
 refine xr ?_
 refine xr ?_
 refine KQ (KO a1) (fun s=>[(0,.c (.os 1 4 0 s.2.2.length)),(2,.c (.d (.v (.int .i64 a1)))),(4,.c (.d (.v (.func (.func 32) #[] #[])))),(10,.c (.d (.v (.int .i64 s.1)))),(11,.c (.d (.v (.int .i64 s.2.1))))]) (fun s=>[[.arr 4 (List.map Ja s.2.2)]]) [] H (xK ⟨[1],[]⟩) ?_
 rintro n1 ⟨x1,x2,x3⟩ o1 H hF1
 rw[KO]at H
 refine xS ?_
 refine xr ?_
 rcases Jd H with⟨hp1,H⟩|⟨hp1,H⟩
 ·obtain⟨F,G,hq1⟩:=xH Y G hp1
  refine xT ?_
  refine xr ?_
  rcases Jd H with⟨hp2,H⟩|⟨hp2,H⟩
  ·obtain⟨F,G,hq2⟩:=xH Y G hp2
   refine xT ?_
   obtain⟨r1,hr1,H⟩:=Jl H
   have F:=Y
   obtain⟨hgl,H⟩:=Jc H
   have F:=xZ F hgl
   have G:=xZ G hgl
   refine xQ ?_
   refine xs 7 ?_
   refine xc ⟨[1],[]⟩ (tabG 0 (Ky (IntKind.i64.wrap (a1-x1)) a1 x2 x3 r1 hr1)) ?_
   refine xl ?_
   refine xS ?_
   refine xr ?_
   exact JL (J3 H hF1) (xK ⟨[1],[]⟩)
  ·obtain⟨F,G,hq2⟩:=xH Y G hp2
   refine xE ?_
   obtain⟨r2,hr2,H⟩:=Jl H
   have F:=Y
   obtain⟨hgl,H⟩:=Jc H
   have F:=xZ F hgl
   have G:=xZ G hgl
   refine xQ ?_
   refine xs 11 ?_
   refine xc ⟨[1],[]⟩ (tabG 0 (Ky (IntKind.i64.wrap (a1-x1)) (IntKind.i64.wrap ((IntKind.i64.wrap (a1+x2))-x1)) x1 x3 r2 hr2)) ?_
   refine xl ?_
   refine xS ?_
   refine xr ?_
   exact JL (J3 H hF1) (xK ⟨[1],[]⟩)
 ·obtain⟨F,G,hq1⟩:=xH Y G hp1
  replace H:=Jo H hF1
  refine xE ?_
  obtain⟨r3,hr3,H⟩:=Jl H
  have F:=Y
  obtain⟨hgl,H⟩:=Jc H
  have F:=xZ F hgl
  have G:=xZ G hgl
  refine xQ ?_
  refine xs 7 ?_
  refine xc ⟨[1],[]⟩ (tabG 0 (Ky (IntKind.i64.wrap (a1-x1)) a1 x1 x3 r3 hr3)) ?_
  refine xl ?_
  replace H:=Option.some.inj H
  refine xS ?_
  subst H
  refine xnD [] ?_
  exact xO ⟨[1],[]⟩
theorem Zo:Je Tryd.prog 57∧(∀ g,JY g→JP Tryd.prog 57 g)∧(true=true→∀ g,JY g→∃ val bs ts,g.out=.ret val bs ts) :=
 ⟨JjN,Zd,fun _=>by rintro _ ⟨_,_,_,_,_,_,rfl⟩; exact⟨_,_,_,rfl⟩⟩
def Jq(a0:Int)(a1:Int)(a2:Int)(a3:List Edit)(r:(List Edit)):GI :=
 ⟨[.c (.os 1 4 0 a3.length),.c (.d (.v (.int .i64 a0))),.c (.d (.v (.int .i64 a1))),.c (.d (.v (.int .i64 a2))),.c (.d (.v (.func (.func 32) #[] #[])))],[[.arr 4 (List.map Ja a3)]],[],.ret (.tu []) [[.arr 4 (List.map Ja r)]] []⟩
def Ju(q:Int→Int→Int→(List Edit)→Option (List Edit)):GI→Prop:=fun g=>∃ (a0:Int) (a1:Int) (a2:Int) (a3:List Edit) (r:(List Edit)),q a0 a1 a2 a3=some r∧g=Jq a0 a1 a2 a3 r
theorem Kz(q:Int→Int→Int→(List Edit)→Option (List Edit))(a0:Int)(a1:Int)(a2:Int)(a3:List Edit)(r:(List Edit))(H:q a0 a1 a2 a3=some r):Ju q (Jq a0 a1 a2 a3 r):=⟨a0,a1,a2,a3,r,H,rfl⟩
noncomputable def KE(x1:Int):(Int×(List Edit))→Option ((Int×(List Edit)) ⊕ (List Edit))
 | (x3,x4)=>if(ltI x3 (IntKind.i64.wrap (x1-1)))=true then if(0:Int)≤(IntKind.i64.wrap (x3+1))∧(IntKind.i64.wrap (x3+1)).toNat<x4.length then if(IntKind.i64.wrap (x3+1)).toNat<x4.length then if(0:Int)≤x3∧x3.toNat<x4.length then if x3.toNat<x4.length then if(0:Int)≤x3∧x3.toNat<x4.length then if x3.toNat<x4.length then if(0:Int)≤(IntKind.i64.wrap (x3+1))∧(IntKind.i64.wrap (x3+1)).toNat<x4.length then if(IntKind.i64.wrap (x3+1)).toNat<(List.set x4 x3.toNat (x4.getD ((IntKind.i64.wrap (x3+1)).toNat) default)).length then some (.inl (IntKind.i64.wrap (x3+1),List.set (List.set x4 x3.toNat (x4.getD ((IntKind.i64.wrap (x3+1)).toNat) default)) ((IntKind.i64.wrap (x3+1)).toNat) (x4.getD x3.toNat default))) else none else none else none else none else none else none else none else none else inrO (some x4)
noncomputable def KC(a0:Int)(a3:List Edit):(Int×Int)→Option ((Int×Int) ⊕ (List Edit))
 | (x1,x2)=>if(ltI x1 x2)=true then if(0:Int)≤1 then if(0:Int)≤(IntKind.i64.wrap (Int.fdiv (IntKind.u64.wrap (IntKind.i64.wrap (x1+x2))) (2 ^ (min 1 IntKind.u64.bits))))∧(IntKind.i64.wrap (Int.fdiv (IntKind.u64.wrap (IntKind.i64.wrap (x1+x2))) (2 ^ (min 1 IntKind.u64.bits)))).toNat<a3.length then if(IntKind.i64.wrap (Int.fdiv (IntKind.u64.wrap (IntKind.i64.wrap (x1+x2))) (2 ^ (min 1 IntKind.u64.bits)))).toNat<a3.length then if(0:Int)≤a0∧a0.toNat<a3.length then if a0.toNat<a3.length then(VK (a3.getD ((IntKind.i64.wrap (Int.fdiv (IntKind.u64.wrap (IntKind.i64.wrap (x1+x2))) (2 ^ (min 1 IntKind.u64.bits)))).toNat) default) (a3.getD a0.toNat default)).bind fun r1=>if(ltI r1 0)=true then some (.inl (IntKind.i64.wrap ((IntKind.i64.wrap (Int.fdiv (IntKind.u64.wrap (IntKind.i64.wrap (x1+x2))) (2 ^ (min 1 IntKind.u64.bits))))+1),x2)) else some (.inl (x1,IntKind.i64.wrap (Int.fdiv (IntKind.u64.wrap (IntKind.i64.wrap (x1+x2))) (2 ^ (min 1 IntKind.u64.bits))))) else none else none else none else none else none else inrO (Jz (KE x1) (a0,a3))
noncomputable def KB(x5:Int):(Int×(List Edit))→Option ((Int×(List Edit)) ⊕ (List Edit))
 | (x7,x8)=>if(ltI x5 x7)=true then if(0:Int)≤(IntKind.i64.wrap (x7-1))∧(IntKind.i64.wrap (x7-1)).toNat<x8.length then if(IntKind.i64.wrap (x7-1)).toNat<x8.length then if(0:Int)≤x7∧x7.toNat<x8.length then if x7.toNat<x8.length then if(0:Int)≤x7∧x7.toNat<x8.length then if x7.toNat<x8.length then if(0:Int)≤(IntKind.i64.wrap (x7-1))∧(IntKind.i64.wrap (x7-1)).toNat<x8.length then if(IntKind.i64.wrap (x7-1)).toNat<(List.set x8 x7.toNat (x8.getD ((IntKind.i64.wrap (x7-1)).toNat) default)).length then some (.inl (IntKind.i64.wrap (x7-1),List.set (List.set x8 x7.toNat (x8.getD ((IntKind.i64.wrap (x7-1)).toNat) default)) ((IntKind.i64.wrap (x7-1)).toNat) (x8.getD x7.toNat default))) else none else none else none else none else none else none else none else none else inrO (some x8)
noncomputable def KA(a1:Int)(a3:List Edit):(Int×Int)→Option ((Int×Int) ⊕ (List Edit))
 | (x5,x6)=>if(ltI x5 x6)=true then if(0:Int)≤1 then if(0:Int)≤a1∧a1.toNat<a3.length then if a1.toNat<a3.length then if(0:Int)≤(IntKind.i64.wrap (Int.fdiv (IntKind.u64.wrap (IntKind.i64.wrap (x5+x6))) (2 ^ (min 1 IntKind.u64.bits))))∧(IntKind.i64.wrap (Int.fdiv (IntKind.u64.wrap (IntKind.i64.wrap (x5+x6))) (2 ^ (min 1 IntKind.u64.bits)))).toNat<a3.length then if(IntKind.i64.wrap (Int.fdiv (IntKind.u64.wrap (IntKind.i64.wrap (x5+x6))) (2 ^ (min 1 IntKind.u64.bits)))).toNat<a3.length then(VK (a3.getD a1.toNat default) (a3.getD ((IntKind.i64.wrap (Int.fdiv (IntKind.u64.wrap (IntKind.i64.wrap (x5+x6))) (2 ^ (min 1 IntKind.u64.bits)))).toNat) default)).bind fun r2=>if(!(ltI r2 0))=true then some (.inl (IntKind.i64.wrap ((IntKind.i64.wrap (Int.fdiv (IntKind.u64.wrap (IntKind.i64.wrap (x5+x6))) (2 ^ (min 1 IntKind.u64.bits))))+1),x6)) else some (.inl (x5,IntKind.i64.wrap (Int.fdiv (IntKind.u64.wrap (IntKind.i64.wrap (x5+x6))) (2 ^ (min 1 IntKind.u64.bits))))) else none else none else none else none else none else inrO (Jz (KB x5) (a1,a3))
noncomputable def Kb(q1:Int→Int→Int→(List Edit)→Option (List Edit))(a2:Int)(x9:Int)(x16:Int)(x18:List Edit):Bool→Option (List Edit)
 | x19=>if x19=true then(q1 x9 x16 a2 x18).bind fun r4=>if r4.length=x18.length then some r4 else none else some x18
noncomputable def Ka(q1:Int→Int→Int→(List Edit)→Option (List Edit))(a2:Int)(x9:Int)(x16:Int):(List Edit)→Option (List Edit)
 | x18=>if(ltI x9 x16)=true then Kb q1 a2 x9 x16 x18 (ltI x16 a2) else Kb q1 a2 x9 x16 x18 false
noncomputable def J5(q1:Int→Int→Int→(List Edit)→Option (List Edit))(a0:Int)(a2:Int)(x9:Int)(x13:Int)(x16:Int)(x17:List Edit):Bool→Option (List Edit)
 | x20=>if x20=true then(q1 a0 x13 x9 x17).bind fun r5=>if r5.length=x17.length then Ka q1 a2 x9 x16 r5 else none else Ka q1 a2 x9 x16 x17
noncomputable def J9(q1:Int→Int→Int→(List Edit)→Option (List Edit))(a0:Int)(a2:Int)(x9:Int)(x13:Int):(Int×(List Edit))→Option (List Edit)
 | (x16,x17)=>if(ltI a0 x13)=true then J5 q1 a0 a2 x9 x13 x16 x17 (ltI x13 x9) else J5 q1 a0 a2 x9 x13 x16 x17 false
noncomputable def J4(q1:Int→Int→Int→(List Edit)→Option (List Edit))(a0:Int)(a1:Int)(a2:Int)(a3:List Edit)(x9:Int)(x13:Int):(Int×Bool)→Option (List Edit)
 | (x21,x22)=>if x22=true then(Kq x13 a1 x21 a3).bind fun r6=>if r6.length=a3.length then J9 q1 a0 a2 x9 x13 (x21,r6) else none else J9 q1 a0 a2 x9 x13 (x21,a3)
noncomputable def KD(q1:Int→Int→Int→(List Edit)→Option (List Edit))(a0:Int)(a1:Int)(a2:Int)(a3:List Edit)(x9:Int)(x10:Int):(Int×Int×Int)→Option ((Int×Int×Int) ⊕ (List Edit))
 | (x13,x14,x15)=>if(ltI x13 x14)=true then if(0:Int)≤1 then if(0:Int)≤(IntKind.i64.wrap (x15-(IntKind.i64.wrap (Int.fdiv (IntKind.u64.wrap (IntKind.i64.wrap (x13+x14))) (2 ^ (min 1 IntKind.u64.bits))))))∧(IntKind.i64.wrap (x15-(IntKind.i64.wrap (Int.fdiv (IntKind.u64.wrap (IntKind.i64.wrap (x13+x14))) (2 ^ (min 1 IntKind.u64.bits)))))).toNat<a3.length then if(IntKind.i64.wrap (x15-(IntKind.i64.wrap (Int.fdiv (IntKind.u64.wrap (IntKind.i64.wrap (x13+x14))) (2 ^ (min 1 IntKind.u64.bits)))))).toNat<a3.length then if(0:Int)≤(IntKind.i64.wrap (Int.fdiv (IntKind.u64.wrap (IntKind.i64.wrap (x13+x14))) (2 ^ (min 1 IntKind.u64.bits))))∧(IntKind.i64.wrap (Int.fdiv (IntKind.u64.wrap (IntKind.i64.wrap (x13+x14))) (2 ^ (min 1 IntKind.u64.bits)))).toNat<a3.length then if(IntKind.i64.wrap (Int.fdiv (IntKind.u64.wrap (IntKind.i64.wrap (x13+x14))) (2 ^ (min 1 IntKind.u64.bits)))).toNat<a3.length then(VK (a3.getD ((IntKind.i64.wrap (x15-(IntKind.i64.wrap (Int.fdiv (IntKind.u64.wrap (IntKind.i64.wrap (x13+x14))) (2 ^ (min 1 IntKind.u64.bits)))))).toNat) default) (a3.getD ((IntKind.i64.wrap (Int.fdiv (IntKind.u64.wrap (IntKind.i64.wrap (x13+x14))) (2 ^ (min 1 IntKind.u64.bits)))).toNat) default)).bind fun r3=>if(!(ltI r3 0))=true then some (.inl (IntKind.i64.wrap ((IntKind.i64.wrap (Int.fdiv (IntKind.u64.wrap (IntKind.i64.wrap (x13+x14))) (2 ^ (min 1 IntKind.u64.bits))))+1),x14,x15)) else some (.inl (x13,IntKind.i64.wrap (Int.fdiv (IntKind.u64.wrap (IntKind.i64.wrap (x13+x14))) (2 ^ (min 1 IntKind.u64.bits))),x15)) else none else none else none else none else none else inrO (if(ltI x13 a1)=true then J4 q1 a0 a1 a2 a3 x9 x13 (IntKind.i64.wrap (x10-x13),ltI a1 (IntKind.i64.wrap (x10-x13))) else J4 q1 a0 a1 a2 a3 x9 x13 (IntKind.i64.wrap (x10-x13),false))
noncomputable def J7(q1:Int→Int→Int→(List Edit)→Option (List Edit))(a0:Int)(a1:Int)(a2:Int)(a3:List Edit):(Int×Int×Int×Int)→Option (List Edit)
 | (x9,x10,x11,x12)=>Jz (KD q1 a0 a1 a2 a3 x9 x10) (x11,x12,IntKind.i64.wrap (x10-1))
noncomputable def KM(q1:Int→Int→Int→(List Edit)→Option (List Edit))(a0:Int)(a1:Int)(a2:Int)(a3:List Edit):Option (List Edit) :=
 if(eqI (IntKind.i64.wrap (a1-a0)) 1)=true then Jz (KC a0 a3) (a1,a2) else if(eqI (IntKind.i64.wrap (a2-a1)) 1)=true then Jz (KA a1 a3) (a0,a1) else if(0:Int)≤1 then if(ltI (IntKind.i64.wrap (Int.fdiv (IntKind.u64.wrap (IntKind.i64.wrap (a0+a2))) (2 ^ (min 1 IntKind.u64.bits)))) a1)=true then J7 q1 a0 a1 a2 a3 (IntKind.i64.wrap (Int.fdiv (IntKind.u64.wrap (IntKind.i64.wrap (a0+a2))) (2 ^ (min 1 IntKind.u64.bits))),IntKind.i64.wrap ((IntKind.i64.wrap (Int.fdiv (IntKind.u64.wrap (IntKind.i64.wrap (a0+a2))) (2 ^ (min 1 IntKind.u64.bits))))+a1),IntKind.i64.wrap ((IntKind.i64.wrap ((IntKind.i64.wrap (Int.fdiv (IntKind.u64.wrap (IntKind.i64.wrap (a0+a2))) (2 ^ (min 1 IntKind.u64.bits))))+a1))-a2),IntKind.i64.wrap (Int.fdiv (IntKind.u64.wrap (IntKind.i64.wrap (a0+a2))) (2 ^ (min 1 IntKind.u64.bits)))) else J7 q1 a0 a1 a2 a3 (IntKind.i64.wrap (Int.fdiv (IntKind.u64.wrap (IntKind.i64.wrap (a0+a2))) (2 ^ (min 1 IntKind.u64.bits))),IntKind.i64.wrap ((IntKind.i64.wrap (Int.fdiv (IntKind.u64.wrap (IntKind.i64.wrap (a0+a2))) (2 ^ (min 1 IntKind.u64.bits))))+a1),a0,a1) else none
theorem XF(q1:Int→Int→Int→(List Edit)→Option (List Edit))(kq1:Kok Tryd.prog 49 true (Ju q1)):∀ g,Ju (KM q1) g→JP Tryd.prog 49 g:=by
 rintro _ ⟨a0,a1,a2,a3,r,H,rfl⟩
 refine xGn mixed [(32,XI)] [(49,true,(Ju q1)),(57,true,JY)] [] ⟨⟨JgF,JaP⟩,trivial⟩ ⟨kq1,Zo,trivial⟩ trivial Tryd.func49 _ ?_
 have G:=True.intro
 have Y:=xZ y_3 <| xZ y_24 <| xZ y_41 <| xZ y_88 <| xZ Tryd.results49 <| xZ Ja.eq_1 <| xZ Jq.eq_1 <| xZ JX.eq_1 <| Jq.eq_1
 dsimp only[Jq]
 simp only[KM]at H
 refine xS ?_
 refine xr ?_
 rcases Jd H with⟨hp1,H⟩|⟨hp1,H⟩
 ·obtain⟨F,G,hq1⟩:=xH Y G hp1
  refine xT ?_
  refine xr ?_
  refine xr ?_
  refine KQ (KC a0 a3) (fun s=>[(0,.c (.os 1 4 0 a3.length)),(1,.c (.d (.v (.int .i64 a0)))),(4,.c (.d (.v (.func (.func 32) #[] #[])))),(10,.c (.d (.v (.int .i64 s.1)))),(11,.c (.d (.v (.int .i64 s.2))))]) (fun s=>[[.arr 4 (List.map Ja a3)]]) [] H (xK ⟨[1],[]⟩) ?_
  rintro n1 ⟨x1,x2⟩ o1 H hF1
  rw[KC]at H
  refine xS ?_
  refine xr ?_
  rcases Jd H with⟨hp2,H⟩|⟨hp2,H⟩
  ·obtain⟨F,G,hq2⟩:=xH Y G hp2
   refine xT ?_
   obtain⟨hg1,H⟩:=Jc H
   refine xr ?_
   obtain⟨hg2,H⟩:=Jc H
   obtain⟨hg,H⟩:=Jc H
   have F:=xZ Y (Ji Ja a3 ((IntKind.i64.wrap (Int.fdiv (IntKind.u64.wrap (IntKind.i64.wrap (x1+x2))) (2 ^ (min 1 IntKind.u64.bits)))).toNat) default default (by omega))
   obtain⟨hg3,H⟩:=Jc H
   obtain⟨hg,H⟩:=Jc H
   have F:=xZ F (Ji Ja a3 a0.toNat default default (by omega))
   obtain⟨r1,hr1,H⟩:=Jl H
   have F:=xCf F (X4 (a3.getD ((IntKind.i64.wrap (Int.fdiv (IntKind.u64.wrap (IntKind.i64.wrap (x1+x2))) (2 ^ (min 1 IntKind.u64.bits)))).toNat) default) (a3.getD a0.toNat default) r1 hr1)
   refine xR ?_
   rcases Jd H with⟨hp3,H⟩|⟨hp3,H⟩
   ·obtain⟨F,G,hq3⟩:=xH Y G hp3
    refine xT ?_
    refine xr ?_
    exact JL (J3 H hF1) (xK ⟨[1],[]⟩)
   ·obtain⟨F,G,hq3⟩:=xH Y G hp3
    refine xE ?_
    refine xr ?_
    exact JL (J3 H hF1) (xK ⟨[1],[]⟩)
  ·obtain⟨F,G,hq2⟩:=xH Y G hp2
   replace H:=Jo H hF1
   refine xE ?_
   refine xr ?_
   refine KQ (KE x1) (fun s=>[(0,.c (.os 1 4 0 s.2.length)),(10,.c (.d (.v (.int .i64 x1)))),(13,.c (.d (.v (.int .i64 s.1))))]) (fun s=>[[.arr 4 (List.map Ja s.2)]]) [] H (xK ⟨[1],[]⟩) ?_
   rintro n2 ⟨x3,x4⟩ o2 H hF2
   rw[KE]at H
   refine xS ?_
   refine xr ?_
   rcases Jd H with⟨hp4,H⟩|⟨hp4,H⟩
   ·obtain⟨F,G,hq4⟩:=xH Y G hp4
    refine xT ?_
    obtain⟨hg4,H⟩:=Jc H
    obtain⟨hg,H⟩:=Jc H
    have F:=xZ Y (Ji Ja x4 ((IntKind.i64.wrap (x3+1)).toNat) default default (by omega))
    obtain⟨hg5,H⟩:=Jc H
    obtain⟨hg,H⟩:=Jc H
    have F:=xZ F (Ji Ja x4 x3.toNat default default (by omega))
    obtain⟨hg6,H⟩:=Jc H
    obtain⟨hg,H⟩:=Jc H
    have F:=xZ F (Ji Ja x4 x3.toNat default default (by omega))
    have F:=xZ F (XP Ja x4 x3.toNat)
    have F:=xZ F (XB Ja x4 (show x3.toNat<x4.length by omega))
    have F:=xZ F (XJ Ja x4 x3.toNat)
    obtain⟨hg7,H⟩:=Jc H
    obtain⟨hg,H⟩:=Jc H
    have F:=xZ F (Ji Ja (List.set x4 x3.toNat (x4.getD ((IntKind.i64.wrap (x3+1)).toNat) default)) ((IntKind.i64.wrap (x3+1)).toNat) default default (by omega))
    have F:=xZ F (by have h:=sget Ja x4 x3.toNat (x4.getD ((IntKind.i64.wrap (x3+1)).toNat) default) default ((IntKind.i64.wrap (x3+1)).toNat) (by simpa only[List.length_set] using hg) default; simp only[Ja]at h; exact h)
    have F:=xZ F (XP Ja (List.set x4 x3.toNat (x4.getD ((IntKind.i64.wrap (x3+1)).toNat) default)) ((IntKind.i64.wrap (x3+1)).toNat))
    have F:=xZ F (XB Ja (List.set x4 x3.toNat (x4.getD ((IntKind.i64.wrap (x3+1)).toNat) default)) (show(IntKind.i64.wrap (x3+1)).toNat<(List.set x4 x3.toNat (x4.getD ((IntKind.i64.wrap (x3+1)).toNat) default)).length by omega))
    have F:=xZ F (XJ Ja (List.set x4 x3.toNat (x4.getD ((IntKind.i64.wrap (x3+1)).toNat) default)) ((IntKind.i64.wrap (x3+1)).toNat))
    refine xR ?_
    refine xr ?_
    exact JL (J3 H hF2) (xK ⟨[1],[]⟩)
   ·obtain⟨F,G,hq4⟩:=xH Y G hp4
    replace H:=Jo H hF2
    replace H:=Option.some.inj H
    refine xE ?_
    subst H
    refine xrD [] ?_
    exact xO ⟨[1],[]⟩
 ·obtain⟨F,G,hq1⟩:=xH Y G hp1
  refine xE ?_
  refine xr ?_
  rcases Jd H with⟨hp5,H⟩|⟨hp5,H⟩
  ·obtain⟨F,G,hq5⟩:=xH Y G hp5
   refine xT ?_
   refine xr ?_
   refine xr ?_
   refine KQ (KA a1 a3) (fun s=>[(0,.c (.os 1 4 0 a3.length)),(2,.c (.d (.v (.int .i64 a1)))),(4,.c (.d (.v (.func (.func 32) #[] #[])))),(14,.c (.d (.v (.int .i64 s.1)))),(15,.c (.d (.v (.int .i64 s.2))))]) (fun s=>[[.arr 4 (List.map Ja a3)]]) [] H (xK ⟨[1],[]⟩) ?_
   rintro n3 ⟨x5,x6⟩ o3 H hF3
   rw[KA]at H
   refine xS ?_
   refine xr ?_
   rcases Jd H with⟨hp6,H⟩|⟨hp6,H⟩
   ·obtain⟨F,G,hq6⟩:=xH Y G hp6
    refine xT ?_
    obtain⟨hg8,H⟩:=Jc H
    refine xr ?_
    obtain⟨hg9,H⟩:=Jc H
    obtain⟨hg,H⟩:=Jc H
    have F:=xZ Y (Ji Ja a3 a1.toNat default default (by omega))
    obtain⟨hg10,H⟩:=Jc H
    obtain⟨hg,H⟩:=Jc H
    have F:=xZ F (Ji Ja a3 ((IntKind.i64.wrap (Int.fdiv (IntKind.u64.wrap (IntKind.i64.wrap (x5+x6))) (2 ^ (min 1 IntKind.u64.bits)))).toNat) default default (by omega))
    obtain⟨r2,hr2,H⟩:=Jl H
    have F:=xCf F (X4 (a3.getD a1.toNat default) (a3.getD ((IntKind.i64.wrap (Int.fdiv (IntKind.u64.wrap (IntKind.i64.wrap (x5+x6))) (2 ^ (min 1 IntKind.u64.bits)))).toNat) default) r2 hr2)
    refine xR ?_
    rcases Jd H with⟨hp7,H⟩|⟨hp7,H⟩
    ·obtain⟨F,G,hq7⟩:=xH Y G hp7
     refine xT ?_
     refine xr ?_
     exact JL (J3 H hF3) (xK ⟨[1],[]⟩)
    ·obtain⟨F,G,hq7⟩:=xH Y G hp7
     refine xE ?_
     refine xr ?_
     exact JL (J3 H hF3) (xK ⟨[1],[]⟩)
   ·obtain⟨F,G,hq6⟩:=xH Y G hp6
    replace H:=Jo H hF3
    refine xE ?_
    refine xr ?_
    refine KQ (KB x5) (fun s=>[(0,.c (.os 1 4 0 s.2.length)),(14,.c (.d (.v (.int .i64 x5)))),(17,.c (.d (.v (.int .i64 s.1))))]) (fun s=>[[.arr 4 (List.map Ja s.2)]]) [] H (xK ⟨[1],[]⟩) ?_
    rintro n4 ⟨x7,x8⟩ o4 H hF4
    rw[KB]at H
    refine xS ?_
    refine xr ?_
    rcases Jd H with⟨hp8,H⟩|⟨hp8,H⟩
    ·obtain⟨F,G,hq8⟩:=xH Y G hp8
     refine xT ?_
     obtain⟨hg11,H⟩:=Jc H
     obtain⟨hg,H⟩:=Jc H
     have F:=xZ Y (Ji Ja x8 ((IntKind.i64.wrap (x7-1)).toNat) default default (by omega))
     obtain⟨hg12,H⟩:=Jc H
     obtain⟨hg,H⟩:=Jc H
     have F:=xZ F (Ji Ja x8 x7.toNat default default (by omega))
     obtain⟨hg13,H⟩:=Jc H
     obtain⟨hg,H⟩:=Jc H
     have F:=xZ F (Ji Ja x8 x7.toNat default default (by omega))
     have F:=xZ F (XP Ja x8 x7.toNat)
     have F:=xZ F (XB Ja x8 (show x7.toNat<x8.length by omega))
     have F:=xZ F (XJ Ja x8 x7.toNat)
     obtain⟨hg14,H⟩:=Jc H
     obtain⟨hg,H⟩:=Jc H
     have F:=xZ F (Ji Ja (List.set x8 x7.toNat (x8.getD ((IntKind.i64.wrap (x7-1)).toNat) default)) ((IntKind.i64.wrap (x7-1)).toNat) default default (by omega))
     have F:=xZ F (by have h:=sget Ja x8 x7.toNat (x8.getD ((IntKind.i64.wrap (x7-1)).toNat) default) default ((IntKind.i64.wrap (x7-1)).toNat) (by simpa only[List.length_set] using hg) default; simp only[Ja]at h; exact h)
     have F:=xZ F (XP Ja (List.set x8 x7.toNat (x8.getD ((IntKind.i64.wrap (x7-1)).toNat) default)) ((IntKind.i64.wrap (x7-1)).toNat))
     have F:=xZ F (XB Ja (List.set x8 x7.toNat (x8.getD ((IntKind.i64.wrap (x7-1)).toNat) default)) (show(IntKind.i64.wrap (x7-1)).toNat<(List.set x8 x7.toNat (x8.getD ((IntKind.i64.wrap (x7-1)).toNat) default)).length by omega))
     have F:=xZ F (XJ Ja (List.set x8 x7.toNat (x8.getD ((IntKind.i64.wrap (x7-1)).toNat) default)) ((IntKind.i64.wrap (x7-1)).toNat))
     refine xR ?_
     refine xr ?_
     exact JL (J3 H hF4) (xK ⟨[1],[]⟩)
    ·obtain⟨F,G,hq8⟩:=xH Y G hp8
     replace H:=Jo H hF4
     replace H:=Option.some.inj H
     refine xE ?_
     subst H
     refine xrD [] ?_
     exact xO ⟨[1],[]⟩
  ·obtain⟨F,G,hq5⟩:=xH Y G hp5
   refine xE ?_
   obtain⟨hg15,H⟩:=Jc H
   refine xr ?_
   refine xr ?_
   refine xr0 ?_
   refine KL ?_
   refine Vw (J7 q1 a0 a1 a2 a3) (fun s=>[(0,.c (.os 1 4 0 a3.length)),(1,.c (.d (.v (.int .i64 a0)))),(2,.c (.d (.v (.int .i64 a1)))),(3,.c (.d (.v (.int .i64 a2)))),(4,.c (.d (.v (.func (.func 32) #[] #[])))),(18,.c (.d (.v (.int .i64 s.1)))),(19,.c (.d (.v (.int .i64 s.2.1)))),(20,.c (.d (.v (.int .i64 s.2.2.1)))),(21,.c (.d (.v (.int .i64 s.2.2.2))))]) (fun s=>[[.arr 4 (List.map Ja a3)]]) [] r ?_ ?_
   ·refine xS ?_
    refine xr ?_
    rcases Jd H with⟨hp17,H⟩|⟨hp17,H⟩
    ·obtain⟨F,G,hq17⟩:=xH Y G hp17
     refine xT ?_
     refine xr ?_
     refine xr ?_
     exact Jj H (xK ⟨[1],[]⟩)
    ·obtain⟨F,G,hq17⟩:=xH Y G hp17
     refine xE ?_
     refine xr ?_
     refine xr ?_
     exact Jj H (xK ⟨[1],[]⟩)
   ·rintro ⟨x9,x10,x11,x12⟩ H
    rw[J7]at H
    refine xS ?_
    refine xr ?_
    refine KQ (KD q1 a0 a1 a2 a3 x9 x10) (fun s=>[(0,.c (.os 1 4 0 a3.length)),(1,.c (.d (.v (.int .i64 a0)))),(2,.c (.d (.v (.int .i64 a1)))),(3,.c (.d (.v (.int .i64 a2)))),(4,.c (.d (.v (.func (.func 32) #[] #[])))),(18,.c (.d (.v (.int .i64 x9)))),(19,.c (.d (.v (.int .i64 x10)))),(20,.c (.d (.v (.int .i64 s.1)))),(21,.c (.d (.v (.int .i64 s.2.1)))),(22,.c (.d (.v (.int .i64 s.2.2))))]) (fun s=>[[.arr 4 (List.map Ja a3)]]) [] H (xK ⟨[1],[]⟩) ?_
    rintro n5 ⟨x13,x14,x15⟩ o5 H hF5
    rw[KD]at H
    refine xS ?_
    refine xr ?_
    rcases Jd H with⟨hp9,H⟩|⟨hp9,H⟩
    ·obtain⟨F,G,hq9⟩:=xH Y G hp9
     refine xT ?_
     obtain⟨hg16,H⟩:=Jc H
     refine xr ?_
     obtain⟨hg17,H⟩:=Jc H
     obtain⟨hg,H⟩:=Jc H
     have F:=xZ Y (Ji Ja a3 ((IntKind.i64.wrap (x15-(IntKind.i64.wrap (Int.fdiv (IntKind.u64.wrap (IntKind.i64.wrap (x13+x14))) (2 ^ (min 1 IntKind.u64.bits)))))).toNat) default default (by omega))
     obtain⟨hg18,H⟩:=Jc H
     obtain⟨hg,H⟩:=Jc H
     have F:=xZ F (Ji Ja a3 ((IntKind.i64.wrap (Int.fdiv (IntKind.u64.wrap (IntKind.i64.wrap (x13+x14))) (2 ^ (min 1 IntKind.u64.bits)))).toNat) default default (by omega))
     obtain⟨r3,hr3,H⟩:=Jl H
     have F:=xCf F (X4 (a3.getD ((IntKind.i64.wrap (x15-(IntKind.i64.wrap (Int.fdiv (IntKind.u64.wrap (IntKind.i64.wrap (x13+x14))) (2 ^ (min 1 IntKind.u64.bits)))))).toNat) default) (a3.getD ((IntKind.i64.wrap (Int.fdiv (IntKind.u64.wrap (IntKind.i64.wrap (x13+x14))) (2 ^ (min 1 IntKind.u64.bits)))).toNat) default) r3 hr3)
     refine xR ?_
     rcases Jd H with⟨hp10,H⟩|⟨hp10,H⟩
     ·obtain⟨F,G,hq10⟩:=xH Y G hp10
      refine xT ?_
      refine xr ?_
      exact JL (J3 H hF5) (xK ⟨[1],[]⟩)
     ·obtain⟨F,G,hq10⟩:=xH Y G hp10
      refine xE ?_
      refine xr ?_
      exact JL (J3 H hF5) (xK ⟨[1],[]⟩)
    ·obtain⟨F,G,hq9⟩:=xH Y G hp9
     replace H:=Jo H hF5
     refine xE ?_
     refine xr0 ?_
     refine KL ?_
     refine Vw (J9 q1 a0 a2 x9 x13) (fun s=>[(0,.c (.os 1 4 0 s.2.length)),(1,.c (.d (.v (.int .i64 a0)))),(3,.c (.d (.v (.int .i64 a2)))),(4,.c (.d (.v (.func (.func 32) #[] #[])))),(18,.c (.d (.v (.int .i64 x9)))),(20,.c (.d (.v (.int .i64 x13)))),(24,.c (.d (.v (.int .i64 s.1))))]) (fun s=>[[.arr 4 (List.map Ja s.2)]]) [] r ?_ ?_
     ·refine Vw (J4 q1 a0 a1 a2 a3 x9 x13) (fun s=>[(0,.c (.os 1 4 0 a3.length)),(1,.c (.d (.v (.int .i64 a0)))),(2,.c (.d (.v (.int .i64 a1)))),(3,.c (.d (.v (.int .i64 a2)))),(4,.c (.d (.v (.func (.func 32) #[] #[])))),(18,.c (.d (.v (.int .i64 x9)))),(20,.c (.d (.v (.int .i64 x13)))),(24,.c (.d (.v (.int .i64 s.1)))),(185,.c (.d (.v (.bool s.2))))]) (fun s=>[[.arr 4 (List.map Ja a3)]]) [] r ?_ ?_
      ·rcases Jd H with⟨hp16,H⟩|⟨hp16,H⟩
       ·obtain⟨F,G,hq16⟩:=xH Y G hp16
        refine xR ?_
        exact Jj H (xK ⟨[1],[]⟩)
       ·obtain⟨F,G,hq16⟩:=xH Y G hp16
        refine xR ?_
        exact Jj H (xK ⟨[1],[]⟩)
      ·rintro ⟨x21,x22⟩ H
       rw[J4]at H
       rcases Jd H with⟨hp15,H⟩|⟨hp15,H⟩
       ·obtain⟨F,G,hq15⟩:=xH Y G hp15
        refine xT ?_
        obtain⟨r6,hr6,H⟩:=Jl H
        have F:=Y
        obtain⟨hgl,H⟩:=Jc H
        have F:=xZ F hgl
        have G:=xZ G hgl
        refine xQ ?_
        refine xs 5 ?_
        refine xc ⟨[1],[]⟩ (tabG 1 (Zn x13 a1 x21 a3 r6 hr6)) ?_
        refine xl ?_
        refine xS ?_
        exact Jj H (xK ⟨[1],[]⟩)
       ·obtain⟨F,G,hq15⟩:=xH Y G hp15
        refine xE ?_
        exact Jj H (xK ⟨[1],[]⟩)
     ·rintro ⟨x16,x17⟩ H
      rw[J9]at H
      refine Vw (Ka q1 a2 x9 x16) (fun s=>[(0,.c (.os 1 4 0 s.length)),(3,.c (.d (.v (.int .i64 a2)))),(4,.c (.d (.v (.func (.func 32) #[] #[])))),(18,.c (.d (.v (.int .i64 x9)))),(24,.c (.d (.v (.int .i64 x16))))]) (fun s=>[[.arr 4 (List.map Ja s)]]) [] r ?_ ?_
      ·refine Vw (J5 q1 a0 a2 x9 x13 x16 x17) (fun s=>[(0,.c (.os 1 4 0 x17.length)),(1,.c (.d (.v (.int .i64 a0)))),(3,.c (.d (.v (.int .i64 a2)))),(4,.c (.d (.v (.func (.func 32) #[] #[])))),(18,.c (.d (.v (.int .i64 x9)))),(20,.c (.d (.v (.int .i64 x13)))),(24,.c (.d (.v (.int .i64 x16)))),(199,.c (.d (.v (.bool s))))]) (fun s=>[[.arr 4 (List.map Ja x17)]]) [] r ?_ ?_
       ·rcases Jd H with⟨hp14,H⟩|⟨hp14,H⟩
        ·obtain⟨F,G,hq14⟩:=xH Y G hp14
         refine xR ?_
         exact Jj H (xK ⟨[1],[]⟩)
        ·obtain⟨F,G,hq14⟩:=xH Y G hp14
         refine xR ?_
         exact Jj H (xK ⟨[1],[]⟩)
       ·rintro x20 H
        rw[J5]at H
        rcases Jd H with⟨hp13,H⟩|⟨hp13,H⟩
        ·obtain⟨F,G,hq13⟩:=xH Y G hp13
         refine xT ?_
         obtain⟨r5,hr5,H⟩:=Jl H
         have F:=Y
         obtain⟨hgl,H⟩:=Jc H
         have F:=xZ F hgl
         have G:=xZ G hgl
         refine xQ ?_
         refine xs 5 ?_
         refine xc ⟨[1],[]⟩ (tabG 0 (Kz q1 a0 x13 x9 x17 r5 hr5)) ?_
         refine xl ?_
         refine xS ?_
         exact Jj H (xK ⟨[1],[]⟩)
        ·obtain⟨F,G,hq13⟩:=xH Y G hp13
         refine xE ?_
         exact Jj H (xK ⟨[1],[]⟩)
      ·rintro x18 H
       rw[Ka]at H
       refine Vw (Kb q1 a2 x9 x16 x18) (fun s=>[(0,.c (.os 1 4 0 x18.length)),(3,.c (.d (.v (.int .i64 a2)))),(4,.c (.d (.v (.func (.func 32) #[] #[])))),(18,.c (.d (.v (.int .i64 x9)))),(24,.c (.d (.v (.int .i64 x16)))),(213,.c (.d (.v (.bool s))))]) (fun s=>[[.arr 4 (List.map Ja x18)]]) [] r ?_ ?_
       ·rcases Jd H with⟨hp12,H⟩|⟨hp12,H⟩
        ·obtain⟨F,G,hq12⟩:=xH Y G hp12
         refine xR ?_
         exact Jj H (xK ⟨[1],[]⟩)
        ·obtain⟨F,G,hq12⟩:=xH Y G hp12
         refine xR ?_
         exact Jj H (xK ⟨[1],[]⟩)
       ·rintro x19 H
        rw[Kb]at H
        rcases Jd H with⟨hp11,H⟩|⟨hp11,H⟩
        ·obtain⟨F,G,hq11⟩:=xH Y G hp11
         refine xT ?_
         obtain⟨r4,hr4,H⟩:=Jl H
         have F:=Y
         obtain⟨hgl,H⟩:=Jc H
         have F:=xZ F hgl
         have G:=xZ G hgl
         refine xQ ?_
         refine xs 5 ?_
         refine xc ⟨[1],[]⟩ (tabG 0 (Kz q1 x9 x16 a2 x18 r4 hr4)) ?_
         refine xl ?_
         replace H:=Option.some.inj H
         refine xS ?_
         subst H
         refine xnD [] ?_
         exact xO ⟨[1],[]⟩
        ·obtain⟨F,G,hq11⟩:=xH Y G hp11
         replace H:=Option.some.inj H
         refine xE ?_
         subst H
         refine xnD [] ?_
         exact xO ⟨[1],[]⟩
noncomputable def Kx:Nat→(Int→Int→Int→(List Edit)→Option (List Edit))
 | 0=>(fun _ _ _ _=>none)
 | n+1=>(KM (Kx n))
theorem K7:∀ n,Kok Tryd.prog 49 true (Ju (Kx n))
 | 0=>⟨Jgf,(by rintro _ ⟨_,_,_,_,_,H,_⟩; cases H),fun _=>by rintro _ ⟨_,_,_,_,_,_,rfl⟩; exact⟨_,_,_,rfl⟩⟩
 | n+1=>have h:=K7 n; ⟨Jgf,XF _ h,fun _=>by rintro _ ⟨_,_,_,_,_,_,rfl⟩; exact⟨_,_,_,rfl⟩⟩
noncomputable def JZ:Int→Int→Int→(List Edit)→Option (List Edit):=(Kx bigF)
def KK:GI→Prop:=Ju JZ
theorem Vo(a0:Int)(a1:Int)(a2:Int)(a3:List Edit)(r:(List Edit))(H:JZ a0 a1 a2 a3=some r):KK (Jq a0 a1 a2 a3 r):=Kz JZ a0 a1 a2 a3 r H
theorem XY:Kok Tryd.prog 49 true KK:=(K7 bigF)
noncomputable def Ki(x4:Int):(List Edit)→Option ((Int×(List Edit)) ⊕ (List Edit))
 | x9=>some (.inl (IntKind.i64.wrap (x4 * 2),x9))
noncomputable def KP(a0:Int)(x4:Int):(Int×Int×(List Edit))→Option ((Int×Int×(List Edit)) ⊕ ((Int×(List Edit)) ⊕ (List Edit)))
 | (x6,x7,x8)=>if(leI x7 a0)=true then(JZ x6 (IntKind.i64.wrap (x6+x4)) x7 x8).bind fun r3=>if r3.length=x8.length then some (.inl (x7,IntKind.i64.wrap (x7+(IntKind.i64.wrap (2 * x4))),r3)) else none else inrO (if(ltI (IntKind.i64.wrap (x6+x4)) a0)=true then(JZ x6 (IntKind.i64.wrap (x6+x4)) a0 x8).bind fun r4=>if r4.length=x8.length then Ki x4 r4 else none else Ki x4 x8)
noncomputable def Kj(a0:Int):(Int×(List Edit))→Option ((Int×(List Edit)) ⊕ (List Edit))
 | (x4,x5)=>if(ltI x4 a0)=true then Jz (KP a0 x4) (0,IntKind.i64.wrap (2 * x4),x5) else inrO (some x5)
noncomputable def JS(a0:Int):(Int×Int×(List Edit))→Option ((Int×Int×(List Edit)) ⊕ (List Edit))
 | (x1,x2,x3)=>if(leI x2 a0)=true then(Jt x1 x2 x3).bind fun r1=>if r1.length=x3.length then some (.inl (x2,IntKind.i64.wrap (x2+20),r1)) else none else inrO ((Jt x1 a0 x3).bind fun r2=>if r2.length=x3.length then Jz (Kj a0) (20,r2) else none)
noncomputable def JJ(a0:Int)(a1:List Edit):Option (List Edit) :=
 Jz (JS a0) (0,20,a1)
def JV(a0:Int)(a1:List Edit)(r:(List Edit)):GI :=
 ⟨[.c (.os 1 4 0 a1.length),.c (.d (.v (.int .i64 a0))),.c (.d (.v (.func (.func 32) #[] #[])))],[[.arr 4 (List.map Ja a1)]],[],.ret (.tu []) [[.arr 4 (List.map Ja r)]] []⟩
def JW:GI→Prop:=fun g=>∃ (a0:Int) (a1:List Edit) (r:(List Edit)),JJ a0 a1=some r∧g=JV a0 a1 r
theorem Zl(a0:Int)(a1:List Edit)(r:(List Edit))(H:JJ a0 a1=some r):JW (JV a0 a1 r):=⟨a0,a1,r,H,rfl⟩
theorem Zc:∀ g,JW g→JP Tryd.prog 38 g:=by
 rintro _ ⟨a0,a1,r,H,rfl⟩
 refine xGn mixed [] [(48,true,JA),(49,true,KK)] [] trivial ⟨Xq,XY,trivial⟩ trivial Tryd.func38 _ ?_
 have G:=True.intro
 have Y:=xZ Tryd.results38 <| xZ Ja.eq_1 <| xZ JB.eq_1 <| xZ Jq.eq_1 <| JV.eq_1
 dsimp only[JV]
 simp only[JJ]at H
 refine xS ?_
 refine xr ?_
 refine xr ?_
 refine KQ (JS a0) (fun s=>[(0,.c (.os 1 4 0 s.2.2.length)),(1,.c (.d (.v (.int .i64 a0)))),(2,.c (.d (.v (.func (.func 32) #[] #[])))),(6,.c (.d (.v (.int .i64 20)))),(7,.c (.d (.v (.int .i64 s.1)))),(8,.c (.d (.v (.int .i64 s.2.1))))]) (fun s=>[[.arr 4 (List.map Ja s.2.2)]]) [] H (xK ⟨[1],[]⟩) ?_
 rintro n1 ⟨x1,x2,x3⟩ o1 H hF1
 rw[JS]at H
 refine xS ?_
 refine xr ?_
 rcases Jd H with⟨hp1,H⟩|⟨hp1,H⟩
 ·obtain⟨F,G,hq1⟩:=xH Y G hp1
  refine xT ?_
  obtain⟨r1,hr1,H⟩:=Jl H
  have F:=Y
  obtain⟨hgl,H⟩:=Jc H
  have F:=xZ F hgl
  have G:=xZ G hgl
  refine xQ ?_
  refine xs 4 ?_
  refine xc ⟨[1],[]⟩ (tabG 0 (K5 x1 x2 x3 r1 hr1)) ?_
  refine xl ?_
  refine xS ?_
  refine xr ?_
  refine xr ?_
  exact JL (J3 H hF1) (xK ⟨[1],[]⟩)
 ·obtain⟨F,G,hq1⟩:=xH Y G hp1
  replace H:=Jo H hF1
  refine xE ?_
  obtain⟨r2,hr2,H⟩:=Jl H
  have F:=Y
  obtain⟨hgl,H⟩:=Jc H
  have F:=xZ F hgl
  have G:=xZ G hgl
  refine xQ ?_
  refine xs 4 ?_
  refine xc ⟨[1],[]⟩ (tabG 0 (K5 x1 a0 x3 r2 hr2)) ?_
  refine xl ?_
  refine xS ?_
  refine KQ (Kj a0) (fun s=>[(0,.c (.os 1 4 0 s.2.length)),(1,.c (.d (.v (.int .i64 a0)))),(2,.c (.d (.v (.func (.func 32) #[] #[])))),(6,.c (.d (.v (.int .i64 s.1))))]) (fun s=>[[.arr 4 (List.map Ja s.2)]]) [] H (xK ⟨[1],[]⟩) ?_
  rintro n2 ⟨x4,x5⟩ o2 H hF2
  rw[Kj]at H
  refine xS ?_
  refine xr ?_
  rcases Jd H with⟨hp2,H⟩|⟨hp2,H⟩
  ·obtain⟨F,G,hq2⟩:=xH Y G hp2
   refine xT ?_
   refine xr ?_
   refine KQ (KP a0 x4) (fun s=>[(0,.c (.os 1 4 0 s.2.2.length)),(1,.c (.d (.v (.int .i64 a0)))),(2,.c (.d (.v (.func (.func 32) #[] #[])))),(6,.c (.d (.v (.int .i64 x4)))),(7,.c (.d (.v (.int .i64 s.1)))),(8,.c (.d (.v (.int .i64 s.2.1))))]) (fun s=>[[.arr 4 (List.map Ja s.2.2)]]) [] H (xK ⟨[1],[]⟩) ?_
   rintro n3 ⟨x6,x7,x8⟩ o3 H hF3
   rw[KP]at H
   refine xS ?_
   refine xr ?_
   rcases Jd H with⟨hp3,H⟩|⟨hp3,H⟩
   ·obtain⟨F,G,hq3⟩:=xH Y G hp3
    refine xT ?_
    obtain⟨r3,hr3,H⟩:=Jl H
    have F:=Y
    obtain⟨hgl,H⟩:=Jc H
    have F:=xZ F hgl
    have G:=xZ G hgl
    refine xQ ?_
    refine xs 7 ?_
    refine xc ⟨[1],[]⟩ (tabG 1 (Vo x6 (IntKind.i64.wrap (x6+x4)) x7 x8 r3 hr3)) ?_
    refine xl ?_
    refine xS ?_
    refine xr ?_
    refine xr ?_
    exact JL (J3 H hF3) (xK ⟨[1],[]⟩)
   ·obtain⟨F,G,hq3⟩:=xH Y G hp3
    replace H:=Jo H hF3
    refine xE0 ?_
    refine JhV ?_
    refine JdM ?_
    refine Jc9 ?_
    refine Jda ?_
    refine KL ?_
    refine Vw (Ki x4) (fun s=>[(0,.c (.os 1 4 0 s.length)),(1,.c (.d (.v (.int .i64 a0)))),(2,.c (.d (.v (.func (.func 32) #[] #[])))),(6,.c (.d (.v (.int .i64 x4))))]) (fun s=>[[.arr 4 (List.map Ja s)]]) [] o2 ?_ ?_
    ·refine xS ?_
     refine xr ?_
     refine xr ?_
     rcases Jd H with⟨hp4,H⟩|⟨hp4,H⟩
     ·obtain⟨F,G,hq4⟩:=xH Y G hp4
      refine xT ?_
      obtain⟨r4,hr4,H⟩:=Jl H
      have F:=Y
      obtain⟨hgl,H⟩:=Jc H
      have F:=xZ F hgl
      have G:=xZ G hgl
      refine xQ ?_
      refine xs 5 ?_
      refine xc ⟨[1],[]⟩ (tabG 1 (Vo x6 (IntKind.i64.wrap (x6+x4)) a0 x8 r4 hr4)) ?_
      refine xl ?_
      refine xS ?_
      exact Jj H (xK ⟨[1],[]⟩)
     ·obtain⟨F,G,hq4⟩:=xH Y G hp4
      refine xE ?_
      exact Jj H (xK ⟨[1],[]⟩)
    ·rintro x9 H
     rw[Ki]at H
     refine xr ?_
     exact JL (J3 H hF2) (xK ⟨[1],[]⟩)
  ·obtain⟨F,G,hq2⟩:=xH Y G hp2
   replace H:=Jo H hF2
   replace H:=Option.some.inj H
   refine xE ?_
   subst H
   refine xnD [] ?_
   exact xO ⟨[1],[]⟩
theorem Zm:Je Tryd.prog 38∧(∀ g,JW g→JP Tryd.prog 38 g)∧(true=true→∀ g,JW g→∃ val bs ts,g.out=.ret val bs ts) :=
 ⟨JjT,Zc,fun _=>by rintro _ ⟨_,_,_,_,rfl⟩; exact⟨_,_,_,rfl⟩⟩
noncomputable def Jk(a0:List Edit):Option (List Edit) :=
 (JJ ((a0.length:Nat):Int) a0).bind fun r1=>if r1.length=a0.length then some r1 else none
def Jr(a0:List Edit)(r:(List Edit)):GI :=
 ⟨[.c (.os 1 4 0 a0.length),.c (.d (.v (.func (.func 32) #[] #[])))],[[.arr 4 (List.map Ja a0)]],[],.ret (.tu []) [[.arr 4 (List.map Ja r)]] []⟩
def Js:GI→Prop:=fun g=>∃ (a0:List Edit) (r:(List Edit)),Jk a0=some r∧g=Jr a0 r
theorem VP(a0:List Edit)(r:(List Edit))(H:Jk a0=some r):Js (Jr a0 r):=⟨a0,r,H,rfl⟩
theorem VN:∀ g,Js g→JP Tryd.prog 31 g:=by
 rintro _ ⟨a0,r,H,rfl⟩
 refine xGn mixed [] [(38,true,JW)] [] trivial ⟨Zm,trivial⟩ trivial Tryd.func31 _ ?_
 have G:=True.intro
 have Y:=xZ y_24 <| xZ y_41 <| xZ Tryd.results31 <| xZ Ja.eq_1 <| xZ JV.eq_1 <| Jr.eq_1
 dsimp only[Jr]
 simp only[Jk]at H
 obtain⟨r1,hr1,H⟩:=Jl H
 have F:=Y
 obtain⟨hgl,H⟩:=Jc H
 have F:=xZ F hgl
 have G:=xZ G hgl
 refine xQ ?_
 refine xs 4 ?_
 refine xc ⟨[1],[]⟩ (tabG 0 (Zl ((a0.length:Nat):Int) a0 r1 hr1)) ?_
 refine xl ?_
 replace H:=Option.some.inj H
 refine xS ?_
 subst H
 refine xnD [] ?_
 exact xO ⟨[1],[]⟩
theorem VO:Je Tryd.prog 31∧(∀ g,Js g→JP Tryd.prog 31 g)∧(true=true→∀ g,Js g→∃ val bs ts,g.out=.ret val bs ts) :=
 ⟨JjA,VN,fun _=>by rintro _ ⟨_,_,_,rfl⟩; exact⟨_,_,_,rfl⟩⟩
noncomputable def Kf(x1:Int)(x2:Int):Bool→Option ((Int×Int) ⊕ ((List Source)×Int))
 | x9=>if x9=true then inrO (some (([]:List Source),8)) else some (.inl (x1,IntKind.i64.wrap (x2+1)))
noncomputable def KG(r4:(List Edit))(x1:Int)(x2:Int)(x4:Int)(x5:Int):Bool→Option ((Int×Int) ⊕ ((List Source)×Int))
 | x8=>if x8=true then inrO (some (([]:List Source),3)) else if(ltI 0 x2)=true then if(0:Int)≤(IntKind.i64.wrap (x2-1))∧(IntKind.i64.wrap (x2-1)).toNat<r4.length then if(IntKind.i64.wrap (x2-1)).toNat<r4.length then if(eqI ((r4.getD ((IntKind.i64.wrap (x2-1)).toNat) default).File) x4)=true then if(0:Int)≤(IntKind.i64.wrap (x2-1))∧(IntKind.i64.wrap (x2-1)).toNat<r4.length then if(IntKind.i64.wrap (x2-1)).toNat<r4.length then if(ltI x5 ((r4.getD ((IntKind.i64.wrap (x2-1)).toNat) default).To))=true then Kf x1 x2 true else if(0:Int)≤(IntKind.i64.wrap (x2-1))∧(IntKind.i64.wrap (x2-1)).toNat<r4.length then if(IntKind.i64.wrap (x2-1)).toNat<r4.length then Kf x1 x2 (eqI ((r4.getD ((IntKind.i64.wrap (x2-1)).toNat) default).From) x5) else none else none else none else none else Kf x1 x2 false else none else none else Kf x1 x2 false
noncomputable def Vb(a0:List Source)(r4:(List Edit))(x1:Int)(x2:Int):(Bool×Int×Int×Int×(List UInt8))→Option ((Int×Int) ⊕ ((List Source)×Int))
 | (x3,x4,x5,x6,x7)=>if x3=true then inrO (some (([]:List Source),6)) else if(ltI x5 0)=true then KG r4 x1 x2 x4 x5 true else if(ltI x6 x5)=true then KG r4 x1 x2 x4 x5 true else if(0:Int)≤x4∧x4.toNat<a0.length then KG r4 x1 x2 x4 x5 (ltI (((a0.getD x4.toNat default).Text).length:Int) x6) else none
noncomputable def VF(x11:List Source):(Int×Int)→Option ((Int×Int) ⊕ ((List Source)×Int))
 | (x12,x13)=>if(ltI x13 x12)=true then if(0:Int)≤x13∧x13.toNat<x11.length then if x13.toNat<x11.length then if(ltI 3000 (((x11.getD x13.toNat default).Text).length:Int))=true then inrO (some (([]:List Source),4)) else some (.inl (x12,IntKind.i64.wrap (x13+1))) else none else none else inrO (some (x11,0))
noncomputable def Ke(r4:(List Edit)):(Int×(List Source))→Option ((Int×(List Source)) ⊕ ((List Source)×Int))
 | (x10,x11)=>if(leI 0 x10)=true then if(0:Int)≤x10∧x10.toNat<r4.length then if x10.toNat<r4.length then if(0:Int)≤((r4.getD x10.toNat default).File)∧((r4.getD x10.toNat default).File).toNat<x11.length then if((r4.getD x10.toNat default).File).toNat<x11.length then if(ltI 3000 (((r4.getD x10.toNat default).Text).length:Int))=true then inrO (some (([]:List Source),4)) else if(0:Int)≤0∧0≤((r4.getD x10.toNat default).From)∧((r4.getD x10.toNat default).From)≤(((x11.getD (((r4.getD x10.toNat default).File).toNat) default).Text).length:Int) then if(List.take (((r4.getD x10.toNat default).From).toNat) ((x11.getD (((r4.getD x10.toNat default).File).toNat) default).Text)).length+((r4.getD x10.toNat default).Text).length≤9223372036854775807 then if(0:Int)≤((r4.getD x10.toNat default).To)∧((r4.getD x10.toNat default).To)≤(((x11.getD (((r4.getD x10.toNat default).File).toNat) default).Text).length:Int)∧(((x11.getD (((r4.getD x10.toNat default).File).toNat) default).Text).length:Int)≤(((x11.getD (((r4.getD x10.toNat default).File).toNat) default).Text).length:Int) then if(List.take (((r4.getD x10.toNat default).From).toNat) ((x11.getD (((r4.getD x10.toNat default).File).toNat) default).Text)).length+((r4.getD x10.toNat default).Text).length+(List.drop (((r4.getD x10.toNat default).To).toNat) ((x11.getD (((r4.getD x10.toNat default).File).toNat) default).Text)).length≤9223372036854775807 then if(0:Int)≤((r4.getD x10.toNat default).File)∧((r4.getD x10.toNat default).File).toNat<x11.length then if((r4.getD x10.toNat default).File).toNat<x11.length then some (.inl (IntKind.i64.wrap (x10-1),List.set x11 (((r4.getD x10.toNat default).File).toNat) (⟨(x11.getD (((r4.getD x10.toNat default).File).toNat) default).Path,((List.take (((r4.getD x10.toNat default).From).toNat) ((x11.getD (((r4.getD x10.toNat default).File).toNat) default).Text))++((r4.getD x10.toNat default).Text))++(List.drop (((r4.getD x10.toNat default).To).toNat) ((x11.getD (((r4.getD x10.toNat default).File).toNat) default).Text))⟩:Source))) else none else none else none else none else none else none else none else none else none else none else inrO (Jz (VF x11) (((x11.length:Nat):Int),0))
noncomputable def VJ(a0:List Source)(r4:(List Edit)):(Int×Int)→Option ((Int×Int) ⊕ ((List Source)×Int))
 | (x1,x2)=>if(ltI x2 x1)=true then if(0:Int)≤x2∧x2.toNat<r4.length then if x2.toNat<r4.length then if(ltI ((r4.getD x2.toNat default).File) 0)=true then Vb a0 r4 x1 x2 (true,(r4.getD x2.toNat default).File,(r4.getD x2.toNat default).From,(r4.getD x2.toNat default).To,(r4.getD x2.toNat default).Text) else Vb a0 r4 x1 x2 (leI (a0.length:Int) ((r4.getD x2.toNat default).File),(r4.getD x2.toNat default).File,(r4.getD x2.toNat default).From,(r4.getD x2.toNat default).To,(r4.getD x2.toNat default).Text) else none else none else inrO (Jz (Ke r4) (IntKind.i64.wrap (((r4.length:Nat):Int)-1),a0))
noncomputable def KV(a0:List Source)(a1:List Edit):Option ((List Source)×Int) :=
 (VL a0).bind fun r1=>if(!eqI r1.Err 0)=true then some (([]:List Source),r1.Err) else(JN a0).bind fun r2=>(JT a1).bind fun r3=>(Jk a1).bind fun r4=>if r4.length=a1.length then Jz (VJ a0 r4) (((a1.length:Nat):Int),0) else none
noncomputable def Xs:PF:=PF.of (E2 (dL 2 Jb) (dL 4 Ja)) (fun a=>KV a.1 a.2) (T2 (dL 2 Jb) dI)
theorem Jav:Kd Tryd.prog 17 Xs:=by
 refine xF mixed [(9,XE)] [(29,true,JE),(30,true,JI),(31,true,Js)] ⟨⟨Jhv,JaS⟩,trivial⟩ ⟨XM,XT,VO,trivial⟩ Tryd.func17 ?_
 rintro ⟨a0,a1⟩ out H
 have G:=True.intro
 have Y:=xZ y_3 <| xZ y_9 <| xZ y_23 <| xZ y_24 <| xZ y_26 <| xZ y_28 <| xZ y_33 <| xZ y_41 <| xZ Tryd.results17 <| xZ Jb.eq_1 <| xZ Ja.eq_1 <| xZ VB.eq_1 <| xZ Kw.eq_1 <| xZ KF.eq_1 <| Jr.eq_1
 simp only[KV]at H
 refine xS ?_
 refine xr ?_
 obtain⟨r1,hr1,H⟩:=Jl H
 have F:=xC Y (Jbp a0 r1 hr1)
 refine xR ?_
 refine xr ?_
 rcases Jd H with⟨hp1,H⟩|⟨hp1,H⟩
 ·obtain⟨F,G,hq1⟩:=xH Y G hp1
  refine xT ?_
  replace H:=Option.some.inj H
  refine xr ?_
  subst H
  exact xN
 ·obtain⟨F,G,hq1⟩:=xH Y G hp1
  refine xE ?_
  obtain⟨r2,hr2,H⟩:=Jl H
  have F:=Y
  refine xQ ?_
  refine xs 1 ?_
  refine xc ⟨[],[]⟩ (tabG 0 (XG a0 r2 hr2)) ?_
  refine xs 1 ?_
  refine xl ?_
  refine xS ?_
  obtain⟨r3,hr3,H⟩:=Jl H
  have F:=Y
  refine xQ ?_
  refine xs 1 ?_
  refine xc ⟨[],[]⟩ (tabG 1 (XX a1 r3 hr3)) ?_
  refine xs 1 ?_
  refine xl ?_
  refine xS ?_
  obtain⟨r4,hr4,H⟩:=Jl H
  have F:=Y
  obtain⟨hgl,H⟩:=Jc H
  have F:=xZ F hgl
  have G:=xZ G hgl
  refine xQ ?_
  refine xs 1 ?_
  refine xc ⟨[3],[]⟩ (tabG 2 (VP a1 r4 hr4)) ?_
  refine xl ?_
  refine xS ?_
  refine xr ?_
  refine KQ (VJ a0 r4) (fun s=>[(0,.c (.d (.sl 2 (List.map Jb a0)))),(7,.c (.os 1 2 0 a0.length)),(8,.c (.os 2 4 0 r4.length)),(29,.c (.os 2 4 0 r4.length)),(30,.c (.d (.v (.int .i64 s.1)))),(31,.c (.d (.v (.int .i64 s.2))))]) (fun s=>[[.arr 2 (List.map Jb a0)],[.arr 4 (List.map Ja r4)]]) [] H (xK ⟨[2,3],[]⟩) ?_
  rintro n1 ⟨x1,x2⟩ o1 H hF1
  rw[VJ]at H
  refine xS ?_
  refine xr ?_
  rcases Jd H with⟨hp2,H⟩|⟨hp2,H⟩
  ·obtain⟨F,G,hq2⟩:=xH Y G hp2
   refine xT ?_
   obtain⟨hg1,H⟩:=Jc H
   obtain⟨hg,H⟩:=Jc H
   have F:=xZ Y (Ji Ja r4 x2.toNat default default (by omega))
   refine xR0 ?_
   refine KL ?_
   refine Jca ?_
   refine Vw (Vb a0 r4 x1 x2) (fun s=>[(0,.c (.d (.sl 2 (List.map Jb a0)))),(7,.c (.os 1 2 0 a0.length)),(8,.c (.os 2 4 0 r4.length)),(9,.c (.d (.v (.int .i64 x2)))),(10,.c (.pt 3 0)),(29,.c (.os 2 4 0 r4.length)),(30,.c (.d (.v (.int .i64 x1)))),(31,.c (.d (.v (.int .i64 x2)))),(45,.c (.d (.v (.bool s.1))))]) (fun s=>[[.arr 2 (List.map Jb a0)],[.arr 4 (List.map Ja r4)],[.d (.v (.int .i64 s.2.1)),.d (.v (.int .i64 s.2.2.1)),.d (.v (.int .i64 s.2.2.2.1)),.d (.v (str s.2.2.2.2))]]) [] o1 ?_ ?_
   ·rcases Jd H with⟨hp11,H⟩|⟨hp11,H⟩
    ·obtain⟨F,G,hq11⟩:=xH Y G hp11
     refine xR ?_
     exact Jj H (xK ⟨[1,2,3],[]⟩)
    ·obtain⟨F,G,hq11⟩:=xH Y G hp11
     refine xR ?_
     exact Jj H (xK ⟨[1,2,3],[]⟩)
   ·rintro ⟨x3,x4,x5,x6,x7⟩ H
    rw[Vb]at H
    rcases Jd H with⟨hp3,H⟩|⟨hp3,H⟩
    ·obtain⟨F,G,hq3⟩:=xH Y G hp3
     refine xT ?_
     replace H:=Jo H hF1
     replace H:=Option.some.inj H
     refine xr ?_
     subst H
     exact xN
    ·obtain⟨F,G,hq3⟩:=xH Y G hp3
     refine xE0 ?_
     refine JfQ ?_
     refine KL ?_
     refine Jca ?_
     refine Vw (KG r4 x1 x2 x4 x5) (fun s=>[(0,.c (.d (.sl 2 (List.map Jb a0)))),(7,.c (.os 1 2 0 a0.length)),(8,.c (.os 2 4 0 r4.length)),(9,.c (.d (.v (.int .i64 x2)))),(10,.c (.pt 3 0)),(29,.c (.os 2 4 0 r4.length)),(30,.c (.d (.v (.int .i64 x1)))),(31,.c (.d (.v (.int .i64 x2)))),(67,.c (.d (.v (.bool s))))]) (fun s=>[[.arr 2 (List.map Jb a0)],[.arr 4 (List.map Ja r4)],[.d (.v (.int .i64 x4)),.d (.v (.int .i64 x5)),.d (.v (.int .i64 x6)),.d (.v (str x7))]]) [] o1 ?_ ?_
     ·rcases Jd H with⟨hp9,H⟩|⟨hp9,H⟩
      ·obtain⟨F,G,hq9⟩:=xH Y G hp9
       refine xR ?_
       exact Jj H (xK ⟨[1,2,3],[]⟩)
      ·obtain⟨F,G,hq9⟩:=xH Y G hp9
       rcases Jd H with⟨hp10,H⟩|⟨hp10,H⟩
       ·obtain⟨F,G,hq10⟩:=xH F G hp10
        refine xR ?_
        exact Jj H (xK ⟨[1,2,3],[]⟩)
       ·obtain⟨F,G,hq10⟩:=xH F G hp10
        obtain⟨hg5,H⟩:=Jc H
        have F:=xZ F (Ji Jb a0 x4.toNat default default (by omega))
        refine xR ?_
        exact Jj H (xK ⟨[1,2,3],[]⟩)
     ·rintro x8 H
      rw[KG]at H
      rcases Jd H with⟨hp4,H⟩|⟨hp4,H⟩
      ·obtain⟨F,G,hq4⟩:=xH Y G hp4
       refine xT ?_
       replace H:=Jo H hF1
       replace H:=Option.some.inj H
       refine xr ?_
       subst H
       exact xN
      ·obtain⟨F,G,hq4⟩:=xH Y G hp4
       refine xE0 ?_
       refine JfQ ?_
       refine KL ?_
       refine Vw (Kf x1 x2) (fun s=>[(0,.c (.d (.sl 2 (List.map Jb a0)))),(7,.c (.os 1 2 0 a0.length)),(8,.c (.os 2 4 0 r4.length)),(29,.c (.os 2 4 0 r4.length)),(30,.c (.d (.v (.int .i64 x1)))),(31,.c (.d (.v (.int .i64 x2)))),(102,.c (.d (.v (.bool s))))]) (fun s=>[[.arr 2 (List.map Jb a0)],[.arr 4 (List.map Ja r4)]]) [] o1 ?_ ?_
       ·rcases Jd H with⟨hp6,H⟩|⟨hp6,H⟩
        ·obtain⟨F,G,hq6⟩:=xH Y G hp6
         obtain⟨hg2,H⟩:=Jc H
         obtain⟨hg,H⟩:=Jc H
         have F:=xZ F (Ji Ja r4 ((IntKind.i64.wrap (x2-1)).toNat) default default (by omega))
         rcases Jd H with⟨hp7,H⟩|⟨hp7,H⟩
         ·obtain⟨F,G,hq7⟩:=xH F G hp7
          obtain⟨hg3,H⟩:=Jc H
          obtain⟨hg,H⟩:=Jc H
          have F:=xZ F (Ji Ja r4 ((IntKind.i64.wrap (x2-1)).toNat) default default (by omega))
          rcases Jd H with⟨hp8,H⟩|⟨hp8,H⟩
          ·obtain⟨F,G,hq8⟩:=xH F G hp8
           refine xR ?_
           exact Jj H (xK ⟨[1,2],[]⟩)
          ·obtain⟨F,G,hq8⟩:=xH F G hp8
           obtain⟨hg4,H⟩:=Jc H
           obtain⟨hg,H⟩:=Jc H
           have F:=xZ F (Ji Ja r4 ((IntKind.i64.wrap (x2-1)).toNat) default default (by omega))
           refine xR ?_
           exact Jj H (xK ⟨[1,2],[]⟩)
         ·obtain⟨F,G,hq7⟩:=xH F G hp7
          refine xR ?_
          exact Jj H (xK ⟨[1,2],[]⟩)
        ·obtain⟨F,G,hq6⟩:=xH Y G hp6
         refine xR ?_
         exact Jj H (xK ⟨[1,2],[]⟩)
       ·rintro x9 H
        rw[Kf]at H
        rcases Jd H with⟨hp5,H⟩|⟨hp5,H⟩
        ·obtain⟨F,G,hq5⟩:=xH Y G hp5
         refine xT ?_
         replace H:=Jo H hF1
         replace H:=Option.some.inj H
         refine xr ?_
         subst H
         exact xN
        ·obtain⟨F,G,hq5⟩:=xH Y G hp5
         refine xE ?_
         refine xr ?_
         exact JL (J3 H hF1) (xK ⟨[1,2],[]⟩)
  ·obtain⟨F,G,hq2⟩:=xH Y G hp2
   replace H:=Jo H hF1
   refine xE ?_
   refine xr ?_
   refine KQ (Ke r4) (fun s=>[(7,.c (.os 1 2 0 s.2.length)),(8,.c (.os 2 4 0 r4.length)),(11,.c (.d (.v (.int .i64 s.1))))]) (fun s=>[[.arr 2 (List.map Jb s.2)],[.arr 4 (List.map Ja r4)]]) [] H (xK ⟨[1,2],[]⟩) ?_
   rintro n2 ⟨x10,x11⟩ o2 H hF2
   rw[Ke]at H
   refine xS ?_
   refine xr ?_
   rcases Jd H with⟨hp12,H⟩|⟨hp12,H⟩
   ·obtain⟨F,G,hq12⟩:=xH Y G hp12
    refine xT ?_
    obtain⟨hg6,H⟩:=Jc H
    obtain⟨hg,H⟩:=Jc H
    have F:=xZ Y (Ji Ja r4 x10.toNat default default (by omega))
    refine xR ?_
    obtain⟨hg7,H⟩:=Jc H
    obtain⟨hg,H⟩:=Jc H
    have F:=xZ Y (Ji Jb x11 (((r4.getD x10.toNat default).File).toNat) default default (by omega))
    refine xR ?_
    refine xr ?_
    rcases Jd H with⟨hp13,H⟩|⟨hp13,H⟩
    ·obtain⟨F,G,hq13⟩:=xH Y G hp13
     refine xT ?_
     replace H:=Jo H hF2
     replace H:=Option.some.inj H
     refine xr ?_
     subst H
     exact xN
    ·obtain⟨F,G,hq13⟩:=xH Y G hp13
     refine xE ?_
     obtain⟨hg8,H⟩:=Jc H
     obtain⟨hg9,H⟩:=Jc H
     obtain⟨hg10,H⟩:=Jc H
     obtain⟨hg11,H⟩:=Jc H
     obtain⟨hg12,H⟩:=Jc H
     obtain⟨hg,H⟩:=Jc H
     have F:=xZ Y (Ji Jb x11 (((r4.getD x10.toNat default).File).toNat) default default (by omega))
     have F:=xZ F (XP Jb x11 (((r4.getD x10.toNat default).File).toNat))
     have F:=xZ F (XB Jb x11 (show((r4.getD x10.toNat default).File).toNat<x11.length by omega))
     have F:=xZ F (XJ Jb x11 (((r4.getD x10.toNat default).File).toNat))
     refine xR ?_
     refine xr ?_
     exact JL (J3 H hF2) (xK ⟨[1,2],[]⟩)
   ·obtain⟨F,G,hq12⟩:=xH Y G hp12
    replace H:=Jo H hF2
    refine xE ?_
    refine xr ?_
    refine KQ (VF x11) (fun s=>[(7,.c (.os 1 2 0 x11.length)),(142,.c (.os 1 2 0 x11.length)),(143,.c (.d (.v (.int .i64 s.1)))),(144,.c (.d (.v (.int .i64 s.2))))]) (fun s=>[[.arr 2 (List.map Jb x11)]]) [] H (xK ⟨[1],[]⟩) ?_
    rintro n3 ⟨x12,x13⟩ o3 H hF3
    rw[VF]at H
    refine xS ?_
    refine xr ?_
    rcases Jd H with⟨hp14,H⟩|⟨hp14,H⟩
    ·obtain⟨F,G,hq14⟩:=xH Y G hp14
     refine xT ?_
     obtain⟨hg13,H⟩:=Jc H
     obtain⟨hg,H⟩:=Jc H
     have F:=xZ Y (Ji Jb x11 x13.toNat default default (by omega))
     refine xR ?_
     refine xr ?_
     rcases Jd H with⟨hp15,H⟩|⟨hp15,H⟩
     ·obtain⟨F,G,hq15⟩:=xH Y G hp15
      refine xT ?_
      replace H:=Jo H hF3
      replace H:=Option.some.inj H
      refine xr ?_
      subst H
      exact xN
     ·obtain⟨F,G,hq15⟩:=xH Y G hp15
      refine xE ?_
      refine xr ?_
      exact JL (J3 H hF3) (xK ⟨[1],[]⟩)
    ·obtain⟨F,G,hq14⟩:=xH Y G hp14
     replace H:=Jo H hF3
     refine xE ?_
     replace H:=Option.some.inj H
     refine xr ?_
     subst H
     refine xNf 1 2 (List.map Jb x11) [] ?_
     exact xN
theorem ZN(a0:List Source)(a1:List Edit)(r:(List Source)×Int)(H:KV a0 a1=some r):PC Xs [(dL 2 Jb) a0,(dL 4 Ja) a1] (T2 (dL 2 Jb) dI r):=PF.c (a:=(a0,a1)) H
end Go.Proofs.YtfkhlbhjhdpkoaaDoor
