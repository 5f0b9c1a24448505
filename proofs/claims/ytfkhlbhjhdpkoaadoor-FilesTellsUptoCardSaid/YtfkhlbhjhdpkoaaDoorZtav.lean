/- Functions of data for functions of the program. Written by dec3.py. -/
import Derived.Test.YtfkhlbhjhdpkoaaDoorZtan
import Derived.Test.YtfkhlbhjhdpkoaaDoorZtau
set_option linter.unusedVariables false
set_option linter.unusedSimpArgs false
set_option maxHeartbeats 4000000
set_option maxRecDepth 100000
namespace Go.Proofs.YtfkhlbhjhdpkoaaDoor
open Go.RowKit
noncomputable def Xt(a0:Int):Option Bool :=
 some (!eqI a0 a0)
noncomputable def Jat:PF:=PF.of (E1 dI) (fun a=>Xt a) dB
theorem JeD:J7 Tryd.prog 50 Jat:=by
 refine xF mixed [] [] trivial trivial Tryd.func50 ?_
 rintro a0 out H
 have G:=True.intro
 have Y:=Tryd.results50
 simp only[Xt]at H
 refine xS ?_
 refine xr ?_
 replace H:=Option.some.inj H
 refine xr ?_
 subst H
 exact xN
theorem Jcg(a0:Int)(r:Bool)(H:Xt a0=some r):PC Jat [dI a0] (dB r):=PF.c (a:=a0) H
noncomputable def Vd(a0:Int)(a1:Int):Option Int :=
 (Xt a0).bind fun r1=>(Xt a1).bind fun r2=>if r1=true then if r2=true then some 0 else some (-1) else if r2=true then some 1 else if(ltI a0 a1)=true then some (-1) else if(ltI a1 a0)=true then some 1 else some 0
noncomputable def ZC:PF:=PF.of (E2 dI dI) (fun a=>Vd a.1 a.2) dI
theorem JdG:J7 Tryd.prog 40 ZC:=by
 refine xF mixed [(50,Jat)] [] ⟨⟨Jmc,JeD⟩,trivial⟩ trivial Tryd.func40 ?_
 rintro ⟨a0,a1⟩ out H
 have G:=True.intro
 have Y:=Tryd.results40
 simp only[Vd]at H
 refine xS ?_
 refine xr ?_
 obtain⟨r1,hr1,H⟩:=Jr H
 have F:=xC Y (Jcg a0 r1 hr1)
 refine xR ?_
 obtain⟨r2,hr2,H⟩:=Jr H
 have F:=xC Y (Jcg a1 r2 hr2)
 refine xR ?_
 refine xr ?_
 rcases Jc H with⟨hp1,H⟩|⟨hp1,H⟩
 ·obtain⟨F,G,hq1⟩:=xH Y G hp1
  refine xT ?_
  refine xr ?_
  rcases Jc H with⟨hp2,H⟩|⟨hp2,H⟩
  ·obtain⟨F,G,hq2⟩:=xH Y G hp2
   refine xT ?_
   replace H:=Option.some.inj H
   refine xr ?_
   subst H
   exact xN
  ·obtain⟨F,G,hq2⟩:=xH Y G hp2
   refine xE ?_
   replace H:=Option.some.inj H
   refine xr ?_
   subst H
   exact xN
 ·obtain⟨F,G,hq1⟩:=xH Y G hp1
  refine xE ?_
  refine xr ?_
  rcases Jc H with⟨hp3,H⟩|⟨hp3,H⟩
  ·obtain⟨F,G,hq3⟩:=xH Y G hp3
   refine xT ?_
   replace H:=Option.some.inj H
   refine xr ?_
   subst H
   exact xN
  ·obtain⟨F,G,hq3⟩:=xH Y G hp3
   refine xE ?_
   refine xr ?_
   rcases Jc H with⟨hp4,H⟩|⟨hp4,H⟩
   ·obtain⟨F,G,hq4⟩:=xH Y G hp4
    refine xT ?_
    replace H:=Option.some.inj H
    refine xr ?_
    subst H
    exact xN
   ·obtain⟨F,G,hq4⟩:=xH Y G hp4
    refine xE ?_
    refine xr ?_
    rcases Jc H with⟨hp5,H⟩|⟨hp5,H⟩
    ·obtain⟨F,G,hq5⟩:=xH Y G hp5
     refine xT ?_
     replace H:=Option.some.inj H
     refine xr ?_
     subst H
     exact xN
    ·obtain⟨F,G,hq5⟩:=xH Y G hp5
     refine xE ?_
     replace H:=Option.some.inj H
     refine xr ?_
     subst H
     exact xN
theorem Z9(a0:Int)(a1:Int)(r:Int)(H:Vd a0 a1=some r):PC ZC [dI a0,dI a1] (dI r):=PF.c (a:=(a0,a1)) H
noncomputable def VA(a0:List Int):(Int×Int)→Option ((Int×Int) ⊕ Int)
 | (x1,x2)=>if(ltI x2 x1)=true then if(0:Int)≤x2∧x2.toNat<a0.length then if(!eqI (a0.getD x2.toNat default) 0)=true then inrO (some (a0.getD x2.toNat default)) else some (.inl (x1,IntKind.i64.wrap (x2+1))) else none else inrO (some 0)
noncomputable def ZT(a0:List Int):Option Int :=
 Ji (VA a0) ((a0.length:Int),0)
noncomputable def Jbz:PF:=PF.of (E1 (dL 1 dI)) (fun a=>ZT a) dI
theorem Jhf:J7 Tryd.prog 39 Jbz:=by
 refine xF mixed [] [] trivial trivial Tryd.func39 ?_
 rintro a0 out H
 have G:=True.intro
 have Y:=xZ y_3 <| xZ y_81 <| Tryd.results39
 simp only[ZT]at H
 refine xS ?_
 refine xr ?_
 refine xr ?_
 refine xr ?_
 refine Kc (VA a0) (fun s=>[(3,.c (.d (.v (.int .i64 0)))),(6,.c (.d (.sl 1 (List.map dI a0)))),(7,.c (.d (.v (.int .i64 s.1)))),(8,.c (.d (.v (.int .i64 s.2))))]) (fun s=>[]) [] H (xK ⟨[],[]⟩) ?_
 rintro n1 ⟨x1,x2⟩ o1 H hF1
 rw[VA]at H
 refine xS ?_
 refine xr ?_
 rcases Jc H with⟨hp1,H⟩|⟨hp1,H⟩
 ·obtain⟨F,G,hq1⟩:=xH Y G hp1
  refine xT ?_
  obtain⟨hg1,H⟩:=Jd H
  have F:=xZ Y (Jf dI a0 x2.toNat default default (by omega))
  refine xR ?_
  refine xr ?_
  rcases Jc H with⟨hp2,H⟩|⟨hp2,H⟩
  ·obtain⟨F,G,hq2⟩:=xH Y G hp2
   refine xT ?_
   replace H:=Jj H hF1
   replace H:=Option.some.inj H
   refine xr ?_
   subst H
   exact xN
  ·obtain⟨F,G,hq2⟩:=xH Y G hp2
   refine xE ?_
   refine xr ?_
   exact JE (JL H hF1) (xK ⟨[],[]⟩)
 ·obtain⟨F,G,hq1⟩:=xH Y G hp1
  replace H:=Jj H hF1
  refine xE ?_
  replace H:=Option.some.inj H
  refine xr ?_
  subst H
  exact xN
theorem JhK(a0:List Int)(r:Int)(H:ZT a0=some r):PC Jbz [(dL 1 dI) a0] (dI r):=PF.c (a:=a0) H
noncomputable def VL(a0:Edit)(a1:Edit):Option Int :=
 (Vd a0.File a1.File).bind fun r1=>(Vd a0.From a1.From).bind fun r2=>(Vd a0.To a1.To).bind fun r3=>(ZT [r1,r2,r3]).bind fun r4=>some r4
noncomputable def Z2:PF:=PF.of (E2 Jb Jb) (fun a=>VL a.1 a.2) dI
theorem JcH:J7 Tryd.prog 32 Z2:=by
 refine xF mixed [(40,ZC),(39,Jbz)] [] ⟨⟨Jmj,JdG⟩,⟨Jl7,Jhf⟩,trivial⟩ trivial Tryd.func32 ?_
 rintro ⟨a0,a1⟩ out H
 have G:=True.intro
 have Y:=xZ y_3 <| xZ y_41 <| xZ y_81 <| xZ Tryd.results32 <| Jb.eq_1
 simp only[VL]at H
 refine xS ?_
 refine xr ?_
 obtain⟨r1,hr1,H⟩:=Jr H
 have F:=xC Y (Z9 a0.File a1.File r1 hr1)
 obtain⟨r2,hr2,H⟩:=Jr H
 have F:=xCf F (Z9 a0.From a1.From r2 hr2)
 obtain⟨r3,hr3,H⟩:=Jr H
 have F:=xCf F (Z9 a0.To a1.To r3 hr3)
 obtain⟨r4,hr4,H⟩:=Jr H
 have F:=xCf F (JhK [r1,r2,r3] r4 hr4)
 replace H:=Option.some.inj H
 refine xR ?_
 subst H
 exact xN
theorem Jan(a0:Edit)(a1:Edit)(r:Int)(H:VL a0 a1=some r):PC Z2 [Jb a0,Jb a1] (dI r):=PF.c (a:=(a0,a1)) H
noncomputable def Jo(x1:Int)(x3:Int)(x4:List Edit):Bool→Option ((Int×(List Edit)) ⊕ ((Int×(List Edit)) ⊕ (List Edit)))
 | x5=>if x5=true then if(0:Int)≤(IntKind.i64.wrap (x3-1))∧(IntKind.i64.wrap (x3-1)).toNat<x4.length then if(IntKind.i64.wrap (x3-1)).toNat<x4.length then if(0:Int)≤x3∧x3.toNat<x4.length then if x3.toNat<x4.length then if(0:Int)≤x3∧x3.toNat<x4.length then if x3.toNat<x4.length then if(0:Int)≤(IntKind.i64.wrap (x3-1))∧(IntKind.i64.wrap (x3-1)).toNat<x4.length then if(IntKind.i64.wrap (x3-1)).toNat<(List.set x4 x3.toNat (x4.getD ((IntKind.i64.wrap (x3-1)).toNat) default)).length then some (.inl (IntKind.i64.wrap (x3-1),List.set (List.set x4 x3.toNat (x4.getD ((IntKind.i64.wrap (x3-1)).toNat) default)) ((IntKind.i64.wrap (x3-1)).toNat) (x4.getD x3.toNat default))) else none else none else none else none else none else none else none else none else inrO (some (.inl (IntKind.i64.wrap (x1+1),x4)))
noncomputable def Jw(a0:Int)(x1:Int):(Int×(List Edit))→Option ((Int×(List Edit)) ⊕ ((Int×(List Edit)) ⊕ (List Edit)))
 | (x3,x4)=>if(ltI a0 x3)=true then if(0:Int)≤x3∧x3.toNat<x4.length then if x3.toNat<x4.length then if(0:Int)≤(IntKind.i64.wrap (x3-1))∧(IntKind.i64.wrap (x3-1)).toNat<x4.length then if(IntKind.i64.wrap (x3-1)).toNat<x4.length then(VL (x4.getD x3.toNat default) (x4.getD ((IntKind.i64.wrap (x3-1)).toNat) default)).bind fun r1=>Jo x1 x3 x4 (ltI r1 0) else none else none else none else none else Jo x1 x3 x4 false
noncomputable def Jn(a0:Int)(a1:Int):(Int×(List Edit))→Option ((Int×(List Edit)) ⊕ (List Edit))
 | (x1,x2)=>if(ltI x1 a1)=true then Ji (Jw a0 x1) (x1,x2) else inrO (some x2)
noncomputable def JG(a0:Int)(a1:Int)(a2:List Edit):Option (List Edit) :=
 Ji (Jn a0 a1) (IntKind.i64.wrap (a0+1),a2)
def J2(a0:Int)(a1:Int)(a2:List Edit)(r:(List Edit)):GI :=
 ⟨[.c (.os 1 4 0 a2.length),.c (.d (.v (.int .i64 a0))),.c (.d (.v (.int .i64 a1))),.c (.d (.v (.func (.func 32) #[] #[])))],[[.arr 4 (List.map Jb a2)]],[],.ret (.tu []) [[.arr 4 (List.map Jb r)]] []⟩
def J1:GI→Prop:=fun g=>∃ (a0:Int) (a1:Int) (a2:List Edit) (r:(List Edit)),JG a0 a1 a2=some r∧g=J2 a0 a1 a2 r
theorem VB(a0:Int)(a1:Int)(a2:List Edit)(r:(List Edit))(H:JG a0 a1 a2=some r):J1 (J2 a0 a1 a2 r):=⟨a0,a1,a2,r,H,rfl⟩
theorem Zi:∀ g,J1 g→Kq Tryd.prog 48 g:=by
 rintro _ ⟨a0,a1,a2,r,H,rfl⟩
 refine xGn mixed [(32,Z2)] [] [] ⟨⟨Ji4,JcH⟩,trivial⟩ trivial trivial Tryd.func48 _ ?_
 have G:=True.intro
 have Y:=xZ y_24 <| xZ y_41 <| xZ Tryd.results48 <| xZ Jb.eq_1 <| J2.eq_1
 dsimp only[J2]
 simp only[JG]at H
 refine xS ?_
 refine xr ?_
 refine Kc (Jn a0 a1) (fun s=>[(0,.c (.os 1 4 0 s.2.length)),(1,.c (.d (.v (.int .i64 a0)))),(2,.c (.d (.v (.int .i64 a1)))),(3,.c (.d (.v (.func (.func 32) #[] #[])))),(8,.c (.d (.v (.int .i64 s.1))))]) (fun s=>[[.arr 4 (List.map Jb s.2)]]) [] H (xK ⟨[1],[]⟩) ?_
 rintro n1 ⟨x1,x2⟩ o1 H hF1
 rw[Jn]at H
 refine xS ?_
 refine xr ?_
 rcases Jc H with⟨hp1,H⟩|⟨hp1,H⟩
 ·obtain⟨F,G,hq1⟩:=xH Y G hp1
  refine xT ?_
  refine xr ?_
  refine Kc (Jw a0 x1) (fun s=>[(0,.c (.os 1 4 0 s.2.length)),(1,.c (.d (.v (.int .i64 a0)))),(2,.c (.d (.v (.int .i64 a1)))),(3,.c (.d (.v (.func (.func 32) #[] #[])))),(8,.c (.d (.v (.int .i64 x1)))),(9,.c (.d (.v (.int .i64 s.1))))]) (fun s=>[[.arr 4 (List.map Jb s.2)]]) [] H (xK ⟨[1],[]⟩) ?_
  rintro n2 ⟨x3,x4⟩ o2 H hF2
  rw[Jw]at H
  refine Jak ?_
  refine KE (Jo x1 x3 x4) (fun s=>[(0,.c (.os 1 4 0 x4.length)),(1,.c (.d (.v (.int .i64 a0)))),(2,.c (.d (.v (.int .i64 a1)))),(3,.c (.d (.v (.func (.func 32) #[] #[])))),(8,.c (.d (.v (.int .i64 x1)))),(9,.c (.d (.v (.int .i64 x3)))),(34,.c (.d (.v (.bool s))))]) (fun s=>[[.arr 4 (List.map Jb x4)]]) [] o2 ?_ ?_
  ·rcases Jc H with⟨hp3,H⟩|⟨hp3,H⟩
   ·obtain⟨F,G,hq3⟩:=xH Y G hp3
    obtain⟨hg5,H⟩:=Jd H
    obtain⟨hg,H⟩:=Jd H
    have F:=xZ F (Jf Jb x4 x3.toNat default default (by omega))
    obtain⟨hg6,H⟩:=Jd H
    obtain⟨hg,H⟩:=Jd H
    have F:=xZ F (Jf Jb x4 ((IntKind.i64.wrap (x3-1)).toNat) default default (by omega))
    obtain⟨r1,hr1,H⟩:=Jr H
    have F:=xCf F (Jan (x4.getD x3.toNat default) (x4.getD ((IntKind.i64.wrap (x3-1)).toNat) default) r1 hr1)
    refine xR ?_
    exact Je H (xK ⟨[1],[]⟩)
   ·obtain⟨F,G,hq3⟩:=xH Y G hp3
    refine xR ?_
    exact Je H (xK ⟨[1],[]⟩)
  ·rintro x5 H
   rw[Jo]at H
   rcases Jc H with⟨hp2,H⟩|⟨hp2,H⟩
   ·obtain⟨F,G,hq2⟩:=xH Y G hp2
    refine xT ?_
    obtain⟨hg1,H⟩:=Jd H
    obtain⟨hg,H⟩:=Jd H
    have F:=xZ Y (Jf Jb x4 ((IntKind.i64.wrap (x3-1)).toNat) default default (by omega))
    obtain⟨hg2,H⟩:=Jd H
    obtain⟨hg,H⟩:=Jd H
    have F:=xZ F (Jf Jb x4 x3.toNat default default (by omega))
    obtain⟨hg3,H⟩:=Jd H
    obtain⟨hg,H⟩:=Jd H
    have F:=xZ F (Jf Jb x4 x3.toNat default default (by omega))
    have F:=xZ F (Zt Jb x4 x3.toNat)
    have F:=xZ F (Zv Jb x4 (show x3.toNat<x4.length by omega))
    have F:=xZ F (Zp Jb x4 x3.toNat)
    obtain⟨hg4,H⟩:=Jd H
    obtain⟨hg,H⟩:=Jd H
    have F:=xZ F (Jf Jb (List.set x4 x3.toNat (x4.getD ((IntKind.i64.wrap (x3-1)).toNat) default)) ((IntKind.i64.wrap (x3-1)).toNat) default default (by omega))
    have F:=xZ F (by have h:=sget Jb x4 x3.toNat (x4.getD ((IntKind.i64.wrap (x3-1)).toNat) default) default ((IntKind.i64.wrap (x3-1)).toNat) (by simpa only[List.length_set] using hg) default; simp only[Jb]at h; exact h)
    have F:=xZ F (Zt Jb (List.set x4 x3.toNat (x4.getD ((IntKind.i64.wrap (x3-1)).toNat) default)) ((IntKind.i64.wrap (x3-1)).toNat))
    have F:=xZ F (Zv Jb (List.set x4 x3.toNat (x4.getD ((IntKind.i64.wrap (x3-1)).toNat) default)) (show(IntKind.i64.wrap (x3-1)).toNat<(List.set x4 x3.toNat (x4.getD ((IntKind.i64.wrap (x3-1)).toNat) default)).length by omega))
    have F:=xZ F (Zp Jb (List.set x4 x3.toNat (x4.getD ((IntKind.i64.wrap (x3-1)).toNat) default)) ((IntKind.i64.wrap (x3-1)).toNat))
    refine xR ?_
    refine xr ?_
    exact JE (JL H hF2) (xK ⟨[1],[]⟩)
   ·obtain⟨F,G,hq2⟩:=xH Y G hp2
    replace H:=Jj H hF2
    refine xE ?_
    refine xr ?_
    exact JE (JL H hF1) (xK ⟨[1],[]⟩)
 ·obtain⟨F,G,hq1⟩:=xH Y G hp1
  replace H:=Jj H hF1
  replace H:=Option.some.inj H
  refine xE ?_
  subst H
  refine xnD [] ?_
  exact xO ⟨[1],[]⟩
theorem Zw:Jg Tryd.prog 48∧(∀ g,J1 g→Kq Tryd.prog 48 g)∧(true=true→∀ g,J1 g→∃ val bs ts,g.out=.ret val bs ts) :=
 ⟨Jmq,Zi,fun _=>by rintro _ ⟨_,_,_,_,_,rfl⟩; exact⟨_,_,_,rfl⟩⟩
noncomputable def JC(a0:Int)(a1:Int)(a2:Int):(Int×(List Edit))→Option ((Int×(List Edit)) ⊕ (List Edit))
 | (x1,x2)=>if(ltI x1 a2)=true then if(0:Int)≤(IntKind.i64.wrap (a1+x1))∧(IntKind.i64.wrap (a1+x1)).toNat<x2.length then if(IntKind.i64.wrap (a1+x1)).toNat<x2.length then if(0:Int)≤(IntKind.i64.wrap (a0+x1))∧(IntKind.i64.wrap (a0+x1)).toNat<x2.length then if(IntKind.i64.wrap (a0+x1)).toNat<x2.length then if(0:Int)≤(IntKind.i64.wrap (a0+x1))∧(IntKind.i64.wrap (a0+x1)).toNat<x2.length then if(IntKind.i64.wrap (a0+x1)).toNat<x2.length then if(0:Int)≤(IntKind.i64.wrap (a1+x1))∧(IntKind.i64.wrap (a1+x1)).toNat<x2.length then if(IntKind.i64.wrap (a1+x1)).toNat<(List.set x2 ((IntKind.i64.wrap (a0+x1)).toNat) (x2.getD ((IntKind.i64.wrap (a1+x1)).toNat) default)).length then some (.inl (IntKind.i64.wrap (x1+1),List.set (List.set x2 ((IntKind.i64.wrap (a0+x1)).toNat) (x2.getD ((IntKind.i64.wrap (a1+x1)).toNat) default)) ((IntKind.i64.wrap (a1+x1)).toNat) (x2.getD ((IntKind.i64.wrap (a0+x1)).toNat) default))) else none else none else none else none else none else none else none else none else inrO (some x2)
noncomputable def JH(a0:Int)(a1:Int)(a2:Int)(a3:List Edit):Option (List Edit) :=
 Ji (JC a0 a1 a2) (0,a3)
def Kg(a0:Int)(a1:Int)(a2:Int)(a3:List Edit)(r:(List Edit)):GI :=
 ⟨[.c (.os 1 4 0 a3.length),.c (.d (.v (.int .i64 a0))),.c (.d (.v (.int .i64 a1))),.c (.d (.v (.int .i64 a2))),.c (.d (.v (.func (.func 32) #[] #[])))],[[.arr 4 (List.map Jb a3)]],[],.ret (.tu []) [[.arr 4 (List.map Jb r)]] []⟩
def Ke:GI→Prop:=fun g=>∃ (a0:Int) (a1:Int) (a2:Int) (a3:List Edit) (r:(List Edit)),JH a0 a1 a2 a3=some r∧g=Kg a0 a1 a2 a3 r
theorem Va(a0:Int)(a1:Int)(a2:Int)(a3:List Edit)(r:(List Edit))(H:JH a0 a1 a2 a3=some r):Ke (Kg a0 a1 a2 a3 r):=⟨a0,a1,a2,a3,r,H,rfl⟩
theorem ZU:∀ g,Ke g→Kq Tryd.prog 62 g:=by
 rintro _ ⟨a0,a1,a2,a3,r,H,rfl⟩
 refine xGn mixed [] [] [] trivial trivial trivial Tryd.func62 _ ?_
 have G:=True.intro
 have Y:=xZ y_24 <| xZ y_41 <| xZ Tryd.results62 <| xZ Jb.eq_1 <| Kg.eq_1
 dsimp only[Kg]
 simp only[JH]at H
 refine xS ?_
 refine xr ?_
 refine Kc (JC a0 a1 a2) (fun s=>[(0,.c (.os 1 4 0 s.2.length)),(1,.c (.d (.v (.int .i64 a0)))),(2,.c (.d (.v (.int .i64 a1)))),(3,.c (.d (.v (.int .i64 a2)))),(10,.c (.d (.v (.int .i64 s.1))))]) (fun s=>[[.arr 4 (List.map Jb s.2)]]) [] H (xK ⟨[1],[]⟩) ?_
 rintro n1 ⟨x1,x2⟩ o1 H hF1
 rw[JC]at H
 refine xS ?_
 refine xr ?_
 rcases Jc H with⟨hp1,H⟩|⟨hp1,H⟩
 ·obtain⟨F,G,hq1⟩:=xH Y G hp1
  refine xT ?_
  obtain⟨hg1,H⟩:=Jd H
  obtain⟨hg,H⟩:=Jd H
  have F:=xZ Y (Jf Jb x2 ((IntKind.i64.wrap (a1+x1)).toNat) default default (by omega))
  obtain⟨hg2,H⟩:=Jd H
  obtain⟨hg,H⟩:=Jd H
  have F:=xZ F (Jf Jb x2 ((IntKind.i64.wrap (a0+x1)).toNat) default default (by omega))
  obtain⟨hg3,H⟩:=Jd H
  obtain⟨hg,H⟩:=Jd H
  have F:=xZ F (Jf Jb x2 ((IntKind.i64.wrap (a0+x1)).toNat) default default (by omega))
  have F:=xZ F (Zt Jb x2 ((IntKind.i64.wrap (a0+x1)).toNat))
  have F:=xZ F (Zv Jb x2 (show(IntKind.i64.wrap (a0+x1)).toNat<x2.length by omega))
  have F:=xZ F (Zp Jb x2 ((IntKind.i64.wrap (a0+x1)).toNat))
  obtain⟨hg4,H⟩:=Jd H
  obtain⟨hg,H⟩:=Jd H
  have F:=xZ F (Jf Jb (List.set x2 ((IntKind.i64.wrap (a0+x1)).toNat) (x2.getD ((IntKind.i64.wrap (a1+x1)).toNat) default)) ((IntKind.i64.wrap (a1+x1)).toNat) default default (by omega))
  have F:=xZ F (by have h:=sget Jb x2 ((IntKind.i64.wrap (a0+x1)).toNat) (x2.getD ((IntKind.i64.wrap (a1+x1)).toNat) default) default ((IntKind.i64.wrap (a1+x1)).toNat) (by simpa only[List.length_set] using hg) default; simp only[Jb]at h; exact h)
  have F:=xZ F (Zt Jb (List.set x2 ((IntKind.i64.wrap (a0+x1)).toNat) (x2.getD ((IntKind.i64.wrap (a1+x1)).toNat) default)) ((IntKind.i64.wrap (a1+x1)).toNat))
  have F:=xZ F (Zv Jb (List.set x2 ((IntKind.i64.wrap (a0+x1)).toNat) (x2.getD ((IntKind.i64.wrap (a1+x1)).toNat) default)) (show(IntKind.i64.wrap (a1+x1)).toNat<(List.set x2 ((IntKind.i64.wrap (a0+x1)).toNat) (x2.getD ((IntKind.i64.wrap (a1+x1)).toNat) default)).length by omega))
  have F:=xZ F (Zp Jb (List.set x2 ((IntKind.i64.wrap (a0+x1)).toNat) (x2.getD ((IntKind.i64.wrap (a1+x1)).toNat) default)) ((IntKind.i64.wrap (a1+x1)).toNat))
  refine xR ?_
  refine xr ?_
  exact JE (JL H hF1) (xK ⟨[1],[]⟩)
 ·obtain⟨F,G,hq1⟩:=xH Y G hp1
  replace H:=Jj H hF1
  replace H:=Option.some.inj H
  refine xE ?_
  subst H
  refine xnD [] ?_
  exact xO ⟨[1],[]⟩
theorem Z6:Jg Tryd.prog 62∧(∀ g,Ke g→Kq Tryd.prog 62 g)∧(true=true→∀ g,Ke g→∃ val bs ts,g.out=.ret val bs ts) :=
 ⟨Jl3,ZU,fun _=>by rintro _ ⟨_,_,_,_,_,_,rfl⟩; exact⟨_,_,_,rfl⟩⟩
noncomputable def Ju(a1:Int):(Int×Int×(List Edit))→Option ((Int×Int×(List Edit)) ⊕ (List Edit))
 | (x1,x2,x3)=>if(!eqI x1 x2)=true then if(ltI x2 x1)=true then(JH (IntKind.i64.wrap (a1-x1)) a1 x2 x3).bind fun r1=>if r1.length=x3.length then some (.inl (IntKind.i64.wrap (x1-x2),x2,r1)) else none else(JH (IntKind.i64.wrap (a1-x1)) (IntKind.i64.wrap ((IntKind.i64.wrap (a1+x2))-x1)) x1 x3).bind fun r2=>if r2.length=x3.length then some (.inl (x1,IntKind.i64.wrap (x2-x1),r2)) else none else inrO ((JH (IntKind.i64.wrap (a1-x1)) a1 x1 x3).bind fun r3=>if r3.length=x3.length then some r3 else none)
noncomputable def Ki(a0:Int)(a1:Int)(a2:Int)(a3:List Edit):Option (List Edit) :=
 Ji (Ju a1) (IntKind.i64.wrap (a1-a0),IntKind.i64.wrap (a2-a1),a3)
def KD(a0:Int)(a1:Int)(a2:Int)(a3:List Edit)(r:(List Edit)):GI :=
 ⟨[.c (.os 1 4 0 a3.length),.c (.d (.v (.int .i64 a0))),.c (.d (.v (.int .i64 a1))),.c (.d (.v (.int .i64 a2))),.c (.d (.v (.func (.func 32) #[] #[])))],[[.arr 4 (List.map Jb a3)]],[],.ret (.tu []) [[.arr 4 (List.map Jb r)]] []⟩
def KB:GI→Prop:=fun g=>∃ (a0:Int) (a1:Int) (a2:Int) (a3:List Edit) (r:(List Edit)),Ki a0 a1 a2 a3=some r∧g=KD a0 a1 a2 a3 r
theorem JaF(a0:Int)(a1:Int)(a2:Int)(a3:List Edit)(r:(List Edit))(H:Ki a0 a1 a2 a3=some r):KB (KD a0 a1 a2 a3 r):=⟨a0,a1,a2,a3,r,H,rfl⟩
theorem Jar:∀ g,KB g→Kq Tryd.prog 57 g:=by
 rintro _ ⟨a0,a1,a2,a3,r,H,rfl⟩
 refine xGn mixed [] [(62,true,Ke)] [] trivial ⟨Z6,trivial⟩ trivial Tryd.func57 _ ?_
 have G:=True.intro
 have Y:=xZ Tryd.results57 <| xZ Jb.eq_1 <| xZ Kg.eq_1 <| KD.eq_1
 dsimp only[KD]
 simp only[Ki]at H
 refine xS ?_
 refine xr ?_
 refine xr ?_
 refine Kc (Ju a1) (fun s=>[(0,.c (.os 1 4 0 s.2.2.length)),(2,.c (.d (.v (.int .i64 a1)))),(4,.c (.d (.v (.func (.func 32) #[] #[])))),(10,.c (.d (.v (.int .i64 s.1)))),(11,.c (.d (.v (.int .i64 s.2.1))))]) (fun s=>[[.arr 4 (List.map Jb s.2.2)]]) [] H (xK ⟨[1],[]⟩) ?_
 rintro n1 ⟨x1,x2,x3⟩ o1 H hF1
 rw[Ju]at H
 refine xS ?_
 refine xr ?_
 rcases Jc H with⟨hp1,H⟩|⟨hp1,H⟩
 ·obtain⟨F,G,hq1⟩:=xH Y G hp1
  refine xT ?_
  refine xr ?_
  rcases Jc H with⟨hp2,H⟩|⟨hp2,H⟩
  ·obtain⟨F,G,hq2⟩:=xH Y G hp2
   refine xT ?_
   obtain⟨r1,hr1,H⟩:=Jr H
   have F:=Y
   obtain⟨hgl,H⟩:=Jd H
   have F:=xZ F hgl
   have G:=xZ G hgl
   refine xQ ?_
   refine xs 7 ?_
   refine xc ⟨[1],[]⟩ (tabG 0 (Va (IntKind.i64.wrap (a1-x1)) a1 x2 x3 r1 hr1)) ?_
   refine xl ?_
   refine xS ?_
   refine xr ?_
   exact JE (JL H hF1) (xK ⟨[1],[]⟩)
  ·obtain⟨F,G,hq2⟩:=xH Y G hp2
   refine xE ?_
   obtain⟨r2,hr2,H⟩:=Jr H
   have F:=Y
   obtain⟨hgl,H⟩:=Jd H
   have F:=xZ F hgl
   have G:=xZ G hgl
   refine xQ ?_
   refine xs 11 ?_
   refine xc ⟨[1],[]⟩ (tabG 0 (Va (IntKind.i64.wrap (a1-x1)) (IntKind.i64.wrap ((IntKind.i64.wrap (a1+x2))-x1)) x1 x3 r2 hr2)) ?_
   refine xl ?_
   refine xS ?_
   refine xr ?_
   exact JE (JL H hF1) (xK ⟨[1],[]⟩)
 ·obtain⟨F,G,hq1⟩:=xH Y G hp1
  replace H:=Jj H hF1
  refine xE ?_
  obtain⟨r3,hr3,H⟩:=Jr H
  have F:=Y
  obtain⟨hgl,H⟩:=Jd H
  have F:=xZ F hgl
  have G:=xZ G hgl
  refine xQ ?_
  refine xs 7 ?_
  refine xc ⟨[1],[]⟩ (tabG 0 (Va (IntKind.i64.wrap (a1-x1)) a1 x1 x3 r3 hr3)) ?_
  refine xl ?_
  replace H:=Option.some.inj H
  refine xS ?_
  subst H
  refine xnD [] ?_
  exact xO ⟨[1],[]⟩
theorem JaD:Jg Tryd.prog 57∧(∀ g,KB g→Kq Tryd.prog 57 g)∧(true=true→∀ g,KB g→∃ val bs ts,g.out=.ret val bs ts) :=
 ⟨JmN,Jar,fun _=>by rintro _ ⟨_,_,_,_,_,_,rfl⟩; exact⟨_,_,_,rfl⟩⟩
def JN(a0:Int)(a1:Int)(a2:Int)(a3:List Edit)(r:(List Edit)):GI :=
 ⟨[.c (.os 1 4 0 a3.length),.c (.d (.v (.int .i64 a0))),.c (.d (.v (.int .i64 a1))),.c (.d (.v (.int .i64 a2))),.c (.d (.v (.func (.func 32) #[] #[])))],[[.arr 4 (List.map Jb a3)]],[],.ret (.tu []) [[.arr 4 (List.map Jb r)]] []⟩
def JY(q:Int→Int→Int→(List Edit)→Option (List Edit)):GI→Prop:=fun g=>∃ (a0:Int) (a1:Int) (a2:Int) (a3:List Edit) (r:(List Edit)),q a0 a1 a2 a3=some r∧g=JN a0 a1 a2 a3 r
theorem K8(q:Int→Int→Int→(List Edit)→Option (List Edit))(a0:Int)(a1:Int)(a2:Int)(a3:List Edit)(r:(List Edit))(H:q a0 a1 a2 a3=some r):JY q (JN a0 a1 a2 a3 r):=⟨a0,a1,a2,a3,r,H,rfl⟩
noncomputable def Jy(x1:Int):(Int×(List Edit))→Option ((Int×(List Edit)) ⊕ (List Edit))
 | (x3,x4)=>if(ltI x3 (IntKind.i64.wrap (x1-1)))=true then if(0:Int)≤(IntKind.i64.wrap (x3+1))∧(IntKind.i64.wrap (x3+1)).toNat<x4.length then if(IntKind.i64.wrap (x3+1)).toNat<x4.length then if(0:Int)≤x3∧x3.toNat<x4.length then if x3.toNat<x4.length then if(0:Int)≤x3∧x3.toNat<x4.length then if x3.toNat<x4.length then if(0:Int)≤(IntKind.i64.wrap (x3+1))∧(IntKind.i64.wrap (x3+1)).toNat<x4.length then if(IntKind.i64.wrap (x3+1)).toNat<(List.set x4 x3.toNat (x4.getD ((IntKind.i64.wrap (x3+1)).toNat) default)).length then some (.inl (IntKind.i64.wrap (x3+1),List.set (List.set x4 x3.toNat (x4.getD ((IntKind.i64.wrap (x3+1)).toNat) default)) ((IntKind.i64.wrap (x3+1)).toNat) (x4.getD x3.toNat default))) else none else none else none else none else none else none else none else none else inrO (some x4)
noncomputable def JV(a0:Int)(a3:List Edit):(Int×Int)→Option ((Int×Int) ⊕ (List Edit))
 | (x1,x2)=>if(ltI x1 x2)=true then if(0:Int)≤1 then if(0:Int)≤(IntKind.i64.wrap (Int.fdiv (IntKind.u64.wrap (IntKind.i64.wrap (x1+x2))) (2 ^ (min 1 IntKind.u64.bits))))∧(IntKind.i64.wrap (Int.fdiv (IntKind.u64.wrap (IntKind.i64.wrap (x1+x2))) (2 ^ (min 1 IntKind.u64.bits)))).toNat<a3.length then if(IntKind.i64.wrap (Int.fdiv (IntKind.u64.wrap (IntKind.i64.wrap (x1+x2))) (2 ^ (min 1 IntKind.u64.bits)))).toNat<a3.length then if(0:Int)≤a0∧a0.toNat<a3.length then if a0.toNat<a3.length then(VL (a3.getD ((IntKind.i64.wrap (Int.fdiv (IntKind.u64.wrap (IntKind.i64.wrap (x1+x2))) (2 ^ (min 1 IntKind.u64.bits)))).toNat) default) (a3.getD a0.toNat default)).bind fun r1=>if(ltI r1 0)=true then some (.inl (IntKind.i64.wrap ((IntKind.i64.wrap (Int.fdiv (IntKind.u64.wrap (IntKind.i64.wrap (x1+x2))) (2 ^ (min 1 IntKind.u64.bits))))+1),x2)) else some (.inl (x1,IntKind.i64.wrap (Int.fdiv (IntKind.u64.wrap (IntKind.i64.wrap (x1+x2))) (2 ^ (min 1 IntKind.u64.bits))))) else none else none else none else none else none else inrO (Ji (Jy x1) (a0,a3))
noncomputable def Jz(x5:Int):(Int×(List Edit))→Option ((Int×(List Edit)) ⊕ (List Edit))
 | (x7,x8)=>if(ltI x5 x7)=true then if(0:Int)≤(IntKind.i64.wrap (x7-1))∧(IntKind.i64.wrap (x7-1)).toNat<x8.length then if(IntKind.i64.wrap (x7-1)).toNat<x8.length then if(0:Int)≤x7∧x7.toNat<x8.length then if x7.toNat<x8.length then if(0:Int)≤x7∧x7.toNat<x8.length then if x7.toNat<x8.length then if(0:Int)≤(IntKind.i64.wrap (x7-1))∧(IntKind.i64.wrap (x7-1)).toNat<x8.length then if(IntKind.i64.wrap (x7-1)).toNat<(List.set x8 x7.toNat (x8.getD ((IntKind.i64.wrap (x7-1)).toNat) default)).length then some (.inl (IntKind.i64.wrap (x7-1),List.set (List.set x8 x7.toNat (x8.getD ((IntKind.i64.wrap (x7-1)).toNat) default)) ((IntKind.i64.wrap (x7-1)).toNat) (x8.getD x7.toNat default))) else none else none else none else none else none else none else none else none else inrO (some x8)
noncomputable def JX(a1:Int)(a3:List Edit):(Int×Int)→Option ((Int×Int) ⊕ (List Edit))
 | (x5,x6)=>if(ltI x5 x6)=true then if(0:Int)≤1 then if(0:Int)≤a1∧a1.toNat<a3.length then if a1.toNat<a3.length then if(0:Int)≤(IntKind.i64.wrap (Int.fdiv (IntKind.u64.wrap (IntKind.i64.wrap (x5+x6))) (2 ^ (min 1 IntKind.u64.bits))))∧(IntKind.i64.wrap (Int.fdiv (IntKind.u64.wrap (IntKind.i64.wrap (x5+x6))) (2 ^ (min 1 IntKind.u64.bits)))).toNat<a3.length then if(IntKind.i64.wrap (Int.fdiv (IntKind.u64.wrap (IntKind.i64.wrap (x5+x6))) (2 ^ (min 1 IntKind.u64.bits)))).toNat<a3.length then(VL (a3.getD a1.toNat default) (a3.getD ((IntKind.i64.wrap (Int.fdiv (IntKind.u64.wrap (IntKind.i64.wrap (x5+x6))) (2 ^ (min 1 IntKind.u64.bits)))).toNat) default)).bind fun r2=>if(!(ltI r2 0))=true then some (.inl (IntKind.i64.wrap ((IntKind.i64.wrap (Int.fdiv (IntKind.u64.wrap (IntKind.i64.wrap (x5+x6))) (2 ^ (min 1 IntKind.u64.bits))))+1),x6)) else some (.inl (x5,IntKind.i64.wrap (Int.fdiv (IntKind.u64.wrap (IntKind.i64.wrap (x5+x6))) (2 ^ (min 1 IntKind.u64.bits))))) else none else none else none else none else none else inrO (Ji (Jz x5) (a1,a3))
noncomputable def JJ(q1:Int→Int→Int→(List Edit)→Option (List Edit))(a2:Int)(x9:Int)(x16:Int)(x18:List Edit):Bool→Option (List Edit)
 | x19=>if x19=true then(q1 x9 x16 a2 x18).bind fun r4=>if r4.length=x18.length then some r4 else none else some x18
noncomputable def JK(q1:Int→Int→Int→(List Edit)→Option (List Edit))(a2:Int)(x9:Int)(x16:Int):(List Edit)→Option (List Edit)
 | x18=>if(ltI x9 x16)=true then JJ q1 a2 x9 x16 x18 (ltI x16 a2) else JJ q1 a2 x9 x16 x18 false
noncomputable def JI(q1:Int→Int→Int→(List Edit)→Option (List Edit))(a0:Int)(a2:Int)(x9:Int)(x13:Int)(x16:Int)(x17:List Edit):Bool→Option (List Edit)
 | x20=>if x20=true then(q1 a0 x13 x9 x17).bind fun r5=>if r5.length=x17.length then JK q1 a2 x9 x16 r5 else none else JK q1 a2 x9 x16 x17
noncomputable def JD(q1:Int→Int→Int→(List Edit)→Option (List Edit))(a0:Int)(a2:Int)(x9:Int)(x13:Int):(Int×(List Edit))→Option (List Edit)
 | (x16,x17)=>if(ltI a0 x13)=true then JI q1 a0 a2 x9 x13 x16 x17 (ltI x13 x9) else JI q1 a0 a2 x9 x13 x16 x17 false
noncomputable def Jp(q1:Int→Int→Int→(List Edit)→Option (List Edit))(a0:Int)(a1:Int)(a2:Int)(a3:List Edit)(x9:Int)(x13:Int):(Int×Bool)→Option (List Edit)
 | (x21,x22)=>if x22=true then(Ki x13 a1 x21 a3).bind fun r6=>if r6.length=a3.length then JD q1 a0 a2 x9 x13 (x21,r6) else none else JD q1 a0 a2 x9 x13 (x21,a3)
noncomputable def Kb(q1:Int→Int→Int→(List Edit)→Option (List Edit))(a0:Int)(a1:Int)(a2:Int)(a3:List Edit)(x9:Int)(x10:Int):(Int×Int×Int)→Option ((Int×Int×Int) ⊕ (List Edit))
 | (x13,x14,x15)=>if(ltI x13 x14)=true then if(0:Int)≤1 then if(0:Int)≤(IntKind.i64.wrap (x15-(IntKind.i64.wrap (Int.fdiv (IntKind.u64.wrap (IntKind.i64.wrap (x13+x14))) (2 ^ (min 1 IntKind.u64.bits))))))∧(IntKind.i64.wrap (x15-(IntKind.i64.wrap (Int.fdiv (IntKind.u64.wrap (IntKind.i64.wrap (x13+x14))) (2 ^ (min 1 IntKind.u64.bits)))))).toNat<a3.length then if(IntKind.i64.wrap (x15-(IntKind.i64.wrap (Int.fdiv (IntKind.u64.wrap (IntKind.i64.wrap (x13+x14))) (2 ^ (min 1 IntKind.u64.bits)))))).toNat<a3.length then if(0:Int)≤(IntKind.i64.wrap (Int.fdiv (IntKind.u64.wrap (IntKind.i64.wrap (x13+x14))) (2 ^ (min 1 IntKind.u64.bits))))∧(IntKind.i64.wrap (Int.fdiv (IntKind.u64.wrap (IntKind.i64.wrap (x13+x14))) (2 ^ (min 1 IntKind.u64.bits)))).toNat<a3.length then if(IntKind.i64.wrap (Int.fdiv (IntKind.u64.wrap (IntKind.i64.wrap (x13+x14))) (2 ^ (min 1 IntKind.u64.bits)))).toNat<a3.length then(VL (a3.getD ((IntKind.i64.wrap (x15-(IntKind.i64.wrap (Int.fdiv (IntKind.u64.wrap (IntKind.i64.wrap (x13+x14))) (2 ^ (min 1 IntKind.u64.bits)))))).toNat) default) (a3.getD ((IntKind.i64.wrap (Int.fdiv (IntKind.u64.wrap (IntKind.i64.wrap (x13+x14))) (2 ^ (min 1 IntKind.u64.bits)))).toNat) default)).bind fun r3=>if(!(ltI r3 0))=true then some (.inl (IntKind.i64.wrap ((IntKind.i64.wrap (Int.fdiv (IntKind.u64.wrap (IntKind.i64.wrap (x13+x14))) (2 ^ (min 1 IntKind.u64.bits))))+1),x14,x15)) else some (.inl (x13,IntKind.i64.wrap (Int.fdiv (IntKind.u64.wrap (IntKind.i64.wrap (x13+x14))) (2 ^ (min 1 IntKind.u64.bits))),x15)) else none else none else none else none else none else inrO (if(ltI x13 a1)=true then Jp q1 a0 a1 a2 a3 x9 x13 (IntKind.i64.wrap (x10-x13),ltI a1 (IntKind.i64.wrap (x10-x13))) else Jp q1 a0 a1 a2 a3 x9 x13 (IntKind.i64.wrap (x10-x13),false))
noncomputable def JW(q1:Int→Int→Int→(List Edit)→Option (List Edit))(a0:Int)(a1:Int)(a2:Int)(a3:List Edit):(Int×Int×Int×Int)→Option (List Edit)
 | (x9,x10,x11,x12)=>Ji (Kb q1 a0 a1 a2 a3 x9 x10) (x11,x12,IntKind.i64.wrap (x10-1))
noncomputable def Ko(q1:Int→Int→Int→(List Edit)→Option (List Edit))(a0:Int)(a1:Int)(a2:Int)(a3:List Edit):Option (List Edit) :=
 if(eqI (IntKind.i64.wrap (a1-a0)) 1)=true then Ji (JV a0 a3) (a1,a2) else if(eqI (IntKind.i64.wrap (a2-a1)) 1)=true then Ji (JX a1 a3) (a0,a1) else if(0:Int)≤1 then if(ltI (IntKind.i64.wrap (Int.fdiv (IntKind.u64.wrap (IntKind.i64.wrap (a0+a2))) (2 ^ (min 1 IntKind.u64.bits)))) a1)=true then JW q1 a0 a1 a2 a3 (IntKind.i64.wrap (Int.fdiv (IntKind.u64.wrap (IntKind.i64.wrap (a0+a2))) (2 ^ (min 1 IntKind.u64.bits))),IntKind.i64.wrap ((IntKind.i64.wrap (Int.fdiv (IntKind.u64.wrap (IntKind.i64.wrap (a0+a2))) (2 ^ (min 1 IntKind.u64.bits))))+a1),IntKind.i64.wrap ((IntKind.i64.wrap ((IntKind.i64.wrap (Int.fdiv (IntKind.u64.wrap (IntKind.i64.wrap (a0+a2))) (2 ^ (min 1 IntKind.u64.bits))))+a1))-a2),IntKind.i64.wrap (Int.fdiv (IntKind.u64.wrap (IntKind.i64.wrap (a0+a2))) (2 ^ (min 1 IntKind.u64.bits)))) else JW q1 a0 a1 a2 a3 (IntKind.i64.wrap (Int.fdiv (IntKind.u64.wrap (IntKind.i64.wrap (a0+a2))) (2 ^ (min 1 IntKind.u64.bits))),IntKind.i64.wrap ((IntKind.i64.wrap (Int.fdiv (IntKind.u64.wrap (IntKind.i64.wrap (a0+a2))) (2 ^ (min 1 IntKind.u64.bits))))+a1),a0,a1) else none
theorem ZO(q1:Int→Int→Int→(List Edit)→Option (List Edit))(kq1:Kok Tryd.prog 49 true (JY q1)):∀ g,JY (Ko q1) g→Kq Tryd.prog 49 g:=by
 rintro _ ⟨a0,a1,a2,a3,r,H,rfl⟩
 refine xGn mixed [(32,Z2)] [(49,true,(JY q1)),(57,true,KB)] [] ⟨⟨Ji4,JcH⟩,trivial⟩ ⟨kq1,JaD,trivial⟩ trivial Tryd.func49 _ ?_
 have G:=True.intro
 have Y:=xZ y_3 <| xZ y_24 <| xZ y_41 <| xZ y_88 <| xZ Tryd.results49 <| xZ Jb.eq_1 <| xZ JN.eq_1 <| xZ KD.eq_1 <| JN.eq_1
 dsimp only[JN]
 simp only[Ko]at H
 refine xS ?_
 refine xr ?_
 rcases Jc H with⟨hp1,H⟩|⟨hp1,H⟩
 ·obtain⟨F,G,hq1⟩:=xH Y G hp1
  refine xT ?_
  refine xr ?_
  refine xr ?_
  refine Kc (JV a0 a3) (fun s=>[(0,.c (.os 1 4 0 a3.length)),(1,.c (.d (.v (.int .i64 a0)))),(4,.c (.d (.v (.func (.func 32) #[] #[])))),(10,.c (.d (.v (.int .i64 s.1)))),(11,.c (.d (.v (.int .i64 s.2))))]) (fun s=>[[.arr 4 (List.map Jb a3)]]) [] H (xK ⟨[1],[]⟩) ?_
  rintro n1 ⟨x1,x2⟩ o1 H hF1
  rw[JV]at H
  refine xS ?_
  refine xr ?_
  rcases Jc H with⟨hp2,H⟩|⟨hp2,H⟩
  ·obtain⟨F,G,hq2⟩:=xH Y G hp2
   refine xT ?_
   obtain⟨hg1,H⟩:=Jd H
   refine xr ?_
   obtain⟨hg2,H⟩:=Jd H
   obtain⟨hg,H⟩:=Jd H
   have F:=xZ Y (Jf Jb a3 ((IntKind.i64.wrap (Int.fdiv (IntKind.u64.wrap (IntKind.i64.wrap (x1+x2))) (2 ^ (min 1 IntKind.u64.bits)))).toNat) default default (by omega))
   obtain⟨hg3,H⟩:=Jd H
   obtain⟨hg,H⟩:=Jd H
   have F:=xZ F (Jf Jb a3 a0.toNat default default (by omega))
   obtain⟨r1,hr1,H⟩:=Jr H
   have F:=xCf F (Jan (a3.getD ((IntKind.i64.wrap (Int.fdiv (IntKind.u64.wrap (IntKind.i64.wrap (x1+x2))) (2 ^ (min 1 IntKind.u64.bits)))).toNat) default) (a3.getD a0.toNat default) r1 hr1)
   refine xR ?_
   rcases Jc H with⟨hp3,H⟩|⟨hp3,H⟩
   ·obtain⟨F,G,hq3⟩:=xH Y G hp3
    refine xT ?_
    refine xr ?_
    exact JE (JL H hF1) (xK ⟨[1],[]⟩)
   ·obtain⟨F,G,hq3⟩:=xH Y G hp3
    refine xE ?_
    refine xr ?_
    exact JE (JL H hF1) (xK ⟨[1],[]⟩)
  ·obtain⟨F,G,hq2⟩:=xH Y G hp2
   replace H:=Jj H hF1
   refine xE ?_
   refine xr ?_
   refine Kc (Jy x1) (fun s=>[(0,.c (.os 1 4 0 s.2.length)),(10,.c (.d (.v (.int .i64 x1)))),(13,.c (.d (.v (.int .i64 s.1))))]) (fun s=>[[.arr 4 (List.map Jb s.2)]]) [] H (xK ⟨[1],[]⟩) ?_
   rintro n2 ⟨x3,x4⟩ o2 H hF2
   rw[Jy]at H
   refine xS ?_
   refine xr ?_
   rcases Jc H with⟨hp4,H⟩|⟨hp4,H⟩
   ·obtain⟨F,G,hq4⟩:=xH Y G hp4
    refine xT ?_
    obtain⟨hg4,H⟩:=Jd H
    obtain⟨hg,H⟩:=Jd H
    have F:=xZ Y (Jf Jb x4 ((IntKind.i64.wrap (x3+1)).toNat) default default (by omega))
    obtain⟨hg5,H⟩:=Jd H
    obtain⟨hg,H⟩:=Jd H
    have F:=xZ F (Jf Jb x4 x3.toNat default default (by omega))
    obtain⟨hg6,H⟩:=Jd H
    obtain⟨hg,H⟩:=Jd H
    have F:=xZ F (Jf Jb x4 x3.toNat default default (by omega))
    have F:=xZ F (Zt Jb x4 x3.toNat)
    have F:=xZ F (Zv Jb x4 (show x3.toNat<x4.length by omega))
    have F:=xZ F (Zp Jb x4 x3.toNat)
    obtain⟨hg7,H⟩:=Jd H
    obtain⟨hg,H⟩:=Jd H
    have F:=xZ F (Jf Jb (List.set x4 x3.toNat (x4.getD ((IntKind.i64.wrap (x3+1)).toNat) default)) ((IntKind.i64.wrap (x3+1)).toNat) default default (by omega))
    have F:=xZ F (by have h:=sget Jb x4 x3.toNat (x4.getD ((IntKind.i64.wrap (x3+1)).toNat) default) default ((IntKind.i64.wrap (x3+1)).toNat) (by simpa only[List.length_set] using hg) default; simp only[Jb]at h; exact h)
    have F:=xZ F (Zt Jb (List.set x4 x3.toNat (x4.getD ((IntKind.i64.wrap (x3+1)).toNat) default)) ((IntKind.i64.wrap (x3+1)).toNat))
    have F:=xZ F (Zv Jb (List.set x4 x3.toNat (x4.getD ((IntKind.i64.wrap (x3+1)).toNat) default)) (show(IntKind.i64.wrap (x3+1)).toNat<(List.set x4 x3.toNat (x4.getD ((IntKind.i64.wrap (x3+1)).toNat) default)).length by omega))
    have F:=xZ F (Zp Jb (List.set x4 x3.toNat (x4.getD ((IntKind.i64.wrap (x3+1)).toNat) default)) ((IntKind.i64.wrap (x3+1)).toNat))
    refine xR ?_
    refine xr ?_
    exact JE (JL H hF2) (xK ⟨[1],[]⟩)
   ·obtain⟨F,G,hq4⟩:=xH Y G hp4
    replace H:=Jj H hF2
    replace H:=Option.some.inj H
    refine xE ?_
    subst H
    refine xrD [] ?_
    exact xO ⟨[1],[]⟩
 ·obtain⟨F,G,hq1⟩:=xH Y G hp1
  refine xE ?_
  refine xr ?_
  rcases Jc H with⟨hp5,H⟩|⟨hp5,H⟩
  ·obtain⟨F,G,hq5⟩:=xH Y G hp5
   refine xT ?_
   refine xr ?_
   refine xr ?_
   refine Kc (JX a1 a3) (fun s=>[(0,.c (.os 1 4 0 a3.length)),(2,.c (.d (.v (.int .i64 a1)))),(4,.c (.d (.v (.func (.func 32) #[] #[])))),(14,.c (.d (.v (.int .i64 s.1)))),(15,.c (.d (.v (.int .i64 s.2))))]) (fun s=>[[.arr 4 (List.map Jb a3)]]) [] H (xK ⟨[1],[]⟩) ?_
   rintro n3 ⟨x5,x6⟩ o3 H hF3
   rw[JX]at H
   refine xS ?_
   refine xr ?_
   rcases Jc H with⟨hp6,H⟩|⟨hp6,H⟩
   ·obtain⟨F,G,hq6⟩:=xH Y G hp6
    refine xT ?_
    obtain⟨hg8,H⟩:=Jd H
    refine xr ?_
    obtain⟨hg9,H⟩:=Jd H
    obtain⟨hg,H⟩:=Jd H
    have F:=xZ Y (Jf Jb a3 a1.toNat default default (by omega))
    obtain⟨hg10,H⟩:=Jd H
    obtain⟨hg,H⟩:=Jd H
    have F:=xZ F (Jf Jb a3 ((IntKind.i64.wrap (Int.fdiv (IntKind.u64.wrap (IntKind.i64.wrap (x5+x6))) (2 ^ (min 1 IntKind.u64.bits)))).toNat) default default (by omega))
    obtain⟨r2,hr2,H⟩:=Jr H
    have F:=xCf F (Jan (a3.getD a1.toNat default) (a3.getD ((IntKind.i64.wrap (Int.fdiv (IntKind.u64.wrap (IntKind.i64.wrap (x5+x6))) (2 ^ (min 1 IntKind.u64.bits)))).toNat) default) r2 hr2)
    refine xR ?_
    rcases Jc H with⟨hp7,H⟩|⟨hp7,H⟩
    ·obtain⟨F,G,hq7⟩:=xH Y G hp7
     refine xT ?_
     refine xr ?_
     exact JE (JL H hF3) (xK ⟨[1],[]⟩)
    ·obtain⟨F,G,hq7⟩:=xH Y G hp7
     refine xE ?_
     refine xr ?_
     exact JE (JL H hF3) (xK ⟨[1],[]⟩)
   ·obtain⟨F,G,hq6⟩:=xH Y G hp6
    replace H:=Jj H hF3
    refine xE ?_
    refine xr ?_
    refine Kc (Jz x5) (fun s=>[(0,.c (.os 1 4 0 s.2.length)),(14,.c (.d (.v (.int .i64 x5)))),(17,.c (.d (.v (.int .i64 s.1))))]) (fun s=>[[.arr 4 (List.map Jb s.2)]]) [] H (xK ⟨[1],[]⟩) ?_
    rintro n4 ⟨x7,x8⟩ o4 H hF4
    rw[Jz]at H
    refine xS ?_
    refine xr ?_
    rcases Jc H with⟨hp8,H⟩|⟨hp8,H⟩
    ·obtain⟨F,G,hq8⟩:=xH Y G hp8
     refine xT ?_
     obtain⟨hg11,H⟩:=Jd H
     obtain⟨hg,H⟩:=Jd H
     have F:=xZ Y (Jf Jb x8 ((IntKind.i64.wrap (x7-1)).toNat) default default (by omega))
     obtain⟨hg12,H⟩:=Jd H
     obtain⟨hg,H⟩:=Jd H
     have F:=xZ F (Jf Jb x8 x7.toNat default default (by omega))
     obtain⟨hg13,H⟩:=Jd H
     obtain⟨hg,H⟩:=Jd H
     have F:=xZ F (Jf Jb x8 x7.toNat default default (by omega))
     have F:=xZ F (Zt Jb x8 x7.toNat)
     have F:=xZ F (Zv Jb x8 (show x7.toNat<x8.length by omega))
     have F:=xZ F (Zp Jb x8 x7.toNat)
     obtain⟨hg14,H⟩:=Jd H
     obtain⟨hg,H⟩:=Jd H
     have F:=xZ F (Jf Jb (List.set x8 x7.toNat (x8.getD ((IntKind.i64.wrap (x7-1)).toNat) default)) ((IntKind.i64.wrap (x7-1)).toNat) default default (by omega))
     have F:=xZ F (by have h:=sget Jb x8 x7.toNat (x8.getD ((IntKind.i64.wrap (x7-1)).toNat) default) default ((IntKind.i64.wrap (x7-1)).toNat) (by simpa only[List.length_set] using hg) default; simp only[Jb]at h; exact h)
     have F:=xZ F (Zt Jb (List.set x8 x7.toNat (x8.getD ((IntKind.i64.wrap (x7-1)).toNat) default)) ((IntKind.i64.wrap (x7-1)).toNat))
     have F:=xZ F (Zv Jb (List.set x8 x7.toNat (x8.getD ((IntKind.i64.wrap (x7-1)).toNat) default)) (show(IntKind.i64.wrap (x7-1)).toNat<(List.set x8 x7.toNat (x8.getD ((IntKind.i64.wrap (x7-1)).toNat) default)).length by omega))
     have F:=xZ F (Zp Jb (List.set x8 x7.toNat (x8.getD ((IntKind.i64.wrap (x7-1)).toNat) default)) ((IntKind.i64.wrap (x7-1)).toNat))
     refine xR ?_
     refine xr ?_
     exact JE (JL H hF4) (xK ⟨[1],[]⟩)
    ·obtain⟨F,G,hq8⟩:=xH Y G hp8
     replace H:=Jj H hF4
     replace H:=Option.some.inj H
     refine xE ?_
     subst H
     refine xrD [] ?_
     exact xO ⟨[1],[]⟩
  ·obtain⟨F,G,hq5⟩:=xH Y G hp5
   refine xE ?_
   obtain⟨hg15,H⟩:=Jd H
   refine xr ?_
   refine xr ?_
   refine xr0 ?_
   refine JF ?_
   refine KE (JW q1 a0 a1 a2 a3) (fun s=>[(0,.c (.os 1 4 0 a3.length)),(1,.c (.d (.v (.int .i64 a0)))),(2,.c (.d (.v (.int .i64 a1)))),(3,.c (.d (.v (.int .i64 a2)))),(4,.c (.d (.v (.func (.func 32) #[] #[])))),(18,.c (.d (.v (.int .i64 s.1)))),(19,.c (.d (.v (.int .i64 s.2.1)))),(20,.c (.d (.v (.int .i64 s.2.2.1)))),(21,.c (.d (.v (.int .i64 s.2.2.2))))]) (fun s=>[[.arr 4 (List.map Jb a3)]]) [] r ?_ ?_
   ·refine xS ?_
    refine xr ?_
    rcases Jc H with⟨hp17,H⟩|⟨hp17,H⟩
    ·obtain⟨F,G,hq17⟩:=xH Y G hp17
     refine xT ?_
     refine xr ?_
     refine xr ?_
     exact Je H (xK ⟨[1],[]⟩)
    ·obtain⟨F,G,hq17⟩:=xH Y G hp17
     refine xE ?_
     refine xr ?_
     refine xr ?_
     exact Je H (xK ⟨[1],[]⟩)
   ·rintro ⟨x9,x10,x11,x12⟩ H
    rw[JW]at H
    refine xS ?_
    refine xr ?_
    refine Kc (Kb q1 a0 a1 a2 a3 x9 x10) (fun s=>[(0,.c (.os 1 4 0 a3.length)),(1,.c (.d (.v (.int .i64 a0)))),(2,.c (.d (.v (.int .i64 a1)))),(3,.c (.d (.v (.int .i64 a2)))),(4,.c (.d (.v (.func (.func 32) #[] #[])))),(18,.c (.d (.v (.int .i64 x9)))),(19,.c (.d (.v (.int .i64 x10)))),(20,.c (.d (.v (.int .i64 s.1)))),(21,.c (.d (.v (.int .i64 s.2.1)))),(22,.c (.d (.v (.int .i64 s.2.2))))]) (fun s=>[[.arr 4 (List.map Jb a3)]]) [] H (xK ⟨[1],[]⟩) ?_
    rintro n5 ⟨x13,x14,x15⟩ o5 H hF5
    rw[Kb]at H
    refine xS ?_
    refine xr ?_
    rcases Jc H with⟨hp9,H⟩|⟨hp9,H⟩
    ·obtain⟨F,G,hq9⟩:=xH Y G hp9
     refine xT ?_
     obtain⟨hg16,H⟩:=Jd H
     refine xr ?_
     obtain⟨hg17,H⟩:=Jd H
     obtain⟨hg,H⟩:=Jd H
     have F:=xZ Y (Jf Jb a3 ((IntKind.i64.wrap (x15-(IntKind.i64.wrap (Int.fdiv (IntKind.u64.wrap (IntKind.i64.wrap (x13+x14))) (2 ^ (min 1 IntKind.u64.bits)))))).toNat) default default (by omega))
     obtain⟨hg18,H⟩:=Jd H
     obtain⟨hg,H⟩:=Jd H
     have F:=xZ F (Jf Jb a3 ((IntKind.i64.wrap (Int.fdiv (IntKind.u64.wrap (IntKind.i64.wrap (x13+x14))) (2 ^ (min 1 IntKind.u64.bits)))).toNat) default default (by omega))
     obtain⟨r3,hr3,H⟩:=Jr H
     have F:=xCf F (Jan (a3.getD ((IntKind.i64.wrap (x15-(IntKind.i64.wrap (Int.fdiv (IntKind.u64.wrap (IntKind.i64.wrap (x13+x14))) (2 ^ (min 1 IntKind.u64.bits)))))).toNat) default) (a3.getD ((IntKind.i64.wrap (Int.fdiv (IntKind.u64.wrap (IntKind.i64.wrap (x13+x14))) (2 ^ (min 1 IntKind.u64.bits)))).toNat) default) r3 hr3)
     refine xR ?_
     rcases Jc H with⟨hp10,H⟩|⟨hp10,H⟩
     ·obtain⟨F,G,hq10⟩:=xH Y G hp10
      refine xT ?_
      refine xr ?_
      exact JE (JL H hF5) (xK ⟨[1],[]⟩)
     ·obtain⟨F,G,hq10⟩:=xH Y G hp10
      refine xE ?_
      refine xr ?_
      exact JE (JL H hF5) (xK ⟨[1],[]⟩)
    ·obtain⟨F,G,hq9⟩:=xH Y G hp9
     replace H:=Jj H hF5
     refine xE ?_
     refine xr0 ?_
     refine JF ?_
     refine KE (JD q1 a0 a2 x9 x13) (fun s=>[(0,.c (.os 1 4 0 s.2.length)),(1,.c (.d (.v (.int .i64 a0)))),(3,.c (.d (.v (.int .i64 a2)))),(4,.c (.d (.v (.func (.func 32) #[] #[])))),(18,.c (.d (.v (.int .i64 x9)))),(20,.c (.d (.v (.int .i64 x13)))),(24,.c (.d (.v (.int .i64 s.1))))]) (fun s=>[[.arr 4 (List.map Jb s.2)]]) [] r ?_ ?_
     ·refine KE (Jp q1 a0 a1 a2 a3 x9 x13) (fun s=>[(0,.c (.os 1 4 0 a3.length)),(1,.c (.d (.v (.int .i64 a0)))),(2,.c (.d (.v (.int .i64 a1)))),(3,.c (.d (.v (.int .i64 a2)))),(4,.c (.d (.v (.func (.func 32) #[] #[])))),(18,.c (.d (.v (.int .i64 x9)))),(20,.c (.d (.v (.int .i64 x13)))),(24,.c (.d (.v (.int .i64 s.1)))),(185,.c (.d (.v (.bool s.2))))]) (fun s=>[[.arr 4 (List.map Jb a3)]]) [] r ?_ ?_
      ·rcases Jc H with⟨hp16,H⟩|⟨hp16,H⟩
       ·obtain⟨F,G,hq16⟩:=xH Y G hp16
        refine xR ?_
        exact Je H (xK ⟨[1],[]⟩)
       ·obtain⟨F,G,hq16⟩:=xH Y G hp16
        refine xR ?_
        exact Je H (xK ⟨[1],[]⟩)
      ·rintro ⟨x21,x22⟩ H
       rw[Jp]at H
       rcases Jc H with⟨hp15,H⟩|⟨hp15,H⟩
       ·obtain⟨F,G,hq15⟩:=xH Y G hp15
        refine xT ?_
        obtain⟨r6,hr6,H⟩:=Jr H
        have F:=Y
        obtain⟨hgl,H⟩:=Jd H
        have F:=xZ F hgl
        have G:=xZ G hgl
        refine xQ ?_
        refine xs 5 ?_
        refine xc ⟨[1],[]⟩ (tabG 1 (JaF x13 a1 x21 a3 r6 hr6)) ?_
        refine xl ?_
        refine xS ?_
        exact Je H (xK ⟨[1],[]⟩)
       ·obtain⟨F,G,hq15⟩:=xH Y G hp15
        refine xE ?_
        exact Je H (xK ⟨[1],[]⟩)
     ·rintro ⟨x16,x17⟩ H
      rw[JD]at H
      refine KE (JK q1 a2 x9 x16) (fun s=>[(0,.c (.os 1 4 0 s.length)),(3,.c (.d (.v (.int .i64 a2)))),(4,.c (.d (.v (.func (.func 32) #[] #[])))),(18,.c (.d (.v (.int .i64 x9)))),(24,.c (.d (.v (.int .i64 x16))))]) (fun s=>[[.arr 4 (List.map Jb s)]]) [] r ?_ ?_
      ·refine KE (JI q1 a0 a2 x9 x13 x16 x17) (fun s=>[(0,.c (.os 1 4 0 x17.length)),(1,.c (.d (.v (.int .i64 a0)))),(3,.c (.d (.v (.int .i64 a2)))),(4,.c (.d (.v (.func (.func 32) #[] #[])))),(18,.c (.d (.v (.int .i64 x9)))),(20,.c (.d (.v (.int .i64 x13)))),(24,.c (.d (.v (.int .i64 x16)))),(199,.c (.d (.v (.bool s))))]) (fun s=>[[.arr 4 (List.map Jb x17)]]) [] r ?_ ?_
       ·rcases Jc H with⟨hp14,H⟩|⟨hp14,H⟩
        ·obtain⟨F,G,hq14⟩:=xH Y G hp14
         refine xR ?_
         exact Je H (xK ⟨[1],[]⟩)
        ·obtain⟨F,G,hq14⟩:=xH Y G hp14
         refine xR ?_
         exact Je H (xK ⟨[1],[]⟩)
       ·rintro x20 H
        rw[JI]at H
        rcases Jc H with⟨hp13,H⟩|⟨hp13,H⟩
        ·obtain⟨F,G,hq13⟩:=xH Y G hp13
         refine xT ?_
         obtain⟨r5,hr5,H⟩:=Jr H
         have F:=Y
         obtain⟨hgl,H⟩:=Jd H
         have F:=xZ F hgl
         have G:=xZ G hgl
         refine xQ ?_
         refine xs 5 ?_
         refine xc ⟨[1],[]⟩ (tabG 0 (K8 q1 a0 x13 x9 x17 r5 hr5)) ?_
         refine xl ?_
         refine xS ?_
         exact Je H (xK ⟨[1],[]⟩)
        ·obtain⟨F,G,hq13⟩:=xH Y G hp13
         refine xE ?_
         exact Je H (xK ⟨[1],[]⟩)
      ·rintro x18 H
       rw[JK]at H
       refine KE (JJ q1 a2 x9 x16 x18) (fun s=>[(0,.c (.os 1 4 0 x18.length)),(3,.c (.d (.v (.int .i64 a2)))),(4,.c (.d (.v (.func (.func 32) #[] #[])))),(18,.c (.d (.v (.int .i64 x9)))),(24,.c (.d (.v (.int .i64 x16)))),(213,.c (.d (.v (.bool s))))]) (fun s=>[[.arr 4 (List.map Jb x18)]]) [] r ?_ ?_
       ·rcases Jc H with⟨hp12,H⟩|⟨hp12,H⟩
        ·obtain⟨F,G,hq12⟩:=xH Y G hp12
         refine xR ?_
         exact Je H (xK ⟨[1],[]⟩)
        ·obtain⟨F,G,hq12⟩:=xH Y G hp12
         refine xR ?_
         exact Je H (xK ⟨[1],[]⟩)
       ·rintro x19 H
        rw[JJ]at H
        rcases Jc H with⟨hp11,H⟩|⟨hp11,H⟩
        ·obtain⟨F,G,hq11⟩:=xH Y G hp11
         refine xT ?_
         obtain⟨r4,hr4,H⟩:=Jr H
         have F:=Y
         obtain⟨hgl,H⟩:=Jd H
         have F:=xZ F hgl
         have G:=xZ G hgl
         refine xQ ?_
         refine xs 5 ?_
         refine xc ⟨[1],[]⟩ (tabG 0 (K8 q1 x9 x16 a2 x18 r4 hr4)) ?_
         refine xl ?_
         replace H:=Option.some.inj H
         refine xS ?_
         subst H
         refine xnD [] ?_
         exact xO ⟨[1],[]⟩
        ·obtain⟨F,G,hq11⟩:=xH Y G hp11
         replace H:=Option.some.inj H
         refine xE ?_
         subst H
         refine xnD [] ?_
         exact xO ⟨[1],[]⟩
noncomputable def JU:Nat→(Int→Int→Int→(List Edit)→Option (List Edit))
 | 0=>(fun _ _ _ _=>none)
 | n+1=>(Ko (JU n))
theorem VK:∀ n,Kok Tryd.prog 49 true (JY (JU n))
 | 0=>⟨JiY,(by rintro _ ⟨_,_,_,_,_,H,_⟩; cases H),fun _=>by rintro _ ⟨_,_,_,_,_,_,rfl⟩; exact⟨_,_,_,rfl⟩⟩
 | n+1=>have h:=VK n; ⟨JiY,ZO _ h,fun _=>by rintro _ ⟨_,_,_,_,_,_,rfl⟩; exact⟨_,_,_,rfl⟩⟩
noncomputable def J6:Int→Int→Int→(List Edit)→Option (List Edit):=(JU bigF)
def Vf:GI→Prop:=JY J6
theorem V9(a0:Int)(a1:Int)(a2:Int)(a3:List Edit)(r:(List Edit))(H:J6 a0 a1 a2 a3=some r):Vf (JN a0 a1 a2 a3 r):=K8 J6 a0 a1 a2 a3 r H
theorem Jae:Kok Tryd.prog 49 true Vf:=(VK bigF)
noncomputable def JR(x4:Int):(List Edit)→Option ((Int×(List Edit)) ⊕ (List Edit))
 | x9=>some (.inl (IntKind.i64.wrap (x4 * 2),x9))
noncomputable def Jq(a0:Int)(x4:Int):(Int×Int×(List Edit))→Option ((Int×Int×(List Edit)) ⊕ ((Int×(List Edit)) ⊕ (List Edit)))
 | (x6,x7,x8)=>if(leI x7 a0)=true then(J6 x6 (IntKind.i64.wrap (x6+x4)) x7 x8).bind fun r3=>if r3.length=x8.length then some (.inl (x7,IntKind.i64.wrap (x7+(IntKind.i64.wrap (2 * x4))),r3)) else none else inrO (if(ltI (IntKind.i64.wrap (x6+x4)) a0)=true then(J6 x6 (IntKind.i64.wrap (x6+x4)) a0 x8).bind fun r4=>if r4.length=x8.length then JR x4 r4 else none else JR x4 x8)
noncomputable def Jh(a0:Int):(Int×(List Edit))→Option ((Int×(List Edit)) ⊕ (List Edit))
 | (x4,x5)=>if(ltI x4 a0)=true then Ji (Jq a0 x4) (0,IntKind.i64.wrap (2 * x4),x5) else inrO (some x5)
noncomputable def Jv(a0:Int):(Int×Int×(List Edit))→Option ((Int×Int×(List Edit)) ⊕ (List Edit))
 | (x1,x2,x3)=>if(leI x2 a0)=true then(JG x1 x2 x3).bind fun r1=>if r1.length=x3.length then some (.inl (x2,IntKind.i64.wrap (x2+20),r1)) else none else inrO ((JG x1 a0 x3).bind fun r2=>if r2.length=x3.length then Ji (Jh a0) (20,r2) else none)
noncomputable def Kj(a0:Int)(a1:List Edit):Option (List Edit) :=
 Ji (Jv a0) (0,20,a1)
def KA(a0:Int)(a1:List Edit)(r:(List Edit)):GI :=
 ⟨[.c (.os 1 4 0 a1.length),.c (.d (.v (.int .i64 a0))),.c (.d (.v (.func (.func 32) #[] #[])))],[[.arr 4 (List.map Jb a1)]],[],.ret (.tu []) [[.arr 4 (List.map Jb r)]] []⟩
def KC:GI→Prop:=fun g=>∃ (a0:Int) (a1:List Edit) (r:(List Edit)),Kj a0 a1=some r∧g=KA a0 a1 r
theorem JaG(a0:Int)(a1:List Edit)(r:(List Edit))(H:Kj a0 a1=some r):KC (KA a0 a1 r):=⟨a0,a1,r,H,rfl⟩
theorem Jau:∀ g,KC g→Kq Tryd.prog 38 g:=by
 rintro _ ⟨a0,a1,r,H,rfl⟩
 refine xGn mixed [] [(48,true,J1),(49,true,Vf)] [] trivial ⟨Zw,Jae,trivial⟩ trivial Tryd.func38 _ ?_
 have G:=True.intro
 have Y:=xZ Tryd.results38 <| xZ Jb.eq_1 <| xZ J2.eq_1 <| xZ JN.eq_1 <| KA.eq_1
 dsimp only[KA]
 simp only[Kj]at H
 refine xS ?_
 refine xr ?_
 refine xr ?_
 refine Kc (Jv a0) (fun s=>[(0,.c (.os 1 4 0 s.2.2.length)),(1,.c (.d (.v (.int .i64 a0)))),(2,.c (.d (.v (.func (.func 32) #[] #[])))),(6,.c (.d (.v (.int .i64 20)))),(7,.c (.d (.v (.int .i64 s.1)))),(8,.c (.d (.v (.int .i64 s.2.1))))]) (fun s=>[[.arr 4 (List.map Jb s.2.2)]]) [] H (xK ⟨[1],[]⟩) ?_
 rintro n1 ⟨x1,x2,x3⟩ o1 H hF1
 rw[Jv]at H
 refine xS ?_
 refine xr ?_
 rcases Jc H with⟨hp1,H⟩|⟨hp1,H⟩
 ·obtain⟨F,G,hq1⟩:=xH Y G hp1
  refine xT ?_
  obtain⟨r1,hr1,H⟩:=Jr H
  have F:=Y
  obtain⟨hgl,H⟩:=Jd H
  have F:=xZ F hgl
  have G:=xZ G hgl
  refine xQ ?_
  refine xs 4 ?_
  refine xc ⟨[1],[]⟩ (tabG 0 (VB x1 x2 x3 r1 hr1)) ?_
  refine xl ?_
  refine xS ?_
  refine xr ?_
  refine xr ?_
  exact JE (JL H hF1) (xK ⟨[1],[]⟩)
 ·obtain⟨F,G,hq1⟩:=xH Y G hp1
  replace H:=Jj H hF1
  refine xE ?_
  obtain⟨r2,hr2,H⟩:=Jr H
  have F:=Y
  obtain⟨hgl,H⟩:=Jd H
  have F:=xZ F hgl
  have G:=xZ G hgl
  refine xQ ?_
  refine xs 4 ?_
  refine xc ⟨[1],[]⟩ (tabG 0 (VB x1 a0 x3 r2 hr2)) ?_
  refine xl ?_
  refine xS ?_
  refine Kc (Jh a0) (fun s=>[(0,.c (.os 1 4 0 s.2.length)),(1,.c (.d (.v (.int .i64 a0)))),(2,.c (.d (.v (.func (.func 32) #[] #[])))),(6,.c (.d (.v (.int .i64 s.1))))]) (fun s=>[[.arr 4 (List.map Jb s.2)]]) [] H (xK ⟨[1],[]⟩) ?_
  rintro n2 ⟨x4,x5⟩ o2 H hF2
  rw[Jh]at H
  refine xS ?_
  refine xr ?_
  rcases Jc H with⟨hp2,H⟩|⟨hp2,H⟩
  ·obtain⟨F,G,hq2⟩:=xH Y G hp2
   refine xT ?_
   refine xr ?_
   refine Kc (Jq a0 x4) (fun s=>[(0,.c (.os 1 4 0 s.2.2.length)),(1,.c (.d (.v (.int .i64 a0)))),(2,.c (.d (.v (.func (.func 32) #[] #[])))),(6,.c (.d (.v (.int .i64 x4)))),(7,.c (.d (.v (.int .i64 s.1)))),(8,.c (.d (.v (.int .i64 s.2.1))))]) (fun s=>[[.arr 4 (List.map Jb s.2.2)]]) [] H (xK ⟨[1],[]⟩) ?_
   rintro n3 ⟨x6,x7,x8⟩ o3 H hF3
   rw[Jq]at H
   refine xS ?_
   refine xr ?_
   rcases Jc H with⟨hp3,H⟩|⟨hp3,H⟩
   ·obtain⟨F,G,hq3⟩:=xH Y G hp3
    refine xT ?_
    obtain⟨r3,hr3,H⟩:=Jr H
    have F:=Y
    obtain⟨hgl,H⟩:=Jd H
    have F:=xZ F hgl
    have G:=xZ G hgl
    refine xQ ?_
    refine xs 7 ?_
    refine xc ⟨[1],[]⟩ (tabG 1 (V9 x6 (IntKind.i64.wrap (x6+x4)) x7 x8 r3 hr3)) ?_
    refine xl ?_
    refine xS ?_
    refine xr ?_
    refine xr ?_
    exact JE (JL H hF3) (xK ⟨[1],[]⟩)
   ·obtain⟨F,G,hq3⟩:=xH Y G hp3
    replace H:=Jj H hF3
    refine xE0 ?_
    refine Jkr ?_
    refine JgU ?_
    refine Jfu ?_
    refine Je4 ?_
    refine JF ?_
    refine KE (JR x4) (fun s=>[(0,.c (.os 1 4 0 s.length)),(1,.c (.d (.v (.int .i64 a0)))),(2,.c (.d (.v (.func (.func 32) #[] #[])))),(6,.c (.d (.v (.int .i64 x4))))]) (fun s=>[[.arr 4 (List.map Jb s)]]) [] o2 ?_ ?_
    ·refine xS ?_
     refine xr ?_
     refine xr ?_
     rcases Jc H with⟨hp4,H⟩|⟨hp4,H⟩
     ·obtain⟨F,G,hq4⟩:=xH Y G hp4
      refine xT ?_
      obtain⟨r4,hr4,H⟩:=Jr H
      have F:=Y
      obtain⟨hgl,H⟩:=Jd H
      have F:=xZ F hgl
      have G:=xZ G hgl
      refine xQ ?_
      refine xs 5 ?_
      refine xc ⟨[1],[]⟩ (tabG 1 (V9 x6 (IntKind.i64.wrap (x6+x4)) a0 x8 r4 hr4)) ?_
      refine xl ?_
      refine xS ?_
      exact Je H (xK ⟨[1],[]⟩)
     ·obtain⟨F,G,hq4⟩:=xH Y G hp4
      refine xE ?_
      exact Je H (xK ⟨[1],[]⟩)
    ·rintro x9 H
     rw[JR]at H
     refine xr ?_
     exact JE (JL H hF2) (xK ⟨[1],[]⟩)
  ·obtain⟨F,G,hq2⟩:=xH Y G hp2
   replace H:=Jj H hF2
   replace H:=Option.some.inj H
   refine xE ?_
   subst H
   refine xnD [] ?_
   exact xO ⟨[1],[]⟩
theorem JaE:Jg Tryd.prog 38∧(∀ g,KC g→Kq Tryd.prog 38 g)∧(true=true→∀ g,KC g→∃ val bs ts,g.out=.ret val bs ts) :=
 ⟨JmI,Jau,fun _=>by rintro _ ⟨_,_,_,_,rfl⟩; exact⟨_,_,_,rfl⟩⟩
noncomputable def JB(a0:List Edit):Option (List Edit) :=
 (Kj ((a0.length:Nat):Int) a0).bind fun r1=>if r1.length=a0.length then some r1 else none
def JP(a0:List Edit)(r:(List Edit)):GI :=
 ⟨[.c (.os 1 4 0 a0.length),.c (.d (.v (.func (.func 32) #[] #[])))],[[.arr 4 (List.map Jb a0)]],[],.ret (.tu []) [[.arr 4 (List.map Jb r)]] []⟩
def JQ:GI→Prop:=fun g=>∃ (a0:List Edit) (r:(List Edit)),JB a0=some r∧g=JP a0 r
theorem XU(a0:List Edit)(r:(List Edit))(H:JB a0=some r):JQ (JP a0 r):=⟨a0,r,H,rfl⟩
theorem XP:∀ g,JQ g→Kq Tryd.prog 31 g:=by
 rintro _ ⟨a0,r,H,rfl⟩
 refine xGn mixed [] [(38,true,KC)] [] trivial ⟨JaE,trivial⟩ trivial Tryd.func31 _ ?_
 have G:=True.intro
 have Y:=xZ y_24 <| xZ y_41 <| xZ Tryd.results31 <| xZ Jb.eq_1 <| xZ KA.eq_1 <| JP.eq_1
 dsimp only[JP]
 simp only[JB]at H
 obtain⟨r1,hr1,H⟩:=Jr H
 have F:=Y
 obtain⟨hgl,H⟩:=Jd H
 have F:=xZ F hgl
 have G:=xZ G hgl
 refine xQ ?_
 refine xs 4 ?_
 refine xc ⟨[1],[]⟩ (tabG 0 (JaG ((a0.length:Nat):Int) a0 r1 hr1)) ?_
 refine xl ?_
 replace H:=Option.some.inj H
 refine xS ?_
 subst H
 refine xnD [] ?_
 exact xO ⟨[1],[]⟩
theorem XT:Jg Tryd.prog 31∧(∀ g,JQ g→Kq Tryd.prog 31 g)∧(true=true→∀ g,JQ g→∃ val bs ts,g.out=.ret val bs ts) :=
 ⟨JmE,XP,fun _=>by rintro _ ⟨_,_,_,rfl⟩; exact⟨_,_,_,rfl⟩⟩
noncomputable def KK(x1:Int)(x2:Int):Bool→Option ((Int×Int) ⊕ ((List Source)×Int))
 | x9=>if x9=true then inrO (some (([]:List Source),8)) else some (.inl (x1,IntKind.i64.wrap (x2+1)))
noncomputable def Vc(r4:(List Edit))(x1:Int)(x2:Int)(x4:Int)(x5:Int):Bool→Option ((Int×Int) ⊕ ((List Source)×Int))
 | x8=>if x8=true then inrO (some (([]:List Source),3)) else if(ltI 0 x2)=true then if(0:Int)≤(IntKind.i64.wrap (x2-1))∧(IntKind.i64.wrap (x2-1)).toNat<r4.length then if(IntKind.i64.wrap (x2-1)).toNat<r4.length then if(eqI ((r4.getD ((IntKind.i64.wrap (x2-1)).toNat) default).File) x4)=true then if(0:Int)≤(IntKind.i64.wrap (x2-1))∧(IntKind.i64.wrap (x2-1)).toNat<r4.length then if(IntKind.i64.wrap (x2-1)).toNat<r4.length then if(ltI x5 ((r4.getD ((IntKind.i64.wrap (x2-1)).toNat) default).To))=true then KK x1 x2 true else if(0:Int)≤(IntKind.i64.wrap (x2-1))∧(IntKind.i64.wrap (x2-1)).toNat<r4.length then if(IntKind.i64.wrap (x2-1)).toNat<r4.length then KK x1 x2 (eqI ((r4.getD ((IntKind.i64.wrap (x2-1)).toNat) default).From) x5) else none else none else none else none else KK x1 x2 false else none else none else KK x1 x2 false
noncomputable def VX(a0:List Source)(r4:(List Edit))(x1:Int)(x2:Int):(Bool×Int×Int×Int×(List UInt8))→Option ((Int×Int) ⊕ ((List Source)×Int))
 | (x3,x4,x5,x6,x7)=>if x3=true then inrO (some (([]:List Source),6)) else if(ltI x5 0)=true then Vc r4 x1 x2 x4 x5 true else if(ltI x6 x5)=true then Vc r4 x1 x2 x4 x5 true else if(0:Int)≤x4∧x4.toNat<a0.length then Vc r4 x1 x2 x4 x5 (ltI (((a0.getD x4.toNat default).Text).length:Int) x6) else none
noncomputable def XB(x11:List Source):(Int×Int)→Option ((Int×Int) ⊕ ((List Source)×Int))
 | (x12,x13)=>if(ltI x13 x12)=true then if(0:Int)≤x13∧x13.toNat<x11.length then if x13.toNat<x11.length then if(ltI 3000 (((x11.getD x13.toNat default).Text).length:Int))=true then inrO (some (([]:List Source),4)) else some (.inl (x12,IntKind.i64.wrap (x13+1))) else none else none else inrO (some (x11,0))
noncomputable def KL(r4:(List Edit)):(Int×(List Source))→Option ((Int×(List Source)) ⊕ ((List Source)×Int))
 | (x10,x11)=>if(leI 0 x10)=true then if(0:Int)≤x10∧x10.toNat<r4.length then if x10.toNat<r4.length then if(0:Int)≤((r4.getD x10.toNat default).File)∧((r4.getD x10.toNat default).File).toNat<x11.length then if((r4.getD x10.toNat default).File).toNat<x11.length then if(ltI 3000 (((r4.getD x10.toNat default).Text).length:Int))=true then inrO (some (([]:List Source),4)) else if(0:Int)≤0∧0≤((r4.getD x10.toNat default).From)∧((r4.getD x10.toNat default).From)≤(((x11.getD (((r4.getD x10.toNat default).File).toNat) default).Text).length:Int) then if(List.take (((r4.getD x10.toNat default).From).toNat) ((x11.getD (((r4.getD x10.toNat default).File).toNat) default).Text)).length+((r4.getD x10.toNat default).Text).length≤9223372036854775807 then if(0:Int)≤((r4.getD x10.toNat default).To)∧((r4.getD x10.toNat default).To)≤(((x11.getD (((r4.getD x10.toNat default).File).toNat) default).Text).length:Int)∧(((x11.getD (((r4.getD x10.toNat default).File).toNat) default).Text).length:Int)≤(((x11.getD (((r4.getD x10.toNat default).File).toNat) default).Text).length:Int) then if(List.take (((r4.getD x10.toNat default).From).toNat) ((x11.getD (((r4.getD x10.toNat default).File).toNat) default).Text)).length+((r4.getD x10.toNat default).Text).length+(List.drop (((r4.getD x10.toNat default).To).toNat) ((x11.getD (((r4.getD x10.toNat default).File).toNat) default).Text)).length≤9223372036854775807 then if(0:Int)≤((r4.getD x10.toNat default).File)∧((r4.getD x10.toNat default).File).toNat<x11.length then if((r4.getD x10.toNat default).File).toNat<x11.length then some (.inl (IntKind.i64.wrap (x10-1),List.set x11 (((r4.getD x10.toNat default).File).toNat) (⟨(x11.getD (((r4.getD x10.toNat default).File).toNat) default).Path,((List.take (((r4.getD x10.toNat default).From).toNat) ((x11.getD (((r4.getD x10.toNat default).File).toNat) default).Text))++((r4.getD x10.toNat default).Text))++(List.drop (((r4.getD x10.toNat default).To).toNat) ((x11.getD (((r4.getD x10.toNat default).File).toNat) default).Text))⟩:Source))) else none else none else none else none else none else none else none else none else none else none else inrO (Ji (XB x11) (((x11.length:Nat):Int),0))
noncomputable def XM(a0:List Source)(r4:(List Edit)):(Int×Int)→Option ((Int×Int) ⊕ ((List Source)×Int))
 | (x1,x2)=>if(ltI x2 x1)=true then if(0:Int)≤x2∧x2.toNat<r4.length then if x2.toNat<r4.length then if(ltI ((r4.getD x2.toNat default).File) 0)=true then VX a0 r4 x1 x2 (true,(r4.getD x2.toNat default).File,(r4.getD x2.toNat default).From,(r4.getD x2.toNat default).To,(r4.getD x2.toNat default).Text) else VX a0 r4 x1 x2 (leI (a0.length:Int) ((r4.getD x2.toNat default).File),(r4.getD x2.toNat default).File,(r4.getD x2.toNat default).From,(r4.getD x2.toNat default).To,(r4.getD x2.toNat default).Text) else none else none else inrO (Ji (KL r4) (IntKind.i64.wrap (((r4.length:Nat):Int)-1),a0))
noncomputable def Xk(a0:List Source)(a1:List Edit):Option ((List Source)×Int) :=
 (XR a0).bind fun r1=>if(!eqI r1.Err 0)=true then some (([]:List Source),r1.Err) else(Km a0).bind fun r2=>(Ks a1).bind fun r3=>(JB a1).bind fun r4=>if r4.length=a1.length then Ji (XM a0 r4) (((a1.length:Nat):Int),0) else none
noncomputable def Ja5:PF:=PF.of (E2 (dL 2 Ja) (dL 4 Jb)) (fun a=>Xk a.1 a.2) (T2 (dL 2 Ja) dI)
theorem Jfh:J7 Tryd.prog 17 Ja5:=by
 refine xF mixed [(9,ZW)] [(29,true,J8),(30,true,Kd),(31,true,JQ)] ⟨⟨JkT,JcF⟩,trivial⟩ ⟨ZP,Jab,XT,trivial⟩ Tryd.func17 ?_
 rintro ⟨a0,a1⟩ out H
 have G:=True.intro
 have Y:=xZ y_3 <| xZ y_9 <| xZ y_23 <| xZ y_24 <| xZ y_26 <| xZ y_28 <| xZ y_33 <| xZ y_41 <| xZ Tryd.results17 <| xZ Ja.eq_1 <| xZ Jb.eq_1 <| xZ Vw.eq_1 <| xZ K6.eq_1 <| xZ K9.eq_1 <| JP.eq_1
 simp only[Xk]at H
 refine xS ?_
 refine xr ?_
 obtain⟨r1,hr1,H⟩:=Jr H
 have F:=xC Y (Jdq a0 r1 hr1)
 refine xR ?_
 refine xr ?_
 rcases Jc H with⟨hp1,H⟩|⟨hp1,H⟩
 ·obtain⟨F,G,hq1⟩:=xH Y G hp1
  refine xT ?_
  replace H:=Option.some.inj H
  refine xr ?_
  subst H
  exact xN
 ·obtain⟨F,G,hq1⟩:=xH Y G hp1
  refine xE ?_
  obtain⟨r2,hr2,H⟩:=Jr H
  have F:=Y
  refine xQ ?_
  refine xs 1 ?_
  refine xc ⟨[],[]⟩ (tabG 0 (ZR a0 r2 hr2)) ?_
  refine xs 1 ?_
  refine xl ?_
  refine xS ?_
  obtain⟨r3,hr3,H⟩:=Jr H
  have F:=Y
  refine xQ ?_
  refine xs 1 ?_
  refine xc ⟨[],[]⟩ (tabG 1 (Z5 a1 r3 hr3)) ?_
  refine xs 1 ?_
  refine xl ?_
  refine xS ?_
  obtain⟨r4,hr4,H⟩:=Jr H
  have F:=Y
  obtain⟨hgl,H⟩:=Jd H
  have F:=xZ F hgl
  have G:=xZ G hgl
  refine xQ ?_
  refine xs 1 ?_
  refine xc ⟨[3],[]⟩ (tabG 2 (XU a1 r4 hr4)) ?_
  refine xl ?_
  refine xS ?_
  refine xr ?_
  refine Kc (XM a0 r4) (fun s=>[(0,.c (.d (.sl 2 (List.map Ja a0)))),(7,.c (.os 1 2 0 a0.length)),(8,.c (.os 2 4 0 r4.length)),(29,.c (.os 2 4 0 r4.length)),(30,.c (.d (.v (.int .i64 s.1)))),(31,.c (.d (.v (.int .i64 s.2))))]) (fun s=>[[.arr 2 (List.map Ja a0)],[.arr 4 (List.map Jb r4)]]) [] H (xK ⟨[2,3],[]⟩) ?_
  rintro n1 ⟨x1,x2⟩ o1 H hF1
  rw[XM]at H
  refine xS ?_
  refine xr ?_
  rcases Jc H with⟨hp2,H⟩|⟨hp2,H⟩
  ·obtain⟨F,G,hq2⟩:=xH Y G hp2
   refine xT ?_
   obtain⟨hg1,H⟩:=Jd H
   obtain⟨hg,H⟩:=Jd H
   have F:=xZ Y (Jf Jb r4 x2.toNat default default (by omega))
   refine xR0 ?_
   refine JF ?_
   refine Jak ?_
   refine KE (VX a0 r4 x1 x2) (fun s=>[(0,.c (.d (.sl 2 (List.map Ja a0)))),(7,.c (.os 1 2 0 a0.length)),(8,.c (.os 2 4 0 r4.length)),(9,.c (.d (.v (.int .i64 x2)))),(10,.c (.pt 3 0)),(29,.c (.os 2 4 0 r4.length)),(30,.c (.d (.v (.int .i64 x1)))),(31,.c (.d (.v (.int .i64 x2)))),(45,.c (.d (.v (.bool s.1))))]) (fun s=>[[.arr 2 (List.map Ja a0)],[.arr 4 (List.map Jb r4)],[.d (.v (.int .i64 s.2.1)),.d (.v (.int .i64 s.2.2.1)),.d (.v (.int .i64 s.2.2.2.1)),.d (.v (str s.2.2.2.2))]]) [] o1 ?_ ?_
   ·rcases Jc H with⟨hp11,H⟩|⟨hp11,H⟩
    ·obtain⟨F,G,hq11⟩:=xH Y G hp11
     refine xR ?_
     exact Je H (xK ⟨[1,2,3],[]⟩)
    ·obtain⟨F,G,hq11⟩:=xH Y G hp11
     refine xR ?_
     exact Je H (xK ⟨[1,2,3],[]⟩)
   ·rintro ⟨x3,x4,x5,x6,x7⟩ H
    rw[VX]at H
    rcases Jc H with⟨hp3,H⟩|⟨hp3,H⟩
    ·obtain⟨F,G,hq3⟩:=xH Y G hp3
     refine xT ?_
     replace H:=Jj H hF1
     replace H:=Option.some.inj H
     refine xr ?_
     subst H
     exact xN
    ·obtain⟨F,G,hq3⟩:=xH Y G hp3
     refine xE0 ?_
     refine Jby ?_
     refine JF ?_
     refine Jak ?_
     refine KE (Vc r4 x1 x2 x4 x5) (fun s=>[(0,.c (.d (.sl 2 (List.map Ja a0)))),(7,.c (.os 1 2 0 a0.length)),(8,.c (.os 2 4 0 r4.length)),(9,.c (.d (.v (.int .i64 x2)))),(10,.c (.pt 3 0)),(29,.c (.os 2 4 0 r4.length)),(30,.c (.d (.v (.int .i64 x1)))),(31,.c (.d (.v (.int .i64 x2)))),(67,.c (.d (.v (.bool s))))]) (fun s=>[[.arr 2 (List.map Ja a0)],[.arr 4 (List.map Jb r4)],[.d (.v (.int .i64 x4)),.d (.v (.int .i64 x5)),.d (.v (.int .i64 x6)),.d (.v (str x7))]]) [] o1 ?_ ?_
     ·rcases Jc H with⟨hp9,H⟩|⟨hp9,H⟩
      ·obtain⟨F,G,hq9⟩:=xH Y G hp9
       refine xR ?_
       exact Je H (xK ⟨[1,2,3],[]⟩)
      ·obtain⟨F,G,hq9⟩:=xH Y G hp9
       rcases Jc H with⟨hp10,H⟩|⟨hp10,H⟩
       ·obtain⟨F,G,hq10⟩:=xH F G hp10
        refine xR ?_
        exact Je H (xK ⟨[1,2,3],[]⟩)
       ·obtain⟨F,G,hq10⟩:=xH F G hp10
        obtain⟨hg5,H⟩:=Jd H
        have F:=xZ F (Jf Ja a0 x4.toNat default default (by omega))
        refine xR ?_
        exact Je H (xK ⟨[1,2,3],[]⟩)
     ·rintro x8 H
      rw[Vc]at H
      rcases Jc H with⟨hp4,H⟩|⟨hp4,H⟩
      ·obtain⟨F,G,hq4⟩:=xH Y G hp4
       refine xT ?_
       replace H:=Jj H hF1
       replace H:=Option.some.inj H
       refine xr ?_
       subst H
       exact xN
      ·obtain⟨F,G,hq4⟩:=xH Y G hp4
       refine xE0 ?_
       refine Jby ?_
       refine JF ?_
       refine KE (KK x1 x2) (fun s=>[(0,.c (.d (.sl 2 (List.map Ja a0)))),(7,.c (.os 1 2 0 a0.length)),(8,.c (.os 2 4 0 r4.length)),(29,.c (.os 2 4 0 r4.length)),(30,.c (.d (.v (.int .i64 x1)))),(31,.c (.d (.v (.int .i64 x2)))),(102,.c (.d (.v (.bool s))))]) (fun s=>[[.arr 2 (List.map Ja a0)],[.arr 4 (List.map Jb r4)]]) [] o1 ?_ ?_
       ·rcases Jc H with⟨hp6,H⟩|⟨hp6,H⟩
        ·obtain⟨F,G,hq6⟩:=xH Y G hp6
         obtain⟨hg2,H⟩:=Jd H
         obtain⟨hg,H⟩:=Jd H
         have F:=xZ F (Jf Jb r4 ((IntKind.i64.wrap (x2-1)).toNat) default default (by omega))
         rcases Jc H with⟨hp7,H⟩|⟨hp7,H⟩
         ·obtain⟨F,G,hq7⟩:=xH F G hp7
          obtain⟨hg3,H⟩:=Jd H
          obtain⟨hg,H⟩:=Jd H
          have F:=xZ F (Jf Jb r4 ((IntKind.i64.wrap (x2-1)).toNat) default default (by omega))
          rcases Jc H with⟨hp8,H⟩|⟨hp8,H⟩
          ·obtain⟨F,G,hq8⟩:=xH F G hp8
           refine xR ?_
           exact Je H (xK ⟨[1,2],[]⟩)
          ·obtain⟨F,G,hq8⟩:=xH F G hp8
           obtain⟨hg4,H⟩:=Jd H
           obtain⟨hg,H⟩:=Jd H
           have F:=xZ F (Jf Jb r4 ((IntKind.i64.wrap (x2-1)).toNat) default default (by omega))
           refine xR ?_
           exact Je H (xK ⟨[1,2],[]⟩)
         ·obtain⟨F,G,hq7⟩:=xH F G hp7
          refine xR ?_
          exact Je H (xK ⟨[1,2],[]⟩)
        ·obtain⟨F,G,hq6⟩:=xH Y G hp6
         refine xR ?_
         exact Je H (xK ⟨[1,2],[]⟩)
       ·rintro x9 H
        rw[KK]at H
        rcases Jc H with⟨hp5,H⟩|⟨hp5,H⟩
        ·obtain⟨F,G,hq5⟩:=xH Y G hp5
         refine xT ?_
         replace H:=Jj H hF1
         replace H:=Option.some.inj H
         refine xr ?_
         subst H
         exact xN
        ·obtain⟨F,G,hq5⟩:=xH Y G hp5
         refine xE ?_
         refine xr ?_
         exact JE (JL H hF1) (xK ⟨[1,2],[]⟩)
  ·obtain⟨F,G,hq2⟩:=xH Y G hp2
   replace H:=Jj H hF1
   refine xE ?_
   refine xr ?_
   refine Kc (KL r4) (fun s=>[(7,.c (.os 1 2 0 s.2.length)),(8,.c (.os 2 4 0 r4.length)),(11,.c (.d (.v (.int .i64 s.1))))]) (fun s=>[[.arr 2 (List.map Ja s.2)],[.arr 4 (List.map Jb r4)]]) [] H (xK ⟨[1,2],[]⟩) ?_
   rintro n2 ⟨x10,x11⟩ o2 H hF2
   rw[KL]at H
   refine xS ?_
   refine xr ?_
   rcases Jc H with⟨hp12,H⟩|⟨hp12,H⟩
   ·obtain⟨F,G,hq12⟩:=xH Y G hp12
    refine xT ?_
    obtain⟨hg6,H⟩:=Jd H
    obtain⟨hg,H⟩:=Jd H
    have F:=xZ Y (Jf Jb r4 x10.toNat default default (by omega))
    refine xR ?_
    obtain⟨hg7,H⟩:=Jd H
    obtain⟨hg,H⟩:=Jd H
    have F:=xZ Y (Jf Ja x11 (((r4.getD x10.toNat default).File).toNat) default default (by omega))
    refine xR ?_
    refine xr ?_
    rcases Jc H with⟨hp13,H⟩|⟨hp13,H⟩
    ·obtain⟨F,G,hq13⟩:=xH Y G hp13
     refine xT ?_
     replace H:=Jj H hF2
     replace H:=Option.some.inj H
     refine xr ?_
     subst H
     exact xN
    ·obtain⟨F,G,hq13⟩:=xH Y G hp13
     refine xE ?_
     obtain⟨hg8,H⟩:=Jd H
     obtain⟨hg9,H⟩:=Jd H
     obtain⟨hg10,H⟩:=Jd H
     obtain⟨hg11,H⟩:=Jd H
     obtain⟨hg12,H⟩:=Jd H
     obtain⟨hg,H⟩:=Jd H
     have F:=xZ Y (Jf Ja x11 (((r4.getD x10.toNat default).File).toNat) default default (by omega))
     have F:=xZ F (Zt Ja x11 (((r4.getD x10.toNat default).File).toNat))
     have F:=xZ F (Zv Ja x11 (show((r4.getD x10.toNat default).File).toNat<x11.length by omega))
     have F:=xZ F (Zp Ja x11 (((r4.getD x10.toNat default).File).toNat))
     refine xR ?_
     refine xr ?_
     exact JE (JL H hF2) (xK ⟨[1,2],[]⟩)
   ·obtain⟨F,G,hq12⟩:=xH Y G hp12
    replace H:=Jj H hF2
    refine xE ?_
    refine xr ?_
    refine Kc (XB x11) (fun s=>[(7,.c (.os 1 2 0 x11.length)),(142,.c (.os 1 2 0 x11.length)),(143,.c (.d (.v (.int .i64 s.1)))),(144,.c (.d (.v (.int .i64 s.2))))]) (fun s=>[[.arr 2 (List.map Ja x11)]]) [] H (xK ⟨[1],[]⟩) ?_
    rintro n3 ⟨x12,x13⟩ o3 H hF3
    rw[XB]at H
    refine xS ?_
    refine xr ?_
    rcases Jc H with⟨hp14,H⟩|⟨hp14,H⟩
    ·obtain⟨F,G,hq14⟩:=xH Y G hp14
     refine xT ?_
     obtain⟨hg13,H⟩:=Jd H
     obtain⟨hg,H⟩:=Jd H
     have F:=xZ Y (Jf Ja x11 x13.toNat default default (by omega))
     refine xR ?_
     refine xr ?_
     rcases Jc H with⟨hp15,H⟩|⟨hp15,H⟩
     ·obtain⟨F,G,hq15⟩:=xH Y G hp15
      refine xT ?_
      replace H:=Jj H hF3
      replace H:=Option.some.inj H
      refine xr ?_
      subst H
      exact xN
     ·obtain⟨F,G,hq15⟩:=xH Y G hp15
      refine xE ?_
      refine xr ?_
      exact JE (JL H hF3) (xK ⟨[1],[]⟩)
    ·obtain⟨F,G,hq14⟩:=xH Y G hp14
     replace H:=Jj H hF3
     refine xE ?_
     replace H:=Option.some.inj H
     refine xr ?_
     subst H
     refine xNf 1 2 (List.map Ja x11) [] ?_
     exact xN
theorem JfO(a0:List Source)(a1:List Edit)(r:(List Source)×Int)(H:Xk a0 a1=some r):PC Ja5 [(dL 2 Ja) a0,(dL 4 Jb) a1] (T2 (dL 2 Ja) dI r):=PF.c (a:=(a0,a1)) H
end Go.Proofs.YtfkhlbhjhdpkoaaDoor
