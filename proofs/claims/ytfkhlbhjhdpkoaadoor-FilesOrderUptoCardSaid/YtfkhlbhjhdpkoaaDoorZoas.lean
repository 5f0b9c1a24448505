/- Functions of data for functions of the program. Written by dec3.py. -/
import Derived.Test.YtfkhlbhjhdpkoaaDoorZoar
set_option linter.unusedVariables false
set_option linter.unusedSimpArgs false
set_option maxHeartbeats 4000000
set_option maxRecDepth 100000
namespace Go.Proofs.YtfkhlbhjhdpkoaaDoor
open Go.RowKit
noncomputable def Vx(x1:Int)(x2:Int):Bool→Option ((Int×Int) ⊕ Fault)
 | x3=>if x3=true then inrO (some (⟨2,x2,0⟩:Fault)) else some (.inl (x1,IntKind.i64.wrap (x2+1)))
noncomputable def XU(a0:List Source):(Int×Int)→Option ((Int×Int) ⊕ Fault)
 | (x1,x2)=>if(ltI x2 x1)=true then if(0:Int)≤x2∧x2.toNat<a0.length then(Vr ((a0.getD x2.toNat default).Path)).bind fun r1=>if(!r1)=true then inrO (some (⟨7,x2,0⟩:Fault)) else if(ltI 3000 (((a0.getD x2.toNat default).Text).length:Int))=true then inrO (some (⟨4,x2,0⟩:Fault)) else if(ltI 0 x2)=true then if(0:Int)≤(IntKind.i64.wrap (x2-1))∧(IntKind.i64.wrap (x2-1)).toNat<a0.length then Vx x1 x2 (!Op.bytesLess ((a0.getD ((IntKind.i64.wrap (x2-1)).toNat) default).Path) ((a0.getD x2.toNat default).Path)) else none else Vx x1 x2 false else none else inrO (some (⟨0,(-1),0⟩:Fault))
noncomputable def Vs(a0:List Source):Option Fault :=
 if(ltI 8 (a0.length:Int))=true then some (⟨5,(-1),0⟩:Fault) else Ju (XU a0) ((a0.length:Int),0)
noncomputable def V6:PF:=PF.of (E1 (dL 2 Jb)) (fun a=>Vs a) Vv
theorem ZY:Ks Tryd.prog 9 V6:=by
 refine xF mixed [(7,V1)] [] ⟨⟨Jfp,ZT⟩,trivial⟩ trivial Tryd.func9 ?_
 rintro a0 out H
 have G:=True.intro
 have Y:=xZ y_3 <| xZ y_9 <| xZ y_23 <| xZ y_26 <| xZ y_28 <| xZ y_33 <| xZ Tryd.results9 <| xZ Jb.eq_1 <| Vv.eq_1
 simp only[Vs]at H
 refine xS ?_
 refine xr ?_
 refine xr ?_
 rcases Jc H with⟨hp1,H⟩|⟨hp1,H⟩
 ·obtain⟨F,G,hq1⟩:=xH Y G hp1
  refine xT ?_
  replace H:=Option.some.inj H
  refine xr ?_
  subst H
  exact xN
 ·obtain⟨F,G,hq1⟩:=xH Y G hp1
  refine xE ?_
  refine xr ?_
  refine KS (XU a0) (fun s=>[(0,.c (.d (.sl 2 (List.map Jb a0)))),(2,.c (.pt 1 0)),(9,.c (.d (.sl 2 (List.map Jb a0)))),(10,.c (.d (.v (.int .i64 s.1)))),(11,.c (.d (.v (.int .i64 s.2))))]) (fun s=>[[.d (.v (.int .i64 0)),.d (.v (.int .i64 0)),.d (.v (.int .i64 0))]]) [] H (xK ⟨[1],[]⟩) ?_
  rintro n1 ⟨x1,x2⟩ o1 H hF1
  rw[XU]at H
  refine xS ?_
  refine xr ?_
  rcases Jc H with⟨hp2,H⟩|⟨hp2,H⟩
  ·obtain⟨F,G,hq2⟩:=xH Y G hp2
   refine xT ?_
   obtain⟨hg1,H⟩:=Jd H
   have F:=xZ Y (Jp Jb a0 x2.toNat default default (by omega))
   refine xR ?_
   obtain⟨r1,hr1,H⟩:=Jw H
   have F:=xC Y (X8 ((a0.getD x2.toNat default).Path) r1 hr1)
   refine xR ?_
   rcases Jc H with⟨hp3,H⟩|⟨hp3,H⟩
   ·obtain⟨F,G,hq3⟩:=xH Y G hp3
    refine xT ?_
    replace H:=JF H hF1
    replace H:=Option.some.inj H
    refine xr ?_
    subst H
    exact xN
   ·obtain⟨F,G,hq3⟩:=xH Y G hp3
    refine xE ?_
    refine xr ?_
    rcases Jc H with⟨hp4,H⟩|⟨hp4,H⟩
    ·obtain⟨F,G,hq4⟩:=xH Y G hp4
     refine xT ?_
     replace H:=JF H hF1
     replace H:=Option.some.inj H
     refine xr ?_
     subst H
     exact xN
    ·obtain⟨F,G,hq4⟩:=xH Y G hp4
     refine xE0 ?_
     refine Vq (Vx x1 x2) (fun s=>[(0,.c (.d (.sl 2 (List.map Jb a0)))),(2,.c (.pt 1 0)),(3,.c (.d (.v (.int .i64 x2)))),(9,.c (.d (.sl 2 (List.map Jb a0)))),(10,.c (.d (.v (.int .i64 x1)))),(11,.c (.d (.v (.int .i64 x2)))),(30,.c (.d (.v (.bool s))))]) (fun s=>[[.d (.v (.int .i64 0)),.d (.v (.int .i64 0)),.d (.v (.int .i64 0))]]) [] o1 ?_ ?_
     ·rcases Jc H with⟨hp6,H⟩|⟨hp6,H⟩
      ·obtain⟨F,G,hq6⟩:=xH Y G hp6
       obtain⟨hg2,H⟩:=Jd H
       have F:=xZ F (Jp Jb a0 ((IntKind.i64.wrap (x2-1)).toNat) default default (by omega))
       refine xR ?_
       exact Jn H (xK ⟨[1],[]⟩)
      ·obtain⟨F,G,hq6⟩:=xH Y G hp6
       refine xR ?_
       exact Jn H (xK ⟨[1],[]⟩)
     ·rintro x3 H
      rw[Vx]at H
      rcases Jc H with⟨hp5,H⟩|⟨hp5,H⟩
      ·obtain⟨F,G,hq5⟩:=xH Y G hp5
       refine xT ?_
       replace H:=JF H hF1
       replace H:=Option.some.inj H
       refine xr ?_
       subst H
       exact xN
      ·obtain⟨F,G,hq5⟩:=xH Y G hp5
       refine xE ?_
       refine xr ?_
       exact J0 (Km H hF1) (xK ⟨[1],[]⟩)
  ·obtain⟨F,G,hq2⟩:=xH Y G hp2
   replace H:=JF H hF1
   refine xE ?_
   replace H:=Option.some.inj H
   refine xr ?_
   subst H
   exact xN
theorem Jag(a0:List Source)(r:Fault)(H:Vs a0=some r):PC V6 [(dL 2 Jb) a0] (Vv r):=PF.c (a:=a0) H
noncomputable def ZH(a0:Source)(a1:List UInt8):Option Bool :=
 some (eqS a0.Path a1)
def V4(a0:Source)(a1:List UInt8)(r:Bool):GI :=
 ⟨[.ag [.d (.v (str a0.Path)),.d (.v (str a0.Text))],.c (.pt 1 0)],[[.d (.v (str a1))]],[],.ret (.c (.d (.v (.bool r)))) [[.d (.v (str a1))]] []⟩
def V2:GI→Prop:=fun g=>∃ (a0:Source) (a1:List UInt8) (r:Bool),ZH a0 a1=some r∧g=V4 a0 a1 r
theorem JdE(a0:Source)(a1:List UInt8)(r:Bool)(H:ZH a0 a1=some r):V2 (V4 a0 a1 r):=⟨a0,a1,r,H,rfl⟩
theorem Jdt:∀ g,V2 g→Kd Tryd.prog 26 g:=by
 rintro _ ⟨a0,a1,r,H,rfl⟩
 refine xGn mixed [] [] [] trivial trivial trivial Tryd.func26 _ ?_
 have G:=True.intro
 have Y:=xZ y_9 <| xZ y_33 <| xZ Tryd.results26 <| xZ Jb.eq_1 <| V4.eq_1
 dsimp only[V4]
 simp only[ZH]at H
 refine xS ?_
 refine xr ?_
 replace H:=Option.some.inj H
 refine xr ?_
 subst H
 refine xrD [] ?_
 exact xO ⟨[1],[]⟩
theorem JdF:Jf Tryd.prog 26∧(∀ g,V2 g→Kd Tryd.prog 26 g)∧(true=true→∀ g,V2 g→∃ val bs ts,g.out=.ret val bs ts) :=
 ⟨Jkq,Jdt,fun _=>by rintro _ ⟨_,_,_,_,rfl⟩; exact⟨_,_,_,rfl⟩⟩
noncomputable def Kx(a0:List Source)(a1:List UInt8):(Int×Int)→Option ((Int×Int) ⊕ Int)
 | (x1,x2)=>if(ltI x2 x1)=true then if(0:Int)≤x2∧x2.toNat<a0.length then(ZH (a0.getD x2.toNat default) a1).bind fun r1=>if r1=true then inrO (some x2) else some (.inl (x1,IntKind.i64.wrap (x2+1))) else none else inrO (some (-1))
noncomputable def Kl(a0:List Source)(a1:List UInt8):Option Int :=
 Ju (Kx a0 a1) ((a0.length:Int),0)
def JT(a0:List Source)(a1:List UInt8)(r:Int):GI :=
 ⟨[.c (.d (.sl 2 (List.map Jb a0))),.c (.clo 26 [1])],[[.d (.v (str a1))]],[],.ret (.c (.d (.v (.int .i64 r)))) [[.d (.v (str a1))]] []⟩
def JS:GI→Prop:=fun g=>∃ (a0:List Source) (a1:List UInt8) (r:Int),Kl a0 a1=some r∧g=JT a0 a1 r
theorem Xo(a0:List Source)(a1:List UInt8)(r:Int)(H:Kl a0 a1=some r):JS (JT a0 a1 r):=⟨a0,a1,r,H,rfl⟩
theorem Xg:∀ g,JS g→Kd Tryd.prog 25 g:=by
 rintro _ ⟨a0,a1,r,H,rfl⟩
 refine xGn mixed [] [(26,true,V2)] [] trivial ⟨JdF,trivial⟩ trivial Tryd.func25 _ ?_
 have G:=True.intro
 have Y:=xZ y_23 <| xZ y_33 <| xZ Tryd.results25 <| xZ Jb.eq_1 <| xZ V4.eq_1 <| JT.eq_1
 dsimp only[JT]
 simp only[Kl]at H
 refine xS ?_
 refine xr ?_
 refine xr ?_
 refine KS (Kx a0 a1) (fun s=>[(0,.c (.d (.sl 2 (List.map Jb a0)))),(1,.c (.clo 26 [1])),(7,.c (.d (.v (.int .i64 s.1)))),(8,.c (.d (.v (.int .i64 s.2))))]) (fun s=>[[.d (.v (str a1))]]) [] H (xK ⟨[1],[]⟩) ?_
 rintro n1 ⟨x1,x2⟩ o1 H hF1
 rw[Kx]at H
 refine xS ?_
 refine xr ?_
 rcases Jc H with⟨hp1,H⟩|⟨hp1,H⟩
 ·obtain⟨F,G,hq1⟩:=xH Y G hp1
  refine xT ?_
  refine xr ?_
  obtain⟨hg1,H⟩:=Jd H
  have F:=xZ Y (Jp Jb a0 x2.toNat default default (by omega))
  obtain⟨r1,hr1,H⟩:=Jw H
  have F:=F
  refine xQ ?_
  refine xs 5 ?_
  refine xc ⟨[1],[]⟩ (tabG 0 (JdE (a0.getD x2.toNat default) a1 r1 hr1)) ?_
  refine xl ?_
  refine xS ?_
  rcases Jc H with⟨hp2,H⟩|⟨hp2,H⟩
  ·obtain⟨F,G,hq2⟩:=xH Y G hp2
   refine xT ?_
   replace H:=JF H hF1
   replace H:=Option.some.inj H
   refine xr ?_
   subst H
   refine xrD [] ?_
   exact xO ⟨[1],[]⟩
  ·obtain⟨F,G,hq2⟩:=xH Y G hp2
   refine xE ?_
   refine xr ?_
   exact J0 (Km H hF1) (xK ⟨[1],[]⟩)
 ·obtain⟨F,G,hq1⟩:=xH Y G hp1
  replace H:=JF H hF1
  refine xE ?_
  replace H:=Option.some.inj H
  refine xr ?_
  subst H
  refine xrD [] ?_
  exact xO ⟨[1],[]⟩
theorem Xn:Jf Tryd.prog 25∧(∀ g,JS g→Kd Tryd.prog 25 g)∧(true=true→∀ g,JS g→∃ val bs ts,g.out=.ret val bs ts) :=
 ⟨JjX,Xg,fun _=>by rintro _ ⟨_,_,_,_,rfl⟩; exact⟨_,_,_,rfl⟩⟩
noncomputable def Xk(a0:List Source)(a1:List UInt8):Option Int :=
 (Kl a0 a1).bind fun r1=>some r1
noncomputable def Zb:PF:=PF.of (E2 (dL 2 Jb) dS) (fun a=>Xk a.1 a.2) dI
theorem JbG:Ks Tryd.prog 11 Zb:=by
 refine xF mixed [] [(25,true,JS)] trivial ⟨Xn,trivial⟩ Tryd.func11 ?_
 rintro ⟨a0,a1⟩ out H
 have G:=True.intro
 have Y:=xZ Tryd.results11 <| xZ Jb.eq_1 <| JT.eq_1
 simp only[Xk]at H
 refine xS ?_
 refine xr ?_
 obtain⟨r1,hr1,H⟩:=Jw H
 have F:=Y
 refine xQ ?_
 refine xs 2 ?_
 refine xc ⟨[1],[]⟩ (tabG 0 (Xo a0 a1 r1 hr1)) ?_
 refine xs 1 ?_
 refine xl ?_
 replace H:=Option.some.inj H
 refine xS ?_
 subst H
 exact xN
theorem ZM(a0:List Source)(a1:List UInt8)(r:Int)(H:Xk a0 a1=some r):PC Zb [(dL 2 Jb) a0,dS a1] (dI r):=PF.c (a:=(a0,a1)) H
noncomputable def Xl(a0:List Source)(a1:Int)(a2:List UInt8)(a3:Bool):Bool→Option Int
 | x1=>if x1=true then some (-1) else if(!a3)=true then(VB [108,105,98,47,120] a2).bind fun r1=>(Xk a0 r1).bind fun r2=>some r2 else if(0:Int)≤a1∧a1.toNat<a0.length then(VB ((a0.getD a1.toNat default).Path) a2).bind fun r3=>(Xk a0 r3).bind fun r4=>if(leI 0 r4)=true then some r4 else(VB [120] a2).bind fun r5=>(Xk a0 r5).bind fun r6=>some r6 else none
noncomputable def Zd(a0:List Source)(a1:Int)(a2:List UInt8)(a3:Bool):Option Int :=
 if(ltI a1 0)=true then Xl a0 a1 a2 a3 true else Xl a0 a1 a2 a3 (leI (a0.length:Int) a1)
noncomputable def Zk:PF:=PF.of (E4 (dL 2 Jb) dI dS dB) (fun a=>Zd a.1 a.2.1 a.2.2.1 a.2.2.2) dI
theorem JcL:Ks Tryd.prog 13 Zk:=by
 refine xF mixed [(15,XA),(11,Zb)] [] ⟨⟨Jhc,JaI⟩,⟨JgR,JbG⟩,trivial⟩ trivial Tryd.func13 ?_
 rintro ⟨a0,a1,a2,a3⟩ out H
 have G:=True.intro
 have Y:=xZ y_9 <| xZ y_23 <| xZ y_33 <| xZ Tryd.results13 <| Jb.eq_1
 simp only[Zd]at H
 refine xS ?_
 refine xr0 ?_
 refine KH ?_
 refine Jbf ?_
 refine Vq (Xl a0 a1 a2 a3) (fun s=>[(0,.c (.d (.sl 2 (List.map Jb a0)))),(1,.c (.d (.v (.int .i64 a1)))),(2,.c (.d (.v (str a2)))),(3,.c (.d (.v (.bool a3)))),(17,.c (.d (.v (.bool s))))]) (fun s=>[]) [] out ?_ ?_
 ·rcases Jc H with⟨hp4,H⟩|⟨hp4,H⟩
  ·obtain⟨F,G,hq4⟩:=xH Y G hp4
   refine xR ?_
   exact Jn H (xK ⟨[],[]⟩)
  ·obtain⟨F,G,hq4⟩:=xH Y G hp4
   refine xR ?_
   exact Jn H (xK ⟨[],[]⟩)
 ·rintro x1 H
  rw[Xl]at H
  rcases Jc H with⟨hp1,H⟩|⟨hp1,H⟩
  ·obtain⟨F,G,hq1⟩:=xH Y G hp1
   refine xT ?_
   replace H:=Option.some.inj H
   refine xr ?_
   subst H
   exact xN
  ·obtain⟨F,G,hq1⟩:=xH Y G hp1
   refine xE ?_
   refine xr ?_
   rcases Jc H with⟨hp2,H⟩|⟨hp2,H⟩
   ·obtain⟨F,G,hq2⟩:=xH Y G hp2
    refine xT ?_
    obtain⟨r1,hr1,H⟩:=Jw H
    have F:=xC Y (XO [108,105,98,47,120] a2 r1 hr1)
    obtain⟨r2,hr2,H⟩:=Jw H
    have F:=xCf F (ZM a0 r1 r2 hr2)
    replace H:=Option.some.inj H
    refine xR ?_
    subst H
    exact xN
   ·obtain⟨F,G,hq2⟩:=xH Y G hp2
    refine xE ?_
    obtain⟨hg1,H⟩:=Jd H
    have F:=xZ Y (Jp Jb a0 a1.toNat default default (by omega))
    obtain⟨r3,hr3,H⟩:=Jw H
    have F:=xCf F (XO ((a0.getD a1.toNat default).Path) a2 r3 hr3)
    obtain⟨r4,hr4,H⟩:=Jw H
    have F:=xCf F (ZM a0 r3 r4 hr4)
    refine xR ?_
    refine xr ?_
    rcases Jc H with⟨hp3,H⟩|⟨hp3,H⟩
    ·obtain⟨F,G,hq3⟩:=xH Y G hp3
     refine xT ?_
     replace H:=Option.some.inj H
     refine xr ?_
     subst H
     exact xN
    ·obtain⟨F,G,hq3⟩:=xH Y G hp3
     refine xE ?_
     obtain⟨r5,hr5,H⟩:=Jw H
     have F:=xC Y (XO [120] a2 r5 hr5)
     obtain⟨r6,hr6,H⟩:=Jw H
     have F:=xCf F (ZM a0 r5 r6 hr6)
     replace H:=Option.some.inj H
     refine xR ?_
     subst H
     exact xN
theorem Jc3(a0:List Source)(a1:Int)(a2:List UInt8)(a3:Bool)(r:Int)(H:Zd a0 a1 a2 a3=some r):PC Zk [(dL 2 Jb) a0,dI a1,dS a2,dB a3] (dI r):=PF.c (a:=(a0,a1,a2,a3)) H
end Go.Proofs.YtfkhlbhjhdpkoaaDoor
