/- Functions of data for functions of the program. Written by dec3.py. -/
import Derived.Test.YtfkhlbhjhdpkoaaDoorZtas
set_option linter.unusedVariables false
set_option linter.unusedSimpArgs false
set_option maxHeartbeats 4000000
set_option maxRecDepth 100000
namespace Go.Proofs.YtfkhlbhjhdpkoaaDoor
open Go.RowKit
noncomputable def Xf(x1:Int)(x2:Int):Bool→Option ((Int×Int) ⊕ Fault)
 | x3=>if x3=true then inrO (some (⟨2,x2,0⟩:Fault)) else some (.inl (x1,IntKind.i64.wrap (x2+1)))
noncomputable def Z0(a0:List Source):(Int×Int)→Option ((Int×Int) ⊕ Fault)
 | (x1,x2)=>if(ltI x2 x1)=true then if(0:Int)≤x2∧x2.toNat<a0.length then(Xa ((a0.getD x2.toNat default).Path)).bind fun r1=>if(!r1)=true then inrO (some (⟨7,x2,0⟩:Fault)) else if(ltI 3000 (((a0.getD x2.toNat default).Text).length:Int))=true then inrO (some (⟨4,x2,0⟩:Fault)) else if(ltI 0 x2)=true then if(0:Int)≤(IntKind.i64.wrap (x2-1))∧(IntKind.i64.wrap (x2-1)).toNat<a0.length then Xf x1 x2 (!Op.bytesLess ((a0.getD ((IntKind.i64.wrap (x2-1)).toNat) default).Path) ((a0.getD x2.toNat default).Path)) else none else Xf x1 x2 false else none else inrO (some (⟨0,(-1),0⟩:Fault))
noncomputable def XR(a0:List Source):Option Fault :=
 if(ltI 8 (a0.length:Int))=true then some (⟨5,(-1),0⟩:Fault) else Ji (Z0 a0) ((a0.length:Int),0)
noncomputable def ZW:PF:=PF.of (E1 (dL 2 Ja)) (fun a=>XR a) Vw
theorem JcF:J7 Tryd.prog 9 ZW:=by
 refine xF mixed [(7,XZ)] [] ⟨⟨Jhz,Ja9⟩,trivial⟩ trivial Tryd.func9 ?_
 rintro a0 out H
 have G:=True.intro
 have Y:=xZ y_3 <| xZ y_9 <| xZ y_23 <| xZ y_26 <| xZ y_28 <| xZ y_33 <| xZ Tryd.results9 <| xZ Ja.eq_1 <| Vw.eq_1
 simp only[XR]at H
 refine xS ?_
 refine xr ?_
 refine xr ?_
 rcases Jc H with⟨hp1,H⟩|⟨hp1,H⟩
 ·obtain⟨F,G,hq1⟩:=xH Y G hp1
  refine xT ?_
  replace H:=Option.some.inj H
  refine xr ?_
  subst H
  exact xN
 ·obtain⟨F,G,hq1⟩:=xH Y G hp1
  refine xE ?_
  refine xr ?_
  refine Kc (Z0 a0) (fun s=>[(0,.c (.d (.sl 2 (List.map Ja a0)))),(2,.c (.pt 1 0)),(9,.c (.d (.sl 2 (List.map Ja a0)))),(10,.c (.d (.v (.int .i64 s.1)))),(11,.c (.d (.v (.int .i64 s.2))))]) (fun s=>[[.d (.v (.int .i64 0)),.d (.v (.int .i64 0)),.d (.v (.int .i64 0))]]) [] H (xK ⟨[1],[]⟩) ?_
  rintro n1 ⟨x1,x2⟩ o1 H hF1
  rw[Z0]at H
  refine xS ?_
  refine xr ?_
  rcases Jc H with⟨hp2,H⟩|⟨hp2,H⟩
  ·obtain⟨F,G,hq2⟩:=xH Y G hp2
   refine xT ?_
   obtain⟨hg1,H⟩:=Jd H
   have F:=xZ Y (Jf Ja a0 x2.toNat default default (by omega))
   refine xR ?_
   obtain⟨r1,hr1,H⟩:=Jr H
   have F:=xC Y (Jag ((a0.getD x2.toNat default).Path) r1 hr1)
   refine xR ?_
   rcases Jc H with⟨hp3,H⟩|⟨hp3,H⟩
   ·obtain⟨F,G,hq3⟩:=xH Y G hp3
    refine xT ?_
    replace H:=Jj H hF1
    replace H:=Option.some.inj H
    refine xr ?_
    subst H
    exact xN
   ·obtain⟨F,G,hq3⟩:=xH Y G hp3
    refine xE ?_
    refine xr ?_
    rcases Jc H with⟨hp4,H⟩|⟨hp4,H⟩
    ·obtain⟨F,G,hq4⟩:=xH Y G hp4
     refine xT ?_
     replace H:=Jj H hF1
     replace H:=Option.some.inj H
     refine xr ?_
     subst H
     exact xN
    ·obtain⟨F,G,hq4⟩:=xH Y G hp4
     refine xE0 ?_
     refine KE (Xf x1 x2) (fun s=>[(0,.c (.d (.sl 2 (List.map Ja a0)))),(2,.c (.pt 1 0)),(3,.c (.d (.v (.int .i64 x2)))),(9,.c (.d (.sl 2 (List.map Ja a0)))),(10,.c (.d (.v (.int .i64 x1)))),(11,.c (.d (.v (.int .i64 x2)))),(30,.c (.d (.v (.bool s))))]) (fun s=>[[.d (.v (.int .i64 0)),.d (.v (.int .i64 0)),.d (.v (.int .i64 0))]]) [] o1 ?_ ?_
     ·rcases Jc H with⟨hp6,H⟩|⟨hp6,H⟩
      ·obtain⟨F,G,hq6⟩:=xH Y G hp6
       obtain⟨hg2,H⟩:=Jd H
       have F:=xZ F (Jf Ja a0 ((IntKind.i64.wrap (x2-1)).toNat) default default (by omega))
       refine xR ?_
       exact Je H (xK ⟨[1],[]⟩)
      ·obtain⟨F,G,hq6⟩:=xH Y G hp6
       refine xR ?_
       exact Je H (xK ⟨[1],[]⟩)
     ·rintro x3 H
      rw[Xf]at H
      rcases Jc H with⟨hp5,H⟩|⟨hp5,H⟩
      ·obtain⟨F,G,hq5⟩:=xH Y G hp5
       refine xT ?_
       replace H:=Jj H hF1
       replace H:=Option.some.inj H
       refine xr ?_
       subst H
       exact xN
      ·obtain⟨F,G,hq5⟩:=xH Y G hp5
       refine xE ?_
       refine xr ?_
       exact JE (JL H hF1) (xK ⟨[1],[]⟩)
  ·obtain⟨F,G,hq2⟩:=xH Y G hp2
   replace H:=Jj H hF1
   refine xE ?_
   replace H:=Option.some.inj H
   refine xr ?_
   subst H
   exact xN
theorem Jdq(a0:List Source)(r:Fault)(H:XR a0=some r):PC ZW [(dL 2 Ja) a0] (Vw r):=PF.c (a:=a0) H
noncomputable def ZH(a0:Source)(a1:List UInt8):Option Bool :=
 some (eqS a0.Path a1)
def X2(a0:Source)(a1:List UInt8)(r:Bool):GI :=
 ⟨[.ag [.d (.v (str a0.Path)),.d (.v (str a0.Text))],.c (.pt 1 0)],[[.d (.v (str a1))]],[],.ret (.c (.d (.v (.bool r)))) [[.d (.v (str a1))]] []⟩
def XY:GI→Prop:=fun g=>∃ (a0:Source) (a1:List UInt8) (r:Bool),ZH a0 a1=some r∧g=X2 a0 a1 r
theorem JfL(a0:Source)(a1:List UInt8)(r:Bool)(H:ZH a0 a1=some r):XY (X2 a0 a1 r):=⟨a0,a1,r,H,rfl⟩
theorem JeU:∀ g,XY g→Kq Tryd.prog 26 g:=by
 rintro _ ⟨a0,a1,r,H,rfl⟩
 refine xGn mixed [] [] [] trivial trivial trivial Tryd.func26 _ ?_
 have G:=True.intro
 have Y:=xZ y_9 <| xZ y_33 <| xZ Tryd.results26 <| xZ Ja.eq_1 <| X2.eq_1
 dsimp only[X2]
 simp only[ZH]at H
 refine xS ?_
 refine xr ?_
 replace H:=Option.some.inj H
 refine xr ?_
 subst H
 refine xrD [] ?_
 exact xO ⟨[1],[]⟩
theorem JfG:Jg Tryd.prog 26∧(∀ g,XY g→Kq Tryd.prog 26 g)∧(true=true→∀ g,XY g→∃ val bs ts,g.out=.ret val bs ts) :=
 ⟨JmL,JeU,fun _=>by rintro _ ⟨_,_,_,_,rfl⟩; exact⟨_,_,_,rfl⟩⟩
noncomputable def Kl(a0:List Source)(a1:List UInt8):(Int×Int)→Option ((Int×Int) ⊕ Int)
 | (x1,x2)=>if(ltI x2 x1)=true then if(0:Int)≤x2∧x2.toNat<a0.length then(ZH (a0.getD x2.toNat default) a1).bind fun r1=>if r1=true then inrO (some x2) else some (.inl (x1,IntKind.i64.wrap (x2+1))) else none else inrO (some (-1))
noncomputable def J4(a0:List Source)(a1:List UInt8):Option Int :=
 Ji (Kl a0 a1) ((a0.length:Int),0)
def JZ(a0:List Source)(a1:List UInt8)(r:Int):GI :=
 ⟨[.c (.d (.sl 2 (List.map Ja a0))),.c (.clo 26 [1])],[[.d (.v (str a1))]],[],.ret (.c (.d (.v (.int .i64 r)))) [[.d (.v (str a1))]] []⟩
def J0:GI→Prop:=fun g=>∃ (a0:List Source) (a1:List UInt8) (r:Int),J4 a0 a1=some r∧g=JZ a0 a1 r
theorem Zj(a0:List Source)(a1:List UInt8)(r:Int)(H:J4 a0 a1=some r):J0 (JZ a0 a1 r):=⟨a0,a1,r,H,rfl⟩
theorem X7:∀ g,J0 g→Kq Tryd.prog 25 g:=by
 rintro _ ⟨a0,a1,r,H,rfl⟩
 refine xGn mixed [] [(26,true,XY)] [] trivial ⟨JfG,trivial⟩ trivial Tryd.func25 _ ?_
 have G:=True.intro
 have Y:=xZ y_23 <| xZ y_33 <| xZ Tryd.results25 <| xZ Ja.eq_1 <| xZ X2.eq_1 <| JZ.eq_1
 dsimp only[JZ]
 simp only[J4]at H
 refine xS ?_
 refine xr ?_
 refine xr ?_
 refine Kc (Kl a0 a1) (fun s=>[(0,.c (.d (.sl 2 (List.map Ja a0)))),(1,.c (.clo 26 [1])),(7,.c (.d (.v (.int .i64 s.1)))),(8,.c (.d (.v (.int .i64 s.2))))]) (fun s=>[[.d (.v (str a1))]]) [] H (xK ⟨[1],[]⟩) ?_
 rintro n1 ⟨x1,x2⟩ o1 H hF1
 rw[Kl]at H
 refine xS ?_
 refine xr ?_
 rcases Jc H with⟨hp1,H⟩|⟨hp1,H⟩
 ·obtain⟨F,G,hq1⟩:=xH Y G hp1
  refine xT ?_
  refine xr ?_
  obtain⟨hg1,H⟩:=Jd H
  have F:=xZ Y (Jf Ja a0 x2.toNat default default (by omega))
  obtain⟨r1,hr1,H⟩:=Jr H
  have F:=F
  refine xQ ?_
  refine xs 5 ?_
  refine xc ⟨[1],[]⟩ (tabG 0 (JfL (a0.getD x2.toNat default) a1 r1 hr1)) ?_
  refine xl ?_
  refine xS ?_
  rcases Jc H with⟨hp2,H⟩|⟨hp2,H⟩
  ·obtain⟨F,G,hq2⟩:=xH Y G hp2
   refine xT ?_
   replace H:=Jj H hF1
   replace H:=Option.some.inj H
   refine xr ?_
   subst H
   refine xrD [] ?_
   exact xO ⟨[1],[]⟩
  ·obtain⟨F,G,hq2⟩:=xH Y G hp2
   refine xE ?_
   refine xr ?_
   exact JE (JL H hF1) (xK ⟨[1],[]⟩)
 ·obtain⟨F,G,hq1⟩:=xH Y G hp1
  replace H:=Jj H hF1
  refine xE ?_
  replace H:=Option.some.inj H
  refine xr ?_
  subst H
  refine xrD [] ?_
  exact xO ⟨[1],[]⟩
theorem Zm:Jg Tryd.prog 25∧(∀ g,J0 g→Kq Tryd.prog 25 g)∧(true=true→∀ g,J0 g→∃ val bs ts,g.out=.ret val bs ts) :=
 ⟨Jmh,X7,fun _=>by rintro _ ⟨_,_,_,_,rfl⟩; exact⟨_,_,_,rfl⟩⟩
noncomputable def V5(a0:List Source)(a1:List UInt8):Option Int :=
 (J4 a0 a1).bind fun r1=>some r1
noncomputable def Jam:PF:=PF.of (E2 (dL 2 Ja) dS) (fun a=>V5 a.1 a.2) dI
theorem Jdt:J7 Tryd.prog 11 Jam:=by
 refine xF mixed [] [(25,true,J0)] trivial ⟨Zm,trivial⟩ Tryd.func11 ?_
 rintro ⟨a0,a1⟩ out H
 have G:=True.intro
 have Y:=xZ Tryd.results11 <| xZ Ja.eq_1 <| JZ.eq_1
 simp only[V5]at H
 refine xS ?_
 refine xr ?_
 obtain⟨r1,hr1,H⟩:=Jr H
 have F:=Y
 refine xQ ?_
 refine xs 2 ?_
 refine xc ⟨[1],[]⟩ (tabG 0 (Zj a0 a1 r1 hr1)) ?_
 refine xs 1 ?_
 refine xl ?_
 replace H:=Option.some.inj H
 refine xS ?_
 subst H
 exact xN
theorem JaK(a0:List Source)(a1:List UInt8)(r:Int)(H:V5 a0 a1=some r):PC Jam [(dL 2 Ja) a0,dS a1] (dI r):=PF.c (a:=(a0,a1)) H
noncomputable def Xq(a0:List Source)(a1:Int)(a2:List UInt8)(a3:Bool):Bool→Option Int
 | x1=>if x1=true then some (-1) else if(!a3)=true then(Vt [108,105,98,47,120] a2).bind fun r1=>(V5 a0 r1).bind fun r2=>some r2 else if(0:Int)≤a1∧a1.toNat<a0.length then(Vt ((a0.getD a1.toNat default).Path) a2).bind fun r3=>(V5 a0 r3).bind fun r4=>if(leI 0 r4)=true then some r4 else(Vt [120] a2).bind fun r5=>(V5 a0 r5).bind fun r6=>some r6 else none
noncomputable def Xy(a0:List Source)(a1:Int)(a2:List UInt8)(a3:Bool):Option Int :=
 if(ltI a1 0)=true then Xq a0 a1 a2 a3 true else Xq a0 a1 a2 a3 (leI (a0.length:Int) a1)
noncomputable def Jaq:PF:=PF.of (E4 (dL 2 Ja) dI dS dB) (fun a=>Xy a.1 a.2.1 a.2.2.1 a.2.2.2) dI
theorem JeO:J7 Tryd.prog 13 Jaq:=by
 refine xF mixed [(15,Zy),(11,Jam)] [] ⟨⟨Jjv,Jcf⟩,⟨Jju,Jdt⟩,trivial⟩ trivial Tryd.func13 ?_
 rintro ⟨a0,a1,a2,a3⟩ out H
 have G:=True.intro
 have Y:=xZ y_9 <| xZ y_23 <| xZ y_33 <| xZ Tryd.results13 <| Ja.eq_1
 simp only[Xy]at H
 refine xS ?_
 refine xr0 ?_
 refine JF ?_
 refine Jak ?_
 refine KE (Xq a0 a1 a2 a3) (fun s=>[(0,.c (.d (.sl 2 (List.map Ja a0)))),(1,.c (.d (.v (.int .i64 a1)))),(2,.c (.d (.v (str a2)))),(3,.c (.d (.v (.bool a3)))),(17,.c (.d (.v (.bool s))))]) (fun s=>[]) [] out ?_ ?_
 ·rcases Jc H with⟨hp4,H⟩|⟨hp4,H⟩
  ·obtain⟨F,G,hq4⟩:=xH Y G hp4
   refine xR ?_
   exact Je H (xK ⟨[],[]⟩)
  ·obtain⟨F,G,hq4⟩:=xH Y G hp4
   refine xR ?_
   exact Je H (xK ⟨[],[]⟩)
 ·rintro x1 H
  rw[Xq]at H
  rcases Jc H with⟨hp1,H⟩|⟨hp1,H⟩
  ·obtain⟨F,G,hq1⟩:=xH Y G hp1
   refine xT ?_
   replace H:=Option.some.inj H
   refine xr ?_
   subst H
   exact xN
  ·obtain⟨F,G,hq1⟩:=xH Y G hp1
   refine xE ?_
   refine xr ?_
   rcases Jc H with⟨hp2,H⟩|⟨hp2,H⟩
   ·obtain⟨F,G,hq2⟩:=xH Y G hp2
    refine xT ?_
    obtain⟨r1,hr1,H⟩:=Jr H
    have F:=xC Y (ZM [108,105,98,47,120] a2 r1 hr1)
    obtain⟨r2,hr2,H⟩:=Jr H
    have F:=xCf F (JaK a0 r1 r2 hr2)
    replace H:=Option.some.inj H
    refine xR ?_
    subst H
    exact xN
   ·obtain⟨F,G,hq2⟩:=xH Y G hp2
    refine xE ?_
    obtain⟨hg1,H⟩:=Jd H
    have F:=xZ Y (Jf Ja a0 a1.toNat default default (by omega))
    obtain⟨r3,hr3,H⟩:=Jr H
    have F:=xCf F (ZM ((a0.getD a1.toNat default).Path) a2 r3 hr3)
    obtain⟨r4,hr4,H⟩:=Jr H
    have F:=xCf F (JaK a0 r3 r4 hr4)
    refine xR ?_
    refine xr ?_
    rcases Jc H with⟨hp3,H⟩|⟨hp3,H⟩
    ·obtain⟨F,G,hq3⟩:=xH Y G hp3
     refine xT ?_
     replace H:=Option.some.inj H
     refine xr ?_
     subst H
     exact xN
    ·obtain⟨F,G,hq3⟩:=xH Y G hp3
     refine xE ?_
     obtain⟨r5,hr5,H⟩:=Jr H
     have F:=xC Y (ZM [120] a2 r5 hr5)
     obtain⟨r6,hr6,H⟩:=Jr H
     have F:=xCf F (JaK a0 r5 r6 hr6)
     replace H:=Option.some.inj H
     refine xR ?_
     subst H
     exact xN
theorem Je3(a0:List Source)(a1:Int)(a2:List UInt8)(a3:Bool)(r:Int)(H:Xy a0 a1 a2 a3=some r):PC Jaq [(dL 2 Ja) a0,dI a1,dS a2,dB a3] (dI r):=PF.c (a:=(a0,a1,a2,a3)) H
end Go.Proofs.YtfkhlbhjhdpkoaaDoor
