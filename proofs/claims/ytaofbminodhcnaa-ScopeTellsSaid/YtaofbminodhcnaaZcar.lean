/- Functions of data for functions of the program. Written by dec3.py. -/
import Derived.Test.YtaofbminodhcnaaZcao
set_option linter.unusedVariables false
set_option linter.unusedSimpArgs false
set_option maxHeartbeats 4000000
set_option maxRecDepth 100000
namespace Go.Proofs.Ytaofbminodhcnaa
open Go.RowKit
noncomputable def JT(a0:List Token)(a1:Int)(a2:Int)(a3:Int)(a4:Int):Option Bool :=
 some (eqI a1 0)
noncomputable def KI(a0:List Token)(a1:Int)(a2:Int)(a3:Int)(a4:Int)(r:Bool):GI :=
 ⟨[.c (.pt 1 0)],[[.d (.sl 11 (List.map Jb a0)),.d (.v (.int .i64 a1)),.d (.v (.int .i64 a2)),.d (.v (.int .i64 a3)),.d (.v (.int .i64 a4))]],[],.ret (.c (.d (.v (.bool r)))) [[.d (.sl 11 (List.map Jb a0)),.d (.v (.int .i64 a1)),.d (.v (.int .i64 a2)),.d (.v (.int .i64 a3)),.d (.v (.int .i64 a4))]] []⟩
def KH:GI→Prop:=fun g=>∃ (a0:List Token) (a1:Int) (a2:Int) (a3:Int) (a4:Int) (r:Bool),JT a0 a1 a2 a3 a4=some r∧g=KI a0 a1 a2 a3 a4 r
theorem JG(a0:List Token)(a1:Int)(a2:Int)(a3:Int)(a4:Int)(r:Bool)(H:JT a0 a1 a2 a3 a4=some r):KH (KI a0 a1 a2 a3 a4 r):=⟨a0,a1,a2,a3,a4,r,H,rfl⟩
theorem Jk7:∀ g,KH g→Jx Try.prog 16 g:=by
 rintro _ ⟨a0,a1,a2,a3,a4,r,H,rfl⟩
 refine xGn mixed [] [] [] trivial trivial trivial Try.func16 _ ?_
 have G:=True.intro
 have Y:=xZ y_27 <| xZ y_29 <| xZ y_50 <| xZ Try.results16 <| xZ J2.eq_1 <| xZ Jb.eq_1 <| KI.eq_1
 dsimp only[KI]
 simp only[JT]at H
 refine xS ?_
 refine xr ?_
 replace H:=Option.some.inj H
 refine xr ?_
 subst H
 refine xrD [] ?_
 exact xO ⟨[1],[]⟩
theorem KJ:Jh Try.prog 16∧(∀ g,KH g→Jx Try.prog 16 g)∧(true=true→∀ g,KH g→∃ val bs ts,g.out=.ret val bs ts) :=
 ⟨JwS,Jk7,fun _=>by rintro _ ⟨_,_,_,_,_,_,_,rfl⟩; exact⟨_,_,_,rfl⟩⟩
noncomputable def Zu(a0:Int)(a1:List Token):Bool→Option (List UInt8)
 | x1=>if x1=true then if(0:Int)≤a0∧a0.toNat<a1.length then some ((a1.getD a0.toNat default).Text) else none else some []
noncomputable def JA(a0:Int)(a1:List Token)(a2:Int)(a3:Int)(a4:Int)(a5:Int):Option (List UInt8) :=
 if(ltI a0 (a1.length:Int))=true then if(0:Int)≤a0∧a0.toNat<a1.length then if(eqI ((a1.getD a0.toNat default).Kind) 5)=true then Zu a0 a1 true else if(0:Int)≤a0∧a0.toNat<a1.length then Zu a0 a1 (eqI ((a1.getD a0.toNat default).Kind) 1) else none else none else Zu a0 a1 false
noncomputable def Kb(a0:Int)(a1:List Token)(a2:Int)(a3:Int)(a4:Int)(a5:Int)(r:(List UInt8)):GI :=
 ⟨[.c (.pt 1 0),.c (.d (.v (.int .i64 a0)))],[[.d (.sl 11 (List.map Jb a1)),.d (.v (.int .i64 a2)),.d (.v (.int .i64 a3)),.d (.v (.int .i64 a4)),.d (.v (.int .i64 a5))]],[],.ret (.c (.d (.v (str r)))) [[.d (.sl 11 (List.map Jb a1)),.d (.v (.int .i64 a2)),.d (.v (.int .i64 a3)),.d (.v (.int .i64 a4)),.d (.v (.int .i64 a5))]] []⟩
def Ka:GI→Prop:=fun g=>∃ (a0:Int) (a1:List Token) (a2:Int) (a3:Int) (a4:Int) (a5:Int) (r:(List UInt8)),JA a0 a1 a2 a3 a4 a5=some r∧g=Kb a0 a1 a2 a3 a4 a5 r
theorem JE(a0:Int)(a1:List Token)(a2:Int)(a3:Int)(a4:Int)(a5:Int)(r:(List UInt8))(H:JA a0 a1 a2 a3 a4 a5=some r):Ka (Kb a0 a1 a2 a3 a4 a5 r):=⟨a0,a1,a2,a3,a4,a5,r,H,rfl⟩
theorem Jj1:∀ g,Ka g→Jx Try.prog 31 g:=by
 rintro _ ⟨a0,a1,a2,a3,a4,a5,r,H,rfl⟩
 refine xGn mixed [] [] [] trivial trivial trivial Try.func31 _ ?_
 have G:=True.intro
 have Y:=xZ y_3 <| xZ y_9 <| xZ y_22 <| xZ y_44 <| xZ y_50 <| xZ Try.results31 <| xZ J2.eq_1 <| xZ Jb.eq_1 <| Kb.eq_1
 dsimp only[Kb]
 simp only[JA]at H
 refine xS ?_
 refine xr0 ?_
 refine Jq ?_
 refine Zn ?_
 refine JB (Zu a0 a1) (fun s=>[(0,.c (.pt 1 0)),(1,.c (.d (.v (.int .i64 a0)))),(33,.c (.d (.v (.bool s))))]) (fun s=>[[.d (.sl 11 (List.map Jb a1)),.d (.v (.int .i64 a2)),.d (.v (.int .i64 a3)),.d (.v (.int .i64 a4)),.d (.v (.int .i64 a5))]]) [] r ?_ ?_
 ·rcases Jc H with⟨hp2,H⟩|⟨hp2,H⟩
  ·obtain⟨F,G,hq2⟩:=xH Y G hp2
   obtain⟨hg2,H⟩:=Jj H
   have F:=xZ F (Jr Jb a1 a0.toNat default default (by omega))
   rcases Jc H with⟨hp3,H⟩|⟨hp3,H⟩
   ·obtain⟨F,G,hq3⟩:=xH F G hp3
    refine xR ?_
    exact Jf H (xK ⟨[1],[]⟩)
   ·obtain⟨F,G,hq3⟩:=xH F G hp3
    obtain⟨hg3,H⟩:=Jj H
    have F:=xZ F (Jr Jb a1 a0.toNat default default (by omega))
    refine xR ?_
    exact Jf H (xK ⟨[1],[]⟩)
  ·obtain⟨F,G,hq2⟩:=xH Y G hp2
   refine xR ?_
   exact Jf H (xK ⟨[1],[]⟩)
 ·rintro x1 H
  rw[Zu]at H
  rcases Jc H with⟨hp1,H⟩|⟨hp1,H⟩
  ·obtain⟨F,G,hq1⟩:=xH Y G hp1
   refine xT ?_
   obtain⟨hg1,H⟩:=Jj H
   have F:=xZ Y (Jr Jb a1 a0.toNat default default (by omega))
   replace H:=Option.some.inj H
   refine xR ?_
   subst H
   refine xrD [] ?_
   exact xO ⟨[1],[]⟩
  ·obtain⟨F,G,hq1⟩:=xH Y G hp1
   refine xE ?_
   replace H:=Option.some.inj H
   refine xr ?_
   subst H
   refine xrD [] ?_
   exact xO ⟨[1],[]⟩
theorem Kw:Jh Try.prog 31∧(∀ g,Ka g→Jx Try.prog 31 g)∧(true=true→∀ g,Ka g→∃ val bs ts,g.out=.ret val bs ts) :=
 ⟨Jxf,Jj1,fun _=>by rintro _ ⟨_,_,_,_,_,_,_,_,rfl⟩; exact⟨_,_,_,rfl⟩⟩
noncomputable def Jbf(a0:List (List UInt8))(a1:List UInt8):(Int×Int)→Option ((Int×Int) ⊕ Bool)
 | (x1,x2)=>if(ltI x2 x1)=true then if(0:Int)≤x2∧x2.toNat<a0.length then if(eqS (a0.getD x2.toNat default) a1)=true then inrO (some true) else some (.inl (x1,IntKind.i64.wrap (x2+1))) else none else inrO (some false)
noncomputable def Jaf(a0:List (List UInt8))(a1:List UInt8):Option Bool :=
 Jt (Jbf a0 a1) ((a0.length:Int),0)
noncomputable def Jbh:PF:=PF.of (E2 (dL 1 dS) dS) (fun a=>Jaf a.1 a.2) dB
theorem JdD:Kl Try.prog 26 Jbh:=by
 refine xF mixed [] [] trivial trivial Try.func26 ?_
 rintro ⟨a0,a1⟩ out H
 have G:=True.intro
 have Y:=xZ y_9 <| xZ y_41 <| Try.results26
 simp only[Jaf]at H
 refine xS ?_
 refine xr ?_
 refine xr ?_
 refine Ke (Jbf a0 a1) (fun s=>[(1,.c (.d (.v (str a1)))),(7,.c (.d (.sl 1 (List.map dS a0)))),(8,.c (.d (.v (.int .i64 s.1)))),(9,.c (.d (.v (.int .i64 s.2))))]) (fun s=>[]) [] H (xK ⟨[],[]⟩) ?_
 rintro n1 ⟨x1,x2⟩ o1 H hF1
 rw[Jbf]at H
 refine xS ?_
 refine xr ?_
 rcases Jc H with⟨hp1,H⟩|⟨hp1,H⟩
 ·obtain⟨F,G,hq1⟩:=xH Y G hp1
  refine xT ?_
  obtain⟨hg1,H⟩:=Jj H
  have F:=xZ Y (Jr dS a0 x2.toNat default default (by omega))
  refine xR ?_
  refine xr ?_
  rcases Jc H with⟨hp2,H⟩|⟨hp2,H⟩
  ·obtain⟨F,G,hq2⟩:=xH Y G hp2
   refine xT ?_
   replace H:=Js H hF1
   replace H:=Option.some.inj H
   refine xr ?_
   subst H
   exact xN
  ·obtain⟨F,G,hq2⟩:=xH Y G hp2
   refine xE ?_
   refine xr ?_
   exact JD (JM H hF1) (xK ⟨[],[]⟩)
 ·obtain⟨F,G,hq1⟩:=xH Y G hp1
  replace H:=Js H hF1
  refine xE ?_
  replace H:=Option.some.inj H
  refine xr ?_
  subst H
  exact xN
theorem Jed(a0:List (List UInt8))(a1:List UInt8)(r:Bool)(H:Jaf a0 a1=some r):PC Jbh [(dL 1 dS) a0,dS a1] (dB r):=PF.c (a:=(a0,a1)) H
noncomputable def Jbt(a0:List UInt8):Option Bool :=
 (Jaf [[105,110,116],[99,104,97,114],[108,111,110,103],[118,111,105,100]] a0).bind fun r1=>some r1
noncomputable def Jdg:PF:=PF.of (E1 dS) (fun a=>Jbt a) dB
theorem Jg0:Kl Try.prog 47 Jdg:=by
 refine xF mixed [(26,Jbh)] [] ⟨⟨JjJ,JdD⟩,trivial⟩ trivial Try.func47 ?_
 rintro a0 out H
 have G:=True.intro
 have Y:=xZ y_9 <| xZ y_41 <| Try.results47
 simp only[Jbt]at H
 refine xS ?_
 refine xr ?_
 obtain⟨r1,hr1,H⟩:=Jg H
 have F:=xC Y (Jed [[105,110,116],[99,104,97,114],[108,111,110,103],[118,111,105,100]] a0 r1 hr1)
 replace H:=Option.some.inj H
 refine xR ?_
 subst H
 exact xN
theorem Jhg(a0:List UInt8)(r:Bool)(H:Jbt a0=some r):PC Jdg [dS a0] (dB r):=PF.c (a:=a0) H
noncomputable def ZT:Bool→Option Bool
 | x1=>some x1
noncomputable def XV(a0:EB)(a1:Int)(a2:List Token)(a3:Int)(a4:Int)(a5:Int)(a6:Int):Option Bool :=
 (JA a1 a2 a3 a4 a5 a6).bind fun r1=>(Jbt r1).bind fun r2=>if r2=true then ZT true else(JA a1 a2 a3 a4 a5 a6).bind fun r3=>if r3.length≤9223372036854775807 then ZT (ebV a0 r3) else none
noncomputable def X4(a0:EB)(a1:Int)(a2:List Token)(a3:Int)(a4:Int)(a5:Int)(a6:Int)(r:Bool):GI :=
 ⟨[.c (.pt 1 0),.c (.fm (EM Try.prog 52 (cvK a0))),.c (.d (.v (.int .i64 a1)))],[[.d (.sl 11 (List.map Jb a2)),.d (.v (.int .i64 a3)),.d (.v (.int .i64 a4)),.d (.v (.int .i64 a5)),.d (.v (.int .i64 a6))]],[],.ret (.c (.d (.v (.bool r)))) [[.d (.sl 11 (List.map Jb a2)),.d (.v (.int .i64 a3)),.d (.v (.int .i64 a4)),.d (.v (.int .i64 a5)),.d (.v (.int .i64 a6))]] []⟩
def Zd:GI→Prop:=fun g=>∃ (a0:EB) (a1:Int) (a2:List Token) (a3:Int) (a4:Int) (a5:Int) (a6:Int) (r:Bool),XV a0 a1 a2 a3 a4 a5 a6=some r∧g=X4 a0 a1 a2 a3 a4 a5 a6 r
theorem Jfy(a0:EB)(a1:Int)(a2:List Token)(a3:Int)(a4:Int)(a5:Int)(a6:Int)(r:Bool)(H:XV a0 a1 a2 a3 a4 a5 a6=some r):Zd (X4 a0 a1 a2 a3 a4 a5 a6 r):=⟨a0,a1,a2,a3,a4,a5,a6,r,H,rfl⟩
theorem Jig:∀ g,Zd g→Jx Try.prog 56 g:=by
 rintro _ ⟨a0,a1,a2,a3,a4,a5,a6,r,H,rfl⟩
 refine xGn mixed [(47,Jdg)] [(31,true,Ka)] [] ⟨⟨JrQ,Jg0⟩,trivial⟩ ⟨Kw,trivial⟩ trivial Try.func56 _ ?_
 have G:=True.intro
 have Y:=xZ Try.results56 <| xZ J2.eq_1 <| xZ Jb.eq_1 <| xZ Kb.eq_1 <| xZ X4.eq_1 <| xZ JbH <| xZ JaH <| xZ JaE <| xZ JbF <| xZ JbL <| xZ JaG <| xZ JaF <| JbM
 dsimp only[X4]
 simp only[XV]at H
 refine xS ?_
 refine xr0 ?_
 refine Jq ?_
 refine JB ZT (fun s=>[(6,.c (.d (.v (.bool s))))]) (fun s=>[[.d (.sl 11 (List.map Jb a2)),.d (.v (.int .i64 a3)),.d (.v (.int .i64 a4)),.d (.v (.int .i64 a5)),.d (.v (.int .i64 a6))]]) [] r ?_ ?_
 ·obtain⟨r1,hr1,H⟩:=Jg H
  have F:=Y
  obtain⟨r2,hr2,H⟩:=Jg H
  have F:=xCf F (Jhg r1 r2 hr2)
  rcases Jc H with⟨hp1,H⟩|⟨hp1,H⟩
  ·obtain⟨F,G,hq1⟩:=xH F G hp1
   refine xQ ?_
   refine xs 2 ?_
   refine xc ⟨[1],[]⟩ (tabG 0 (JE a1 a2 a3 a4 a5 a6 r1 hr1)) ?_
   refine xs 9 ?_
   refine xl ?_
   refine xS ?_
   exact Jf H (xK ⟨[1],[]⟩)
  ·obtain⟨F,G,hq1⟩:=xH F G hp1
   obtain⟨r3,hr3,H⟩:=Jg H
   have F:=F
   obtain⟨hg1,H⟩:=Jj H
   refine xQ ?_
   refine xs 2 ?_
   refine xc ⟨[1],[]⟩ (tabG 0 (JE a1 a2 a3 a4 a5 a6 r1 hr1)) ?_
   refine xs 5 ?_
   refine xc ⟨[1],[]⟩ (tabG 0 (JE a1 a2 a3 a4 a5 a6 r3 hr3)) ?_
   refine xs 3 ?_
   refine xl ?_
   refine xS ?_
   exact Jf H (xK ⟨[1],[]⟩)
 ·rintro x1 H
  rw[ZT]at H
  replace H:=Option.some.inj H
  refine xS ?_
  subst H
  refine xrD [] ?_
  exact xO ⟨[1],[]⟩
theorem JfC:Jh Try.prog 56∧(∀ g,Zd g→Jx Try.prog 56 g)∧(true=true→∀ g,Zd g→∃ val bs ts,g.out=.ret val bs ts) :=
 ⟨Jwh,Jig,fun _=>by rintro _ ⟨_,_,_,_,_,_,_,_,_,rfl⟩; exact⟨_,_,_,rfl⟩⟩
noncomputable def JeL(a0:List Token)(a1:Int)(a2:Int):Option Fault :=
 if(ltI a1 (a0.length:Int))=true then if(0:Int)≤a1∧a1.toNat<a0.length then if(0:Int)≤a1∧a1.toNat<a0.length then some (⟨a2,(a0.getD a1.toNat default).File,(a0.getD a1.toNat default).At⟩:Fault) else none else none else if(ltI 0 (a0.length:Int))=true then if(0:Int)≤(IntKind.i64.wrap ((a0.length:Int)-1))∧(IntKind.i64.wrap ((a0.length:Int)-1)).toNat<a0.length then some (⟨a2,(a0.getD ((IntKind.i64.wrap ((a0.length:Int)-1)).toNat) default).File,(a0.getD ((IntKind.i64.wrap ((a0.length:Int)-1)).toNat) default).End⟩:Fault) else none else some (⟨a2,(-1),0⟩:Fault)
noncomputable def JfW:PF:=PF.of (E3 (dL 11 Jb) dI dI) (fun a=>JeL a.1 a.2.1 a.2.2) JW
theorem Jov:Kl Try.prog 77 JfW:=by
 refine xF mixed [] [] trivial trivial Try.func77 ?_
 rintro ⟨a0,a1,a2⟩ out H
 have G:=True.intro
 have Y:=xZ y_3 <| xZ y_22 <| xZ y_27 <| xZ y_29 <| xZ y_44 <| xZ Try.results77 <| xZ J2.eq_1 <| xZ Jb.eq_1 <| JW.eq_1
 simp only[JeL]at H
 refine xS ?_
 refine xr ?_
 refine xr ?_
 rcases Jc H with⟨hp1,H⟩|⟨hp1,H⟩
 ·obtain⟨F,G,hq1⟩:=xH Y G hp1
  refine xT ?_
  obtain⟨hg1,H⟩:=Jj H
  have F:=xZ Y (Jr Jb a0 a1.toNat default default (by omega))
  obtain⟨hg2,H⟩:=Jj H
  have F:=xZ F (Jr Jb a0 a1.toNat default default (by omega))
  replace H:=Option.some.inj H
  refine xR ?_
  subst H
  exact xN
 ·obtain⟨F,G,hq1⟩:=xH Y G hp1
  refine xE ?_
  refine xr ?_
  rcases Jc H with⟨hp2,H⟩|⟨hp2,H⟩
  ·obtain⟨F,G,hq2⟩:=xH Y G hp2
   refine xT ?_
   obtain⟨hg3,H⟩:=Jj H
   have F:=xZ Y (Jr Jb a0 ((IntKind.i64.wrap ((a0.length:Int)-1)).toNat) default default (by omega))
   refine xR ?_
   replace H:=Option.some.inj H
   refine xr ?_
   subst H
   exact xN
  ·obtain⟨F,G,hq2⟩:=xH Y G hp2
   refine xE ?_
   replace H:=Option.some.inj H
   refine xr ?_
   subst H
   exact xN
theorem JpJ(a0:List Token)(a1:Int)(a2:Int)(r:Fault)(H:JeL a0 a1 a2=some r):PC JfW [(dL 11 Jb) a0,dI a1,dI a2] (JW r):=PF.c (a:=(a0,a1,a2)) H
noncomputable def VD(a0:Int)(a1:Int)(a2:List Token)(a3:Int)(a4:Int)(a5:Int)(a6:Int):Option (Int×Int×Int) :=
 if(eqI a3 0)=true then(JeL a2 a0 a1).bind fun r1=>some (r1.Err,r1.File,r1.At) else some (a3,a4,a5)
noncomputable def Vr(a0:Int)(a1:Int)(a2:List Token)(a3:Int)(a4:Int)(a5:Int)(a6:Int)(r:(Int×Int×Int)):GI :=
 ⟨[.c (.pt 1 0),.c (.d (.v (.int .i64 a0))),.c (.d (.v (.int .i64 a1)))],[[.d (.sl 11 (List.map Jb a2)),.d (.v (.int .i64 a3)),.d (.v (.int .i64 a4)),.d (.v (.int .i64 a5)),.d (.v (.int .i64 a6))]],[],.ret (.tu []) [[.d (.sl 11 (List.map Jb a2)),.d (.v (.int .i64 r.1)),.d (.v (.int .i64 r.2.1)),.d (.v (.int .i64 r.2.2)),.d (.v (.int .i64 a6))]] []⟩
def Vp:GI→Prop:=fun g=>∃ (a0:Int) (a1:Int) (a2:List Token) (a3:Int) (a4:Int) (a5:Int) (a6:Int) (r:(Int×Int×Int)),VD a0 a1 a2 a3 a4 a5 a6=some r∧g=Vr a0 a1 a2 a3 a4 a5 a6 r
theorem Z6(a0:Int)(a1:Int)(a2:List Token)(a3:Int)(a4:Int)(a5:Int)(a6:Int)(r:(Int×Int×Int))(H:VD a0 a1 a2 a3 a4 a5 a6=some r):Vp (Vr a0 a1 a2 a3 a4 a5 a6 r):=⟨a0,a1,a2,a3,a4,a5,a6,r,H,rfl⟩
theorem Jj5:∀ g,Vp g→Jx Try.prog 57 g:=by
 rintro _ ⟨a0,a1,a2,a3,a4,a5,a6,r,H,rfl⟩
 refine xGn mixed [(77,JfW)] [] [] ⟨⟨Jv3,Jov⟩,trivial⟩ trivial trivial Try.func57 _ ?_
 have G:=True.intro
 have Y:=xZ y_22 <| xZ y_27 <| xZ y_29 <| xZ y_50 <| xZ Try.results57 <| xZ J2.eq_1 <| xZ Jb.eq_1 <| xZ JW.eq_1 <| Vr.eq_1
 dsimp only[Vr]
 simp only[VD]at H
 refine xS ?_
 refine xr ?_
 rcases Jc H with⟨hp1,H⟩|⟨hp1,H⟩
 ·obtain⟨F,G,hq1⟩:=xH Y G hp1
  refine xT ?_
  obtain⟨r1,hr1,H⟩:=Jg H
  have F:=xC Y (JpJ a2 a0 a1 r1 hr1)
  replace H:=Option.some.inj H
  refine xR ?_
  subst H
  refine xnD [] ?_
  exact xO ⟨[1],[]⟩
 ·obtain⟨F,G,hq1⟩:=xH Y G hp1
  replace H:=Option.some.inj H
  refine xE ?_
  subst H
  refine xnD [] ?_
  exact xO ⟨[1],[]⟩
theorem ZY:Jh Try.prog 57∧(∀ g,Vp g→Jx Try.prog 57 g)∧(true=true→∀ g,Vp g→∃ val bs ts,g.out=.ret val bs ts) :=
 ⟨JwE,Jj5,fun _=>by rintro _ ⟨_,_,_,_,_,_,_,_,_,rfl⟩; exact⟨_,_,_,rfl⟩⟩
noncomputable def JaY(a1:Int):(Int×Int×Int)→Option (Int×Int×Int×Int)
 | (x1,x2,x3)=>some (IntKind.i64.wrap (a1+1),x1,x2,x3)
noncomputable def Xr(a0:EB)(a1:Int)(a2:List Token)(a3:Int)(a4:Int)(a5:Int)(a6:Int):Option (Int×Int×Int×Int) :=
 (XV a0 a1 a2 a3 a4 a5 a6).bind fun r1=>if(!r1)=true then(VD a1 2 a2 a3 a4 a5 a6).bind fun r2=>JaY a1 (r2.1,r2.2.1,r2.2.2) else JaY a1 (a3,a4,a5)
noncomputable def Z2(a0:EB)(a1:Int)(a2:List Token)(a3:Int)(a4:Int)(a5:Int)(a6:Int)(r:(Int×Int×Int×Int)):GI :=
 ⟨[.c (.pt 1 0),.c (.fm (EM Try.prog 52 (cvK a0))),.c (.d (.v (.int .i64 a1)))],[[.d (.sl 11 (List.map Jb a2)),.d (.v (.int .i64 a3)),.d (.v (.int .i64 a4)),.d (.v (.int .i64 a5)),.d (.v (.int .i64 a6))]],[],.ret (.tu [(true,[.d (.v (.int .i64 16)),.d (.v (.int .i64 a1)),.sl 3 [] 0]),(false,[.d (.v (.int .i64 r.1))])]) [[.d (.sl 11 (List.map Jb a2)),.d (.v (.int .i64 r.2.1)),.d (.v (.int .i64 r.2.2.1)),.d (.v (.int .i64 r.2.2.2)),.d (.v (.int .i64 a6))]] []⟩
def Z4:GI→Prop:=fun g=>∃ (a0:EB) (a1:Int) (a2:List Token) (a3:Int) (a4:Int) (a5:Int) (a6:Int) (r:(Int×Int×Int×Int)),Xr a0 a1 a2 a3 a4 a5 a6=some r∧g=Z2 a0 a1 a2 a3 a4 a5 a6 r
theorem Jet(a0:EB)(a1:Int)(a2:List Token)(a3:Int)(a4:Int)(a5:Int)(a6:Int)(r:(Int×Int×Int×Int))(H:Xr a0 a1 a2 a3 a4 a5 a6=some r):Z4 (Z2 a0 a1 a2 a3 a4 a5 a6 r):=⟨a0,a1,a2,a3,a4,a5,a6,r,H,rfl⟩
theorem JjY:∀ g,Z4 g→Jx Try.prog 33 g:=by
 rintro _ ⟨a0,a1,a2,a3,a4,a5,a6,r,H,rfl⟩
 refine xGn mixed [] [(56,true,Zd),(57,true,Vp)] [] trivial ⟨JfC,ZY,trivial⟩ trivial Try.func33 _ ?_
 have G:=True.intro
 have Y:=xZ y_3 <| xZ y_24 <| xZ y_26 <| xZ Try.results33 <| xZ J2.eq_1 <| xZ Jb.eq_1 <| xZ Vu <| xZ JW.eq_1 <| xZ X4.eq_1 <| xZ Vr.eq_1 <| Z2.eq_1
 dsimp only[Z2]
 simp only[Xr]at H
 refine xS ?_
 refine xr0 ?_
 refine Jq ?_
 refine JB (JaY a1) (fun s=>[(2,.c (.d (.v (.int .i64 a1)))),(6,.c (.pt 2 0))]) (fun s=>[[.d (.sl 11 (List.map Jb a2)),.d (.v (.int .i64 s.1)),.d (.v (.int .i64 s.2.1)),.d (.v (.int .i64 s.2.2)),.d (.v (.int .i64 a6))],[.d (.v (.int .i64 0)),.d (.v (.int .i64 0)),.sl 3 [] 0]]) [] r ?_ ?_
 ·refine xS ?_
  obtain⟨r1,hr1,H⟩:=Jg H
  have F:=Y
  refine xQ ?_
  refine xs 3 ?_
  refine xc ⟨[1],[]⟩ (tabG 0 (Jfy a0 a1 a2 a3 a4 a5 a6 r1 hr1)) ?_
  refine xs 1 ?_
  refine xl ?_
  refine xS ?_
  rcases Jc H with⟨hp1,H⟩|⟨hp1,H⟩
  ·obtain⟨F,G,hq1⟩:=xH Y G hp1
   refine xT ?_
   obtain⟨r2,hr2,H⟩:=Jg H
   have F:=Y
   refine xQ ?_
   refine xs 2 ?_
   refine xc ⟨[1],[]⟩ (tabG 1 (Z6 a1 2 a2 a3 a4 a5 a6 r2 hr2)) ?_
   refine xl ?_
   refine xS ?_
   exact Jf H (xK ⟨[1,2],[]⟩)
  ·obtain⟨F,G,hq1⟩:=xH Y G hp1
   refine xE ?_
   exact Jf H (xK ⟨[1,2],[]⟩)
 ·rintro ⟨x1,x2,x3⟩ H
  rw[JaY]at H
  refine xS ?_
  replace H:=Option.some.inj H
  refine xr ?_
  subst H
  refine xrD [] ?_
  exact xO ⟨[1],[]⟩
theorem Jgv:Jh Try.prog 33∧(∀ g,Z4 g→Jx Try.prog 33 g)∧(true=true→∀ g,Z4 g→∃ val bs ts,g.out=.ret val bs ts) :=
 ⟨JwO,JjY,fun _=>by rintro _ ⟨_,_,_,_,_,_,_,_,_,rfl⟩; exact⟨_,_,_,rfl⟩⟩
noncomputable def Jda(a0:List UInt8):Option Bool :=
 (Jaf [[105,110,116],[99,104,97,114],[108,111,110,103],[118,111,105,100],[116,121,112,101,100,101,102],[105,102],[101,108,115,101],[119,104,105,108,101],[114,101,116,117,114,110]] a0).bind fun r1=>some r1
noncomputable def Jfm:PF:=PF.of (E1 dS) (fun a=>Jda a) dB
theorem JlN:Kl Try.prog 14 Jfm:=by
 refine xF mixed [(26,Jbh)] [] ⟨⟨JjJ,JdD⟩,trivial⟩ trivial Try.func14 ?_
 rintro a0 out H
 have G:=True.intro
 have Y:=xZ y_9 <| xZ y_41 <| Try.results14
 simp only[Jda]at H
 refine xS ?_
 refine xr ?_
 obtain⟨r1,hr1,H⟩:=Jg H
 have F:=xC Y (Jed [[105,110,116],[99,104,97,114],[108,111,110,103],[118,111,105,100],[116,121,112,101,100,101,102],[105,102],[101,108,115,101],[119,104,105,108,101],[114,101,116,117,114,110]] a0 r1 hr1)
 replace H:=Option.some.inj H
 refine xR ?_
 subst H
 exact xN
theorem Joz(a0:List UInt8)(r:Bool)(H:Jda a0=some r):PC Jfm [dS a0] (dB r):=PF.c (a:=a0) H
noncomputable def Xe(a0:Int)(a1:List Token)(a2:Int)(a3:Int)(a4:Int)(a5:Int):Bool→Option (Int×Int×Int)
 | x1=>if x1=true then(VD a0 2 a1 a2 a3 a4 a5).bind fun r1=>some (r1.1,r1.2.1,r1.2.2) else some (a2,a3,a4)
noncomputable def VI(a0:Int)(a1:List Token)(a2:Int)(a3:Int)(a4:Int)(a5:Int):Option (Int×Int×Int) :=
 if(leI (a1.length:Int) a0)=true then Xe a0 a1 a2 a3 a4 a5 true else if(0:Int)≤a0∧a0.toNat<a1.length then if(!eqI ((a1.getD a0.toNat default).Kind) 1)=true then Xe a0 a1 a2 a3 a4 a5 true else if(0:Int)≤a0∧a0.toNat<a1.length then(Jda ((a1.getD a0.toNat default).Text)).bind fun r2=>Xe a0 a1 a2 a3 a4 a5 r2 else none else none
noncomputable def ZD(a0:Int)(a1:List Token)(a2:Int)(a3:Int)(a4:Int)(a5:Int)(r:(Int×Int×Int)):GI :=
 ⟨[.c (.pt 1 0),.c (.d (.v (.int .i64 a0)))],[[.d (.sl 11 (List.map Jb a1)),.d (.v (.int .i64 a2)),.d (.v (.int .i64 a3)),.d (.v (.int .i64 a4)),.d (.v (.int .i64 a5))]],[],.ret (.tu []) [[.d (.sl 11 (List.map Jb a1)),.d (.v (.int .i64 r.1)),.d (.v (.int .i64 r.2.1)),.d (.v (.int .i64 r.2.2)),.d (.v (.int .i64 a5))]] []⟩
def Zr:GI→Prop:=fun g=>∃ (a0:Int) (a1:List Token) (a2:Int) (a3:Int) (a4:Int) (a5:Int) (r:(Int×Int×Int)),VI a0 a1 a2 a3 a4 a5=some r∧g=ZD a0 a1 a2 a3 a4 a5 r
theorem Jf1(a0:Int)(a1:List Token)(a2:Int)(a3:Int)(a4:Int)(a5:Int)(r:(Int×Int×Int))(H:VI a0 a1 a2 a3 a4 a5=some r):Zr (ZD a0 a1 a2 a3 a4 a5 r):=⟨a0,a1,a2,a3,a4,a5,r,H,rfl⟩
theorem JiA:∀ g,Zr g→Jx Try.prog 58 g:=by
 rintro _ ⟨a0,a1,a2,a3,a4,a5,r,H,rfl⟩
 refine xGn mixed [(14,Jfm)] [(57,true,Vp)] [] ⟨⟨JwQ,JlN⟩,trivial⟩ ⟨ZY,trivial⟩ trivial Try.func58 _ ?_
 have G:=True.intro
 have Y:=xZ y_3 <| xZ y_9 <| xZ y_22 <| xZ y_44 <| xZ y_50 <| xZ Try.results58 <| xZ J2.eq_1 <| xZ Jb.eq_1 <| xZ JW.eq_1 <| xZ Vr.eq_1 <| ZD.eq_1
 dsimp only[ZD]
 simp only[VI]at H
 refine JB (Xe a0 a1 a2 a3 a4 a5) (fun s=>[(0,.c (.pt 1 0)),(1,.c (.d (.v (.int .i64 a0)))),(32,.c (.d (.v (.bool s))))]) (fun s=>[[.d (.sl 11 (List.map Jb a1)),.d (.v (.int .i64 a2)),.d (.v (.int .i64 a3)),.d (.v (.int .i64 a4)),.d (.v (.int .i64 a5))]]) [] r ?_ ?_
 ·rcases Jc H with⟨hp2,H⟩|⟨hp2,H⟩
  ·obtain⟨F,G,hq2⟩:=xH Y G hp2
   refine xR ?_
   exact Jf H (xK ⟨[1],[]⟩)
  ·obtain⟨F,G,hq2⟩:=xH Y G hp2
   obtain⟨hg1,H⟩:=Jj H
   have F:=xZ F (Jr Jb a1 a0.toNat default default (by omega))
   rcases Jc H with⟨hp3,H⟩|⟨hp3,H⟩
   ·obtain⟨F,G,hq3⟩:=xH F G hp3
    refine xR ?_
    exact Jf H (xK ⟨[1],[]⟩)
   ·obtain⟨F,G,hq3⟩:=xH F G hp3
    obtain⟨hg2,H⟩:=Jj H
    have F:=xZ F (Jr Jb a1 a0.toNat default default (by omega))
    obtain⟨r2,hr2,H⟩:=Jg H
    have F:=xCf F (Joz ((a1.getD a0.toNat default).Text) r2 hr2)
    refine xR ?_
    exact Jf H (xK ⟨[1],[]⟩)
 ·rintro x1 H
  rw[Xe]at H
  rcases Jc H with⟨hp1,H⟩|⟨hp1,H⟩
  ·obtain⟨F,G,hq1⟩:=xH Y G hp1
   refine xT ?_
   obtain⟨r1,hr1,H⟩:=Jg H
   have F:=Y
   refine xQ ?_
   refine xs 2 ?_
   refine xc ⟨[1],[]⟩ (tabG 0 (Z6 a0 2 a1 a2 a3 a4 a5 r1 hr1)) ?_
   refine xl ?_
   replace H:=Option.some.inj H
   refine xS ?_
   subst H
   refine xnD [] ?_
   exact xO ⟨[1],[]⟩
  ·obtain⟨F,G,hq1⟩:=xH Y G hp1
   replace H:=Option.some.inj H
   refine xE ?_
   subst H
   refine xnD [] ?_
   exact xO ⟨[1],[]⟩
theorem JdP:Jh Try.prog 58∧(∀ g,Zr g→Jx Try.prog 58 g)∧(true=true→∀ g,Zr g→∃ val bs ts,g.out=.ret val bs ts) :=
 ⟨JwB,JiA,fun _=>by rintro _ ⟨_,_,_,_,_,_,_,_,rfl⟩; exact⟨_,_,_,rfl⟩⟩
noncomputable def X2(a1:List Token)(a5:Int):(Int×Int×Int)→Option (Bool×Int×Int×Int×Int)
 | (x1,x2,x3)=>(JT a1 x1 x2 x3 (IntKind.i64.wrap (a5+1))).bind fun r1=>some (r1,x1,x2,x3,(IntKind.i64.wrap (a5+1)))
noncomputable def KV(a0:Int)(a1:List Token)(a2:Int)(a3:Int)(a4:Int)(a5:Int):Option (Bool×Int×Int×Int×Int) :=
 if(leI 30 a5)=true then(VD a0 10 a1 a2 a3 a4 a5).bind fun r2=>X2 a1 a5 (r2.1,r2.2.1,r2.2.2) else X2 a1 a5 (a2,a3,a4)
noncomputable def V1(a0:Int)(a1:List Token)(a2:Int)(a3:Int)(a4:Int)(a5:Int)(r:(Bool×Int×Int×Int×Int)):GI :=
 ⟨[.c (.pt 1 0),.c (.d (.v (.int .i64 a0)))],[[.d (.sl 11 (List.map Jb a1)),.d (.v (.int .i64 a2)),.d (.v (.int .i64 a3)),.d (.v (.int .i64 a4)),.d (.v (.int .i64 a5))]],[],.ret (.c (.d (.v (.bool r.1)))) [[.d (.sl 11 (List.map Jb a1)),.d (.v (.int .i64 r.2.1)),.d (.v (.int .i64 r.2.2.1)),.d (.v (.int .i64 r.2.2.2.1)),.d (.v (.int .i64 r.2.2.2.2))]] []⟩
def V3:GI→Prop:=fun g=>∃ (a0:Int) (a1:List Token) (a2:Int) (a3:Int) (a4:Int) (a5:Int) (r:(Bool×Int×Int×Int×Int)),KV a0 a1 a2 a3 a4 a5=some r∧g=V1 a0 a1 a2 a3 a4 a5 r
theorem Jcj(a0:Int)(a1:List Token)(a2:Int)(a3:Int)(a4:Int)(a5:Int)(r:(Bool×Int×Int×Int×Int))(H:KV a0 a1 a2 a3 a4 a5=some r):V3 (V1 a0 a1 a2 a3 a4 a5 r):=⟨a0,a1,a2,a3,a4,a5,r,H,rfl⟩
theorem Ji2:∀ g,V3 g→Jx Try.prog 61 g:=by
 rintro _ ⟨a0,a1,a2,a3,a4,a5,r,H,rfl⟩
 refine xGn mixed [] [(16,true,KH),(57,true,Vp)] [] trivial ⟨KJ,ZY,trivial⟩ trivial Try.func61 _ ?_
 have G:=True.intro
 have Y:=xZ y_3 <| xZ y_50 <| xZ Try.results61 <| xZ J2.eq_1 <| xZ Jb.eq_1 <| xZ JW.eq_1 <| xZ KI.eq_1 <| xZ Vr.eq_1 <| V1.eq_1
 dsimp only[V1]
 simp only[KV]at H
 refine xS ?_
 refine xr0 ?_
 refine Jq ?_
 refine JB (X2 a1 a5) (fun s=>[(0,.c (.pt 1 0))]) (fun s=>[[.d (.sl 11 (List.map Jb a1)),.d (.v (.int .i64 s.1)),.d (.v (.int .i64 s.2.1)),.d (.v (.int .i64 s.2.2)),.d (.v (.int .i64 a5))]]) [] r ?_ ?_
 ·refine xS ?_
  refine xr ?_
  rcases Jc H with⟨hp1,H⟩|⟨hp1,H⟩
  ·obtain⟨F,G,hq1⟩:=xH Y G hp1
   refine xT ?_
   obtain⟨r2,hr2,H⟩:=Jg H
   have F:=Y
   refine xQ ?_
   refine xs 2 ?_
   refine xc ⟨[1],[]⟩ (tabG 1 (Z6 a0 10 a1 a2 a3 a4 a5 r2 hr2)) ?_
   refine xl ?_
   refine xS ?_
   exact Jf H (xK ⟨[1],[]⟩)
  ·obtain⟨F,G,hq1⟩:=xH Y G hp1
   refine xE ?_
   exact Jf H (xK ⟨[1],[]⟩)
 ·rintro ⟨x1,x2,x3⟩ H
  rw[X2]at H
  refine xS ?_
  refine xr ?_
  obtain⟨r1,hr1,H⟩:=Jg H
  have F:=Y
  refine xQ ?_
  refine xs 1 ?_
  refine xc ⟨[1],[]⟩ (tabG 0 (JG a1 x1 x2 x3 (IntKind.i64.wrap (a5+1)) r1 hr1)) ?_
  refine xs 1 ?_
  refine xl ?_
  replace H:=Option.some.inj H
  refine xS ?_
  subst H
  refine xrD [] ?_
  exact xO ⟨[1],[]⟩
theorem Jcn:Jh Try.prog 61∧(∀ g,V3 g→Jx Try.prog 61 g)∧(true=true→∀ g,V3 g→∃ val bs ts,g.out=.ret val bs ts) :=
 ⟨JvV,Ji2,fun _=>by rintro _ ⟨_,_,_,_,_,_,_,_,rfl⟩; exact⟨_,_,_,rfl⟩⟩
noncomputable def JdM  : Option (List (List (List UInt8))) :=
 some [[[44]],[[61],[43,61],[45,61],[42,61],[47,61],[37,61],[38,61],[124,61],[94,61],[60,60,61],[62,62,61]],[[124,124]],[[38,38]],[[124]],[[94]],[[38]],[[61,61],[33,61]],[[60],[62],[60,61],[62,61]],[[60,60],[62,62]],[[43],[45]],[[42],[47],[37]]]
noncomputable def JdU:PF:=PF.of E0 (fun _=>JdM) (dL 1 (dL 1 dS))
theorem Jj3:Kl Try.prog 86 JdU:=by
 refine xF mixed [] [] trivial trivial Try.func86 ?_
 rintro _ out H
 have G:=True.intro
 have Y:=xZ y_9 <| xZ y_41 <| xZ Jvz <| Try.results86
 simp only[JdM]at H
 refine xS ?_
 refine xr ?_
 replace H:=Option.some.inj H
 refine xr ?_
 subst H
 exact xN
theorem Jkz  (r:(List (List (List UInt8)))) (H:JdM  = some r):PC JdU [] ((dL 1 (dL 1 dS)) r):=PF.c (a:=()) H
noncomputable def Jbr(x1:Int)(x2:Int):Bool→Option ((Int×Int) ⊕ Int)
 | x3=>if x3=true then inrO (some x2) else some (.inl (x1,IntKind.i64.wrap (x2+1)))
noncomputable def Z9(a0:List UInt8)(r1:(List (List (List UInt8)))):(Int×Int)→Option ((Int×Int) ⊕ Int)
 | (x1,x2)=>if(ltI x2 x1)=true then if(0:Int)≤x2∧x2.toNat<r1.length then if(!eqS a0 [])=true then(Jaf (r1.getD x2.toNat default) a0).bind fun r2=>Jbr x1 x2 r2 else Jbr x1 x2 false else none else inrO (some (-1))
noncomputable def JcT(a0:List UInt8):Option Int :=
 (JdM).bind fun r1=>Jt (Z9 a0 r1) ((r1.length:Int),0)
noncomputable def Jel:PF:=PF.of (E1 dS) (fun a=>JcT a) dI
theorem Jkn:Kl Try.prog 79 Jel:=by
 refine xF mixed [(86,JdU),(26,Jbh)] [] ⟨⟨JwW,Jj3⟩,⟨JjJ,JdD⟩,trivial⟩ trivial Try.func79 ?_
 rintro a0 out H
 have G:=True.intro
 have Y:=xZ y_41 <| xZ Jvz <| Try.results79
 simp only[JcT]at H
 refine xS ?_
 refine xr ?_
 obtain⟨r1,hr1,H⟩:=Jg H
 have F:=xC Y (Jkz  r1 hr1)
 refine xR ?_
 refine Ke (Z9 a0 r1) (fun s=>[(0,.c (.d (.v (str a0)))),(5,.c (.d (.sl 1 (List.map (dL 1 dS) r1)))),(6,.c (.d (.v (.int .i64 s.1)))),(7,.c (.d (.v (.int .i64 s.2))))]) (fun s=>[]) [] H (xK ⟨[],[]⟩) ?_
 rintro n1 ⟨x1,x2⟩ o1 H hF1
 rw[Z9]at H
 refine xS ?_
 refine xr ?_
 rcases Jc H with⟨hp1,H⟩|⟨hp1,H⟩
 ·obtain⟨F,G,hq1⟩:=xH Y G hp1
  refine xT ?_
  obtain⟨hg1,H⟩:=Jj H
  have F:=xZ Y (Jr (dL 1 dS) r1 x2.toNat default default (by omega))
  refine xR0 ?_
  refine Jq ?_
  refine JB (Jbr x1 x2) (fun s=>[(0,.c (.d (.v (str a0)))),(3,.c (.d (.v (.int .i64 x2)))),(5,.c (.d (.sl 1 (List.map (dL 1 dS) r1)))),(6,.c (.d (.v (.int .i64 x1)))),(7,.c (.d (.v (.int .i64 x2)))),(18,.c (.d (.v (.bool s))))]) (fun s=>[]) [] o1 ?_ ?_
  ·rcases Jc H with⟨hp3,H⟩|⟨hp3,H⟩
   ·obtain⟨F,G,hq3⟩:=xH Y G hp3
    obtain⟨r2,hr2,H⟩:=Jg H
    have F:=xCf F (Jed (r1.getD x2.toNat default) a0 r2 hr2)
    refine xR ?_
    exact Jf H (xK ⟨[],[]⟩)
   ·obtain⟨F,G,hq3⟩:=xH Y G hp3
    refine xR ?_
    exact Jf H (xK ⟨[],[]⟩)
  ·rintro x3 H
   rw[Jbr]at H
   rcases Jc H with⟨hp2,H⟩|⟨hp2,H⟩
   ·obtain⟨F,G,hq2⟩:=xH Y G hp2
    refine xT ?_
    replace H:=Js H hF1
    replace H:=Option.some.inj H
    refine xr ?_
    subst H
    exact xN
   ·obtain⟨F,G,hq2⟩:=xH Y G hp2
    refine xE ?_
    refine xr ?_
    exact JD (JM H hF1) (xK ⟨[],[]⟩)
 ·obtain⟨F,G,hq1⟩:=xH Y G hp1
  replace H:=Js H hF1
  refine xE ?_
  replace H:=Option.some.inj H
  refine xr ?_
  subst H
  exact xN
theorem Jlo(a0:List UInt8)(r:Int)(H:JcT a0=some r):PC Jel [dS a0] (dI r):=PF.c (a:=a0) H
noncomputable def JaJ(a0:Int):(Int×Int×Int)→Option (Int×Int×Int×Int)
 | (x1,x2,x3)=>some (IntKind.i64.wrap (a0+1),x1,x2,x3)
noncomputable def JS(a0:Int)(a1:List UInt8)(a2:List Token)(a3:Int)(a4:Int)(a5:Int)(a6:Int):Option (Int×Int×Int×Int) :=
 (JA a0 a2 a3 a4 a5 a6).bind fun r1=>if(!eqS r1 a1)=true then(VD a0 2 a2 a3 a4 a5 a6).bind fun r2=>JaJ a0 (r2.1,r2.2.1,r2.2.2) else JaJ a0 (a3,a4,a5)
noncomputable def Vs(a0:Int)(a1:List UInt8)(a2:List Token)(a3:Int)(a4:Int)(a5:Int)(a6:Int)(r:(Int×Int×Int×Int)):GI :=
 ⟨[.c (.pt 1 0),.c (.d (.v (.int .i64 a0))),.c (.d (.v (str a1)))],[[.d (.sl 11 (List.map Jb a2)),.d (.v (.int .i64 a3)),.d (.v (.int .i64 a4)),.d (.v (.int .i64 a5)),.d (.v (.int .i64 a6))]],[],.ret (.c (.d (.v (.int .i64 r.1)))) [[.d (.sl 11 (List.map Jb a2)),.d (.v (.int .i64 r.2.1)),.d (.v (.int .i64 r.2.2.1)),.d (.v (.int .i64 r.2.2.2)),.d (.v (.int .i64 a6))]] []⟩
def Vq:GI→Prop:=fun g=>∃ (a0:Int) (a1:List UInt8) (a2:List Token) (a3:Int) (a4:Int) (a5:Int) (a6:Int) (r:(Int×Int×Int×Int)),JS a0 a1 a2 a3 a4 a5 a6=some r∧g=Vs a0 a1 a2 a3 a4 a5 a6 r
theorem KX(a0:Int)(a1:List UInt8)(a2:List Token)(a3:Int)(a4:Int)(a5:Int)(a6:Int)(r:(Int×Int×Int×Int))(H:JS a0 a1 a2 a3 a4 a5 a6=some r):Vq (Vs a0 a1 a2 a3 a4 a5 a6 r):=⟨a0,a1,a2,a3,a4,a5,a6,r,H,rfl⟩
theorem JjP:∀ g,Vq g→Jx Try.prog 36 g:=by
 rintro _ ⟨a0,a1,a2,a3,a4,a5,a6,r,H,rfl⟩
 refine xGn mixed [] [(31,true,Ka),(57,true,Vp)] [] trivial ⟨Kw,ZY,trivial⟩ trivial Try.func36 _ ?_
 have G:=True.intro
 have Y:=xZ Try.results36 <| xZ J2.eq_1 <| xZ Jb.eq_1 <| xZ JW.eq_1 <| xZ Kb.eq_1 <| xZ Vr.eq_1 <| Vs.eq_1
 dsimp only[Vs]
 simp only[JS]at H
 refine xS ?_
 refine xr0 ?_
 refine Jq ?_
 refine JB (JaJ a0) (fun s=>[(1,.c (.d (.v (.int .i64 a0))))]) (fun s=>[[.d (.sl 11 (List.map Jb a2)),.d (.v (.int .i64 s.1)),.d (.v (.int .i64 s.2.1)),.d (.v (.int .i64 s.2.2)),.d (.v (.int .i64 a6))]]) [] r ?_ ?_
 ·refine xS ?_
  obtain⟨r1,hr1,H⟩:=Jg H
  have F:=Y
  refine xQ ?_
  refine xs 2 ?_
  refine xc ⟨[1],[]⟩ (tabG 0 (JE a0 a2 a3 a4 a5 a6 r1 hr1)) ?_
  refine xs 2 ?_
  refine xl ?_
  refine xS ?_
  rcases Jc H with⟨hp1,H⟩|⟨hp1,H⟩
  ·obtain⟨F,G,hq1⟩:=xH Y G hp1
   refine xT ?_
   obtain⟨r2,hr2,H⟩:=Jg H
   have F:=Y
   refine xQ ?_
   refine xs 2 ?_
   refine xc ⟨[1],[]⟩ (tabG 1 (Z6 a0 2 a2 a3 a4 a5 a6 r2 hr2)) ?_
   refine xl ?_
   refine xS ?_
   exact Jf H (xK ⟨[1],[]⟩)
  ·obtain⟨F,G,hq1⟩:=xH Y G hp1
   refine xE ?_
   exact Jf H (xK ⟨[1],[]⟩)
 ·rintro ⟨x1,x2,x3⟩ H
  rw[JaJ]at H
  refine xS ?_
  replace H:=Option.some.inj H
  refine xr ?_
  subst H
  refine xrD [] ?_
  exact xO ⟨[1],[]⟩
theorem Xh:Jh Try.prog 36∧(∀ g,Vq g→Jx Try.prog 36 g)∧(true=true→∀ g,Vq g→∃ val bs ts,g.out=.ret val bs ts) :=
 ⟨JwU,JjP,fun _=>by rintro _ ⟨_,_,_,_,_,_,_,_,_,rfl⟩; exact⟨_,_,_,rfl⟩⟩
noncomputable def Vm(a0:EB)(a1:Int)(a2:Int)(a3:List Token)(a4:Int)(a5:Int)(a6:Int)(a7:Int)(r:(Int×Int×(List Node)×Int×Int×Int×Int×Int)):GI :=
 ⟨[.c (.pt 1 0),.c (.fm (EM Try.prog 52 (cvK a0))),.c (.d (.v (.int .i64 a1))),.c (.d (.v (.int .i64 a2)))],[[.d (.sl 11 (List.map Jb a3)),.d (.v (.int .i64 a4)),.d (.v (.int .i64 a5)),.d (.v (.int .i64 a6)),.d (.v (.int .i64 a7))]],[],.ret (.tu [(true,[.d (.v (.int .i64 r.1)),.d (.v (.int .i64 r.2.1)),.sl 3 (List.map Jp r.2.2.1) 2]),(false,[.d (.v (.int .i64 r.2.2.2.1))])]) [[.d (.sl 11 (List.map Jb a3)),.d (.v (.int .i64 r.2.2.2.2.1)),.d (.v (.int .i64 r.2.2.2.2.2.1)),.d (.v (.int .i64 r.2.2.2.2.2.2.1)),.d (.v (.int .i64 r.2.2.2.2.2.2.2))]] [26]⟩
def Vx(q:EB→Int→Int→(List Token)→Int→Int→Int→Int→Option (Int×Int×(List Node)×Int×Int×Int×Int×Int)):GI→Prop:=fun g=>∃ (a0:EB) (a1:Int) (a2:Int) (a3:List Token) (a4:Int) (a5:Int) (a6:Int) (a7:Int) (r:(Int×Int×(List Node)×Int×Int×Int×Int×Int)),q a0 a1 a2 a3 a4 a5 a6 a7=some r∧g=Vm a0 a1 a2 a3 a4 a5 a6 a7 r
theorem JaI(q:EB→Int→Int→(List Token)→Int→Int→Int→Int→Option (Int×Int×(List Node)×Int×Int×Int×Int×Int))(a0:EB)(a1:Int)(a2:Int)(a3:List Token)(a4:Int)(a5:Int)(a6:Int)(a7:Int)(r:(Int×Int×(List Node)×Int×Int×Int×Int×Int))(H:q a0 a1 a2 a3 a4 a5 a6 a7=some r):Vx q (Vm a0 a1 a2 a3 a4 a5 a6 a7 r):=⟨a0,a1,a2,a3,a4,a5,a6,a7,r,H,rfl⟩
noncomputable def ZG(a0:EB)(a1:Int)(a2:List Token)(a3:Int)(a4:Int)(a5:Int)(a6:Int)(r:(Int×Int×(List Node)×Int×Int×Int×Int×Int)):GI :=
 ⟨[.c (.pt 1 0),.c (.fm (EM Try.prog 52 (cvK a0))),.c (.d (.v (.int .i64 a1)))],[[.d (.sl 11 (List.map Jb a2)),.d (.v (.int .i64 a3)),.d (.v (.int .i64 a4)),.d (.v (.int .i64 a5)),.d (.v (.int .i64 a6))]],[],.ret (.tu [(true,[.d (.v (.int .i64 r.1)),.d (.v (.int .i64 r.2.1)),.sl 3 (List.map Jp r.2.2.1) 2]),(false,[.d (.v (.int .i64 r.2.2.2.1))])]) [[.d (.sl 11 (List.map Jb a2)),.d (.v (.int .i64 r.2.2.2.2.1)),.d (.v (.int .i64 r.2.2.2.2.2.1)),.d (.v (.int .i64 r.2.2.2.2.2.2.1)),.d (.v (.int .i64 r.2.2.2.2.2.2.2))]] [26]⟩
def VJ(q:EB→Int→(List Token)→Int→Int→Int→Int→Option (Int×Int×(List Node)×Int×Int×Int×Int×Int)):GI→Prop:=fun g=>∃ (a0:EB) (a1:Int) (a2:List Token) (a3:Int) (a4:Int) (a5:Int) (a6:Int) (r:(Int×Int×(List Node)×Int×Int×Int×Int×Int)),q a0 a1 a2 a3 a4 a5 a6=some r∧g=ZG a0 a1 a2 a3 a4 a5 a6 r
theorem JfD(q:EB→Int→(List Token)→Int→Int→Int→Int→Option (Int×Int×(List Node)×Int×Int×Int×Int×Int))(a0:EB)(a1:Int)(a2:List Token)(a3:Int)(a4:Int)(a5:Int)(a6:Int)(r:(Int×Int×(List Node)×Int×Int×Int×Int×Int))(H:q a0 a1 a2 a3 a4 a5 a6=some r):VJ q (ZG a0 a1 a2 a3 a4 a5 a6 r):=⟨a0,a1,a2,a3,a4,a5,a6,r,H,rfl⟩
noncomputable def Jbi(a0:EB)(a1:Int)(a2:List Token)(a3:Int)(a4:Int)(a5:Int)(a6:Int)(r:(Int×Int×(List Node)×Int×Int×Int×Int×Int)):GI :=
 ⟨[.c (.pt 1 0),.c (.fm (EM Try.prog 52 (cvK a0))),.c (.d (.v (.int .i64 a1)))],[[.d (.sl 11 (List.map Jb a2)),.d (.v (.int .i64 a3)),.d (.v (.int .i64 a4)),.d (.v (.int .i64 a5)),.d (.v (.int .i64 a6))]],[],.ret (.tu [(true,[.d (.v (.int .i64 r.1)),.d (.v (.int .i64 r.2.1)),.sl 3 (List.map Jp r.2.2.1) 2]),(false,[.d (.v (.int .i64 r.2.2.2.1))])]) [[.d (.sl 11 (List.map Jb a2)),.d (.v (.int .i64 r.2.2.2.2.1)),.d (.v (.int .i64 r.2.2.2.2.2.1)),.d (.v (.int .i64 r.2.2.2.2.2.2.1)),.d (.v (.int .i64 r.2.2.2.2.2.2.2))]] [26]⟩
def XC(q:EB→Int→(List Token)→Int→Int→Int→Int→Option (Int×Int×(List Node)×Int×Int×Int×Int×Int)):GI→Prop:=fun g=>∃ (a0:EB) (a1:Int) (a2:List Token) (a3:Int) (a4:Int) (a5:Int) (a6:Int) (r:(Int×Int×(List Node)×Int×Int×Int×Int×Int)),q a0 a1 a2 a3 a4 a5 a6=some r∧g=Jbi a0 a1 a2 a3 a4 a5 a6 r
theorem JjT(q:EB→Int→(List Token)→Int→Int→Int→Int→Option (Int×Int×(List Node)×Int×Int×Int×Int×Int))(a0:EB)(a1:Int)(a2:List Token)(a3:Int)(a4:Int)(a5:Int)(a6:Int)(r:(Int×Int×(List Node)×Int×Int×Int×Int×Int))(H:q a0 a1 a2 a3 a4 a5 a6=some r):XC q (Jbi a0 a1 a2 a3 a4 a5 a6 r):=⟨a0,a1,a2,a3,a4,a5,a6,r,H,rfl⟩
noncomputable def JaP:(Int×Int×Int×Int×Int×Int×Int×(List Node))→Option (Int×Int×(List Node)×Int×Int×Int×Int×Int)
 | (x1,x2,x3,x4,x5,x6,x7,x8)=>some (x6,x7,x8,x1,x2,x3,x4,IntKind.i64.wrap (x5-1))
noncomputable def Zt(q1:EB→Int→Int→(List Token)→Int→Int→Int→Int→Option (Int×Int×(List Node)×Int×Int×Int×Int×Int))(a0:EB)(a3:List Token)(x9:Int)(x10:Int)(x11:Int)(x12:Int)(x13:Int)(x14:Int)(x15:Int)(x16:List Node):Int→Option ((Int×Int×Int×Int×Int×Int×Int×(List Node)) ⊕ (Int×Int×(List Node)×Int×Int×Int×Int×Int))
 | x17=>(q1 a0 (IntKind.i64.wrap (x9+1)) x17 a3 x10 x11 x12 x13).bind fun r6=>some (.inl (r6.2.2.2.1,r6.2.2.2.2.1,r6.2.2.2.2.2.1,r6.2.2.2.2.2.2.1,r6.2.2.2.2.2.2.2,13,x9,[(⟨x14,x15,x16⟩:Node),(⟨r6.1,r6.2.1,r6.2.2.1⟩:Node)]))
noncomputable def Jci(q1:EB→Int→Int→(List Token)→Int→Int→Int→Int→Option (Int×Int×(List Node)×Int×Int×Int×Int×Int))(a0:EB)(a2:Int)(a3:List Token):(Int×Int×Int×Int×Int×Int×Int×(List Node))→Option ((Int×Int×Int×Int×Int×Int×Int×(List Node)) ⊕ (Int×Int×(List Node)×Int×Int×Int×Int×Int))
 | (x9,x10,x11,x12,x13,x14,x15,x16)=>(JT a3 x10 x11 x12 x13).bind fun r3=>if r3=true then(JA x9 a3 x10 x11 x12 x13).bind fun r4=>(JcT r4).bind fun r5=>if(ltI r5 a2)=true then inrO (JaP (x9,x10,x11,x12,x13,x14,x15,x16)) else if(eqI r5 1)=true then Zt q1 a0 a3 x9 x10 x11 x12 x13 x14 x15 x16 1 else Zt q1 a0 a3 x9 x10 x11 x12 x13 x14 x15 x16 (IntKind.i64.wrap (r5+1)) else inrO (JaP (x9,x10,x11,x12,x13,x14,x15,x16))
noncomputable def XS(q1:EB→Int→Int→(List Token)→Int→Int→Int→Int→Option (Int×Int×(List Node)×Int×Int×Int×Int×Int))(q2:EB→Int→(List Token)→Int→Int→Int→Int→Option (Int×Int×(List Node)×Int×Int×Int×Int×Int))(q3:EB→Int→(List Token)→Int→Int→Int→Int→Option (Int×Int×(List Node)×Int×Int×Int×Int×Int))(a0:EB)(a1:Int)(a2:Int)(a3:List Token)(a4:Int)(a5:Int)(a6:Int)(a7:Int):Option (Int×Int×(List Node)×Int×Int×Int×Int×Int) :=
 (KV a1 a3 a4 a5 a6 a7).bind fun r1=>if(!r1.1)=true then some (0,0,([]:List Node),a1,r1.2.1,r1.2.2.1,r1.2.2.2.1,r1.2.2.2.2) else(q2 a0 a1 a3 r1.2.1 r1.2.2.1 r1.2.2.2.1 r1.2.2.2.2).bind fun r2=>Jt (Jci q1 a0 a2 a3) (r2.2.2.2.1,r2.2.2.2.2.1,r2.2.2.2.2.2.1,r2.2.2.2.2.2.2.1,r2.2.2.2.2.2.2.2,r2.1,r2.2.1,r2.2.2.1)
theorem Jiz(q1:EB→Int→Int→(List Token)→Int→Int→Int→Int→Option (Int×Int×(List Node)×Int×Int×Int×Int×Int))(q2:EB→Int→(List Token)→Int→Int→Int→Int→Option (Int×Int×(List Node)×Int×Int×Int×Int×Int))(q3:EB→Int→(List Token)→Int→Int→Int→Int→Option (Int×Int×(List Node)×Int×Int×Int×Int×Int))(kq1:Kok Try.prog 59 true (Vx q1))(kq2:Kok Try.prog 78 true (VJ q2))(kq3:Kok Try.prog 85 true (XC q3)):∀ g,Vx (XS q1 q2 q3) g→Jx Try.prog 59 g:=by
 rintro _ ⟨a0,a1,a2,a3,a4,a5,a6,a7,r,H,rfl⟩
 refine xGn mixed [(79,Jel)] [(61,true,V3),(78,true,(VJ q2)),(16,true,KH),(31,true,Ka),(59,true,(Vx q1))] [] ⟨⟨Jw5,Jkn⟩,trivial⟩ ⟨Jcn,kq2,KJ,Kw,kq1,trivial⟩ trivial Try.func59 _ ?_
 have G:=True.intro
 have Y:=xZ y_3 <| xZ y_24 <| xZ y_26 <| xZ y_50 <| xZ Try.results59 <| xZ J2.eq_1 <| xZ Jb.eq_1 <| xZ Vu <| xZ JW.eq_1 <| xZ V1.eq_1 <| xZ ZG.eq_1 <| xZ KI.eq_1 <| xZ Kb.eq_1 <| xZ Vm.eq_1 <| Vm.eq_1
 dsimp only[Vm]
 simp only[XS]at H
 refine xS ?_
 refine xr ?_
 obtain⟨r1,hr1,H⟩:=Jg H
 have F:=Y
 refine xQ ?_
 refine xs 2 ?_
 refine xc ⟨[1],[]⟩ (tabG 0 (Jcj a1 a3 a4 a5 a6 a7 r1 hr1)) ?_
 refine xs 1 ?_
 refine xl ?_
 refine xS ?_
 rcases Jc H with⟨hp1,H⟩|⟨hp1,H⟩
 ·obtain⟨F,G,hq1⟩:=xH Y G hp1
  refine xT ?_
  replace H:=Option.some.inj H
  refine xr ?_
  subst H
  refine xrD [] ?_
  exact xO ⟨[1],[0]⟩
 ·obtain⟨F,G,hq1⟩:=xH Y G hp1
  refine xE ?_
  obtain⟨r2,hr2,H⟩:=Jg H
  have F:=Y
  refine xQ ?_
  refine xs 3 ?_
  refine xc ⟨[1],[]⟩ (tabG 1 (JfD q2 a0 a1 a3 r1.2.1 r1.2.2.1 r1.2.2.2.1 r1.2.2.2.2 r2 hr2)) ?_
  refine xs 6 ?_
  refine xl ?_
  refine  ?_
  refine Jq ?_
  refine JB JaP (fun s=>[(0,.c (.pt 1 0)),(2,.c (.d (.v (.int .i64 s.1)))),(8,.c (.pt 2 0)),(10,.c (.pt 3 0))]) (fun s=>[[.d (.sl 11 (List.map Jb a3)),.d (.v (.int .i64 s.2.1)),.d (.v (.int .i64 s.2.2.1)),.d (.v (.int .i64 s.2.2.2.1)),.d (.v (.int .i64 s.2.2.2.2.1))],[.d (.v (.int .i64 0)),.d (.v (.int .i64 0)),.sl 3 [] 0],[.d (.v (.int .i64 s.2.2.2.2.2.1)),.d (.v (.int .i64 s.2.2.2.2.2.2.1)),.sl 3 (List.map Jp s.2.2.2.2.2.2.2) 4]]) [26] r ?_ ?_
  ·refine xS ?_
   refine Ke (Jci q1 a0 a2 a3) (fun s=>[(0,.c (.pt 1 0)),(1,.c (.fm (EM Try.prog 52 (cvK a0)))),(2,.c (.d (.v (.int .i64 s.1)))),(3,.c (.d (.v (.int .i64 a2)))),(8,.c (.pt 2 0)),(10,.c (.pt 3 0))]) (fun s=>[[.d (.sl 11 (List.map Jb a3)),.d (.v (.int .i64 s.2.1)),.d (.v (.int .i64 s.2.2.1)),.d (.v (.int .i64 s.2.2.2.1)),.d (.v (.int .i64 s.2.2.2.2.1))],[.d (.v (.int .i64 0)),.d (.v (.int .i64 0)),.sl 3 [] 0],[.d (.v (.int .i64 s.2.2.2.2.2.1)),.d (.v (.int .i64 s.2.2.2.2.2.2.1)),.sl 3 (List.map Jp s.2.2.2.2.2.2.2) 4]]) [26] H (xK ⟨[1,2,6],[5]⟩) ?_
   rintro n1 ⟨x9,x10,x11,x12,x13,x14,x15,x16⟩ o1 H hF1
   rw[Jci]at H
   refine xS ?_
   obtain⟨r3,hr3,H⟩:=Jg H
   have F:=Y
   refine xQ ?_
   refine xs 1 ?_
   refine xc ⟨[1],[]⟩ (tabG 2 (JG a3 x10 x11 x12 x13 r3 hr3)) ?_
   refine xl ?_
   refine xS ?_
   rcases Jc H with⟨hp2,H⟩|⟨hp2,H⟩
   ·obtain⟨F,G,hq2⟩:=xH Y G hp2
    refine xT ?_
    obtain⟨r4,hr4,H⟩:=Jg H
    have F:=Y
    obtain⟨r5,hr5,H⟩:=Jg H
    have F:=xCf F (Jlo r4 r5 hr5)
    refine xQ ?_
    refine xs 2 ?_
    refine xc ⟨[1],[]⟩ (tabG 3 (JE x9 a3 x10 x11 x12 x13 r4 hr4)) ?_
    refine xs 2 ?_
    refine xl ?_
    refine xS ?_
    refine xr ?_
    rcases Jc H with⟨hp3,H⟩|⟨hp3,H⟩
    ·obtain⟨F,G,hq3⟩:=xH Y G hp3
     replace H:=Js H hF1
     refine xT ?_
     exact Jf H (xK ⟨[1,2,3],[4]⟩)
    ·obtain⟨F,G,hq3⟩:=xH Y G hp3
     refine xE ?_
     refine xr0 ?_
     refine Jq ?_
     refine JB (Zt q1 a0 a3 x9 x10 x11 x12 x13 x14 x15 x16) (fun s=>[(0,.c (.pt 1 0)),(1,.c (.fm (EM Try.prog 52 (cvK a0)))),(2,.c (.d (.v (.int .i64 x9)))),(3,.c (.d (.v (.int .i64 a2)))),(8,.c (.pt 2 0)),(10,.c (.pt 3 0)),(12,.c (.d (.v (.int .i64 s))))]) (fun s=>[[.d (.sl 11 (List.map Jb a3)),.d (.v (.int .i64 x10)),.d (.v (.int .i64 x11)),.d (.v (.int .i64 x12)),.d (.v (.int .i64 x13))],[.d (.v (.int .i64 0)),.d (.v (.int .i64 0)),.sl 3 [] 0],[.d (.v (.int .i64 x14)),.d (.v (.int .i64 x15)),.sl 3 (List.map Jp x16) 4]]) [26] o1 ?_ ?_
     ·refine xS ?_
      refine xr ?_
      rcases Jc H with⟨hp4,H⟩|⟨hp4,H⟩
      ·obtain⟨F,G,hq4⟩:=xH Y G hp4
       refine xT ?_
       refine xr ?_
       exact Jf H (xK ⟨[1,2,3],[4]⟩)
      ·obtain⟨F,G,hq4⟩:=xH Y G hp4
       refine xE ?_
       exact Jf H (xK ⟨[1,2,3],[4]⟩)
     ·rintro x17 H
      rw[Zt]at H
      refine xS ?_
      obtain⟨r6,hr6,H⟩:=Jg H
      have F:=Y
      refine xQ ?_
      refine xs 5 ?_
      refine xc ⟨[1],[]⟩ (tabG 4 (JaI q1 a0 (IntKind.i64.wrap (x9+1)) x17 a3 x10 x11 x12 x13 r6 hr6)) ?_
      refine xs 6 ?_
      refine xl ?_
      refine xS ?_
      refine xr ?_
      refine xr ?_
      exact JD (JM H hF1) (xK ⟨[1,2,3],[0]⟩)
   ·obtain⟨F,G,hq2⟩:=xH Y G hp2
    replace H:=Js H hF1
    refine xE ?_
    exact Jf H (xK ⟨[1,2,3],[4]⟩)
  ·rintro ⟨x1,x2,x3,x4,x5,x6,x7,x8⟩ H
   rw[JaP]at H
   refine xS ?_
   refine xr ?_
   replace H:=Option.some.inj H
   refine xr ?_
   subst H
   refine xrD [] ?_
   exact xO ⟨[1],[4]⟩
noncomputable def Jam:(Int×Int×Int×Int×Int×Int×Int×(List Node))→Option (Int×Int×(List Node)×Int×Int×Int×Int×Int)
 | (x1,x2,x3,x4,x5,x6,x7,x8)=>some (x6,x7,x8,x1,x2,x3,x4,IntKind.i64.wrap (x5-1))
noncomputable def JaL(q1:EB→Int→Int→(List Token)→Int→Int→Int→Int→Option (Int×Int×(List Node)×Int×Int×Int×Int×Int))(q2:EB→Int→(List Token)→Int→Int→Int→Int→Option (Int×Int×(List Node)×Int×Int×Int×Int×Int))(q3:EB→Int→(List Token)→Int→Int→Int→Int→Option (Int×Int×(List Node)×Int×Int×Int×Int×Int))(a0:EB)(a1:Int)(a2:List Token)(a3:Int)(a4:Int)(a5:Int)(a6:Int):Option (Int×Int×(List Node)×Int×Int×Int×Int×Int) :=
 (KV a1 a2 a3 a4 a5 a6).bind fun r1=>if(!r1.1)=true then some (0,0,([]:List Node),a1,r1.2.1,r1.2.2.1,r1.2.2.2.1,r1.2.2.2.2) else(JA a1 a2 r1.2.1 r1.2.2.1 r1.2.2.2.1 r1.2.2.2.2).bind fun r2=>(Jaf [[45],[43],[33],[126],[42],[38],[43,43],[45,45]] r2).bind fun r3=>if r3=true then(q2 a0 (IntKind.i64.wrap (a1+1)) a2 r1.2.1 r1.2.2.1 r1.2.2.2.1 r1.2.2.2.2).bind fun r4=>Jam (r4.2.2.2.1,r4.2.2.2.2.1,r4.2.2.2.2.2.1,r4.2.2.2.2.2.2.1,r4.2.2.2.2.2.2.2,12,a1,[(⟨r4.1,r4.2.1,r4.2.2.1⟩:Node)]) else(q3 a0 a1 a2 r1.2.1 r1.2.2.1 r1.2.2.2.1 r1.2.2.2.2).bind fun r5=>Jam (r5.2.2.2.1,r5.2.2.2.2.1,r5.2.2.2.2.2.1,r5.2.2.2.2.2.2.1,r5.2.2.2.2.2.2.2,r5.1,r5.2.1,r5.2.2.1)
theorem Jij(q1:EB→Int→Int→(List Token)→Int→Int→Int→Int→Option (Int×Int×(List Node)×Int×Int×Int×Int×Int))(q2:EB→Int→(List Token)→Int→Int→Int→Int→Option (Int×Int×(List Node)×Int×Int×Int×Int×Int))(q3:EB→Int→(List Token)→Int→Int→Int→Int→Option (Int×Int×(List Node)×Int×Int×Int×Int×Int))(kq1:Kok Try.prog 59 true (Vx q1))(kq2:Kok Try.prog 78 true (VJ q2))(kq3:Kok Try.prog 85 true (XC q3)):∀ g,VJ (JaL q1 q2 q3) g→Jx Try.prog 78 g:=by
 rintro _ ⟨a0,a1,a2,a3,a4,a5,a6,r,H,rfl⟩
 refine xGn mixed [(26,Jbh)] [(61,true,V3),(31,true,Ka),(78,true,(VJ q2)),(85,true,(XC q3))] [] ⟨⟨JjJ,JdD⟩,trivial⟩ ⟨Jcn,Kw,kq2,kq3,trivial⟩ trivial Try.func78 _ ?_
 have G:=True.intro
 have Y:=xZ y_3 <| xZ y_9 <| xZ y_24 <| xZ y_26 <| xZ y_41 <| xZ y_50 <| xZ Try.results78 <| xZ J2.eq_1 <| xZ Jb.eq_1 <| xZ Vu <| xZ JW.eq_1 <| xZ V1.eq_1 <| xZ Kb.eq_1 <| xZ ZG.eq_1 <| xZ Jbi.eq_1 <| ZG.eq_1
 dsimp only[ZG]
 simp only[JaL]at H
 refine xS ?_
 refine xr ?_
 obtain⟨r1,hr1,H⟩:=Jg H
 have F:=Y
 refine xQ ?_
 refine xs 2 ?_
 refine xc ⟨[1],[]⟩ (tabG 0 (Jcj a1 a2 a3 a4 a5 a6 r1 hr1)) ?_
 refine xs 1 ?_
 refine xl ?_
 refine xS ?_
 rcases Jc H with⟨hp1,H⟩|⟨hp1,H⟩
 ·obtain⟨F,G,hq1⟩:=xH Y G hp1
  refine xT ?_
  replace H:=Option.some.inj H
  refine xr ?_
  subst H
  refine xrD [] ?_
  exact xO ⟨[1],[0]⟩
 ·obtain⟨F,G,hq1⟩:=xH Y G hp1
  refine xE ?_
  refine xr0 ?_
  refine Jq ?_
  refine JB Jam (fun s=>[(0,.c (.pt 1 0)),(2,.c (.d (.v (.int .i64 s.1)))),(6,.c (.pt 2 0)),(8,.c (.pt 3 0))]) (fun s=>[[.d (.sl 11 (List.map Jb a2)),.d (.v (.int .i64 s.2.1)),.d (.v (.int .i64 s.2.2.1)),.d (.v (.int .i64 s.2.2.2.1)),.d (.v (.int .i64 s.2.2.2.2.1))],[.d (.v (.int .i64 0)),.d (.v (.int .i64 0)),.sl 3 [] 0],[.d (.v (.int .i64 s.2.2.2.2.2.1)),.d (.v (.int .i64 s.2.2.2.2.2.2.1)),.sl 3 (List.map Jp s.2.2.2.2.2.2.2) 4]]) [26] r ?_ ?_
  ·refine xS ?_
   obtain⟨r2,hr2,H⟩:=Jg H
   have F:=Y
   obtain⟨r3,hr3,H⟩:=Jg H
   have F:=xCf F (Jed [[45],[43],[33],[126],[42],[38],[43,43],[45,45]] r2 r3 hr3)
   refine xQ ?_
   refine xs 3 ?_
   refine xc ⟨[1],[]⟩ (tabG 1 (JE a1 a2 r1.2.1 r1.2.2.1 r1.2.2.2.1 r1.2.2.2.2 r2 hr2)) ?_
   refine xs 1 ?_
   refine xl ?_
   refine xS ?_
   rcases Jc H with⟨hp2,H⟩|⟨hp2,H⟩
   ·obtain⟨F,G,hq2⟩:=xH Y G hp2
    refine xT ?_
    obtain⟨r4,hr4,H⟩:=Jg H
    have F:=Y
    refine xQ ?_
    refine xs 4 ?_
    refine xc ⟨[1],[]⟩ (tabG 2 (JfD q2 a0 (IntKind.i64.wrap (a1+1)) a2 r1.2.1 r1.2.2.1 r1.2.2.2.1 r1.2.2.2.2 r4 hr4)) ?_
    refine xs 6 ?_
    refine xl ?_
    refine xS ?_
    refine xr ?_
    exact Jf H (xK ⟨[1,2,4],[0]⟩)
   ·obtain⟨F,G,hq2⟩:=xH Y G hp2
    refine xE ?_
    obtain⟨r5,hr5,H⟩:=Jg H
    have F:=Y
    refine xQ ?_
    refine xs 3 ?_
    refine xc ⟨[1],[]⟩ (tabG 3 (JjT q3 a0 a1 a2 r1.2.1 r1.2.2.1 r1.2.2.2.1 r1.2.2.2.2 r5 hr5)) ?_
    refine xs 5 ?_
    refine xl ?_
    refine xS ?_
    exact Jf H (xK ⟨[1,2,4],[7]⟩)
  ·rintro ⟨x1,x2,x3,x4,x5,x6,x7,x8⟩ H
   rw[Jam]at H
   refine xS ?_
   refine xr ?_
   replace H:=Option.some.inj H
   refine xr ?_
   subst H
   refine xrD [] ?_
   exact xO ⟨[1],[4]⟩
noncomputable def XH(q1:EB→Int→Int→(List Token)→Int→Int→Int→Int→Option (Int×Int×(List Node)×Int×Int×Int×Int×Int))(a0:EB)(a2:List Token)(x21:Int)(x22:List Node):(Int×Int×Int×Int)→Option ((Int×Int×Int×Int×Int×(List Node)) ⊕ ((Int×Int×Int×Int×Int×Int×Int×(List Node)) ⊕ (Int×Int×(List Node)×Int×Int×Int×Int×Int)))
 | (x24,x25,x26,x27)=>(JT a2 x25 x26 x27 x21).bind fun r3=>if r3=true then(q1 a0 x24 1 a2 x25 x26 x27 x21).bind fun r4=>if(x22.length + [(⟨r4.1,r4.2.1,r4.2.2.1⟩:Node)].length) * 40≤140737488355328 then some (.inl (r4.2.2.2.1,r4.2.2.2.2.1,r4.2.2.2.2.2.1,r4.2.2.2.2.2.2.1,r4.2.2.2.2.2.2.2,x22++[(⟨r4.1,r4.2.1,r4.2.2.1⟩:Node)])) else none else some (.inl (x24,x25,x26,x27,x21,x22))
noncomputable def Zx(q1:EB→Int→Int→(List Token)→Int→Int→Int→Int→Option (Int×Int×(List Node)×Int×Int×Int×Int×Int))(a0:EB)(a2:List Token)(x17:Int)(x18:Int)(x19:Int)(x20:Int)(x21:Int)(x22:List Node):Bool→Option ((Int×Int×Int×Int×Int×(List Node)) ⊕ ((Int×Int×Int×Int×Int×Int×Int×(List Node)) ⊕ (Int×Int×(List Node)×Int×Int×Int×Int×Int)))
 | x23=>if x23=true then if(ltI 1 (x22.length:Int))=true then(JS x17 [44] a2 x18 x19 x20 x21).bind fun r5=>XH q1 a0 a2 x21 x22 (r5.1,r5.2.1,r5.2.2.1,r5.2.2.2) else XH q1 a0 a2 x21 x22 (x17,x18,x19,x20) else inrO (some (.inl (IntKind.i64.wrap (x17+1),x18,x19,x20,x21,14,(-1),x22)))
noncomputable def Jcl(q1:EB→Int→Int→(List Token)→Int→Int→Int→Int→Option (Int×Int×(List Node)×Int×Int×Int×Int×Int))(a0:EB)(a2:List Token):(Int×Int×Int×Int×Int×(List Node))→Option ((Int×Int×Int×Int×Int×(List Node)) ⊕ ((Int×Int×Int×Int×Int×Int×Int×(List Node)) ⊕ (Int×Int×(List Node)×Int×Int×Int×Int×Int)))
 | (x17,x18,x19,x20,x21,x22)=>(JT a2 x18 x19 x20 x21).bind fun r6=>if r6=true then(JA x17 a2 x18 x19 x20 x21).bind fun r7=>Zx q1 a0 a2 x17 x18 x19 x20 x21 x22 (!eqS r7 [41]) else Zx q1 a0 a2 x17 x18 x19 x20 x21 x22 false
noncomputable def JaV(q1:EB→Int→Int→(List Token)→Int→Int→Int→Int→Option (Int×Int×(List Node)×Int×Int×Int×Int×Int))(a0:EB)(a2:List Token):(Int×Int×Int×Int×Int×Int×Int×(List Node))→Option ((Int×Int×Int×Int×Int×Int×Int×(List Node)) ⊕ (Int×Int×(List Node)×Int×Int×Int×Int×Int))
 | (x9,x10,x11,x12,x13,x14,x15,x16)=>(JT a2 x10 x11 x12 x13).bind fun r1=>if r1=true then(JA x9 a2 x10 x11 x12 x13).bind fun r2=>if(eqS r2 [40])=true then Jt (Jcl q1 a0 a2) (IntKind.i64.wrap (x9+1),x10,x11,x12,x13,[(⟨x14,x15,x16⟩:Node)]) else if(eqS r2 [91])=true then(q1 a0 (IntKind.i64.wrap (x9+1)) 0 a2 x10 x11 x12 x13).bind fun r8=>(JS r8.2.2.2.1 [93] a2 r8.2.2.2.2.1 r8.2.2.2.2.2.1 r8.2.2.2.2.2.2.1 r8.2.2.2.2.2.2.2).bind fun r9=>some (.inl (r9.1,r9.2.1,r9.2.2.1,r9.2.2.2,r8.2.2.2.2.2.2.2,15,(-1),[(⟨x14,x15,x16⟩:Node),(⟨r8.1,r8.2.1,r8.2.2.1⟩:Node)])) else inrO (some (x14,x15,x16,x9,x10,x11,x12,x13)) else inrO (some (x14,x15,x16,x9,x10,x11,x12,x13))
noncomputable def Zw(q1:EB→Int→Int→(List Token)→Int→Int→Int→Int→Option (Int×Int×(List Node)×Int×Int×Int×Int×Int))(a0:EB)(a2:List Token):(Int×Int×Int×Int×Int×Int×Int×(List Node))→Option (Int×Int×(List Node)×Int×Int×Int×Int×Int)
 | (x1,x2,x3,x4,x5,x6,x7,x8)=>Jt (JaV q1 a0 a2) (x1,x2,x3,x4,x5,x6,x7,x8)
noncomputable def V4(q1:EB→Int→Int→(List Token)→Int→Int→Int→Int→Option (Int×Int×(List Node)×Int×Int×Int×Int×Int))(a0:EB)(a1:Int)(a2:List Token)(a3:Int)(a4:Int)(a5:Int)(a6:Int):Bool→Option (Int×Int×(List Node)×Int×Int×Int×Int×Int)
 | x28=>if x28=true then Zw q1 a0 a2 (IntKind.i64.wrap (a1+1),a3,a4,a5,a6,11,a1,([]:List Node)) else(VI a1 a2 a3 a4 a5 a6).bind fun r14=>Zw q1 a0 a2 (IntKind.i64.wrap (a1+1),r14.1,r14.2.1,r14.2.2,a6,10,a1,([]:List Node))
noncomputable def Jbp(q1:EB→Int→Int→(List Token)→Int→Int→Int→Int→Option (Int×Int×(List Node)×Int×Int×Int×Int×Int))(q2:EB→Int→(List Token)→Int→Int→Int→Int→Option (Int×Int×(List Node)×Int×Int×Int×Int×Int))(q3:EB→Int→(List Token)→Int→Int→Int→Int→Option (Int×Int×(List Node)×Int×Int×Int×Int×Int))(a0:EB)(a1:Int)(a2:List Token)(a3:Int)(a4:Int)(a5:Int)(a6:Int):Option (Int×Int×(List Node)×Int×Int×Int×Int×Int) :=
 if(leI (a2.length:Int) a1)=true then(VD a1 9 a2 a3 a4 a5 a6).bind fun r10=>some (0,0,([]:List Node),a1,r10.1,r10.2.1,r10.2.2,a6) else(JA a1 a2 a3 a4 a5 a6).bind fun r11=>if(eqS r11 [40])=true then(q1 a0 (IntKind.i64.wrap (a1+1)) 0 a2 a3 a4 a5 a6).bind fun r12=>(JS r12.2.2.2.1 [41] a2 r12.2.2.2.2.1 r12.2.2.2.2.2.1 r12.2.2.2.2.2.2.1 r12.2.2.2.2.2.2.2).bind fun r13=>Zw q1 a0 a2 (r13.1,r13.2.1,r13.2.2.1,r13.2.2.2,r12.2.2.2.2.2.2.2,r12.1,r12.2.1,r12.2.2.1) else if(0:Int)≤a1∧a1.toNat<a2.length then if(eqI ((a2.getD a1.toNat default).Kind) 2)=true then V4 q1 a0 a1 a2 a3 a4 a5 a6 true else if(0:Int)≤a1∧a1.toNat<a2.length then if(eqI ((a2.getD a1.toNat default).Kind) 3)=true then V4 q1 a0 a1 a2 a3 a4 a5 a6 true else if(0:Int)≤a1∧a1.toNat<a2.length then V4 q1 a0 a1 a2 a3 a4 a5 a6 (eqI ((a2.getD a1.toNat default).Kind) 4) else none else none else none
theorem JiU(q1:EB→Int→Int→(List Token)→Int→Int→Int→Int→Option (Int×Int×(List Node)×Int×Int×Int×Int×Int))(q2:EB→Int→(List Token)→Int→Int→Int→Int→Option (Int×Int×(List Node)×Int×Int×Int×Int×Int))(q3:EB→Int→(List Token)→Int→Int→Int→Int→Option (Int×Int×(List Node)×Int×Int×Int×Int×Int))(kq1:Kok Try.prog 59 true (Vx q1))(kq2:Kok Try.prog 78 true (VJ q2))(kq3:Kok Try.prog 85 true (XC q3)):∀ g,XC (Jbp q1 q2 q3) g→Jx Try.prog 85 g:=by
 rintro _ ⟨a0,a1,a2,a3,a4,a5,a6,r,H,rfl⟩
 refine xGn mixed [] [(16,true,KH),(31,true,Ka),(59,true,(Vx q1)),(36,true,Vq),(57,true,Vp),(58,true,Zr)] [] trivial ⟨KJ,Kw,kq1,Xh,ZY,JdP,trivial⟩ trivial Try.func85 _ ?_
 have G:=True.intro
 have Y:=xZ y_3 <| xZ y_22 <| xZ y_24 <| xZ y_26 <| xZ y_44 <| xZ y_50 <| xZ Try.results85 <| xZ J2.eq_1 <| xZ Jb.eq_1 <| xZ Vu <| xZ JW.eq_1 <| xZ KI.eq_1 <| xZ Kb.eq_1 <| xZ Vm.eq_1 <| xZ Vs.eq_1 <| xZ Vr.eq_1 <| xZ ZD.eq_1 <| Jbi.eq_1
 dsimp only[Jbi]
 simp only[Jbp]at H
 refine xS ?_
 refine xr ?_
 refine xr0 ?_
 refine Jq ?_
 refine JB (Zw q1 a0 a2) (fun s=>[(0,.c (.pt 1 0)),(1,.c (.fm (EM Try.prog 52 (cvK a0)))),(2,.c (.d (.v (.int .i64 s.1)))),(6,.c (.pt 2 0)),(8,.c (.pt 3 0))]) (fun s=>[[.d (.sl 11 (List.map Jb a2)),.d (.v (.int .i64 s.2.1)),.d (.v (.int .i64 s.2.2.1)),.d (.v (.int .i64 s.2.2.2.1)),.d (.v (.int .i64 s.2.2.2.2.1))],[.d (.v (.int .i64 0)),.d (.v (.int .i64 0)),.sl 3 [] 0],[.d (.v (.int .i64 s.2.2.2.2.2.1)),.d (.v (.int .i64 s.2.2.2.2.2.2.1)),.sl 3 (List.map Jp s.2.2.2.2.2.2.2) 4]]) [26] r ?_ ?_
 ·refine xS ?_
  refine xr ?_
  rcases Jc H with⟨hp8,H⟩|⟨hp8,H⟩
  ·obtain⟨F,G,hq8⟩:=xH Y G hp8
   refine xT ?_
   obtain⟨r10,hr10,H⟩:=Jg H
   have F:=Y
   refine xQ ?_
   refine xs 2 ?_
   refine xc ⟨[1],[]⟩ (tabG 4 (Z6 a1 9 a2 a3 a4 a5 a6 r10 hr10)) ?_
   refine xl ?_
   refine xS ?_
   replace H:=Option.some.inj H
   refine xr ?_
   subst H
   refine xrD [] ?_
   exact xO ⟨[1],[0]⟩
  ·obtain⟨F,G,hq8⟩:=xH Y G hp8
   refine xE ?_
   obtain⟨r11,hr11,H⟩:=Jg H
   have F:=Y
   refine xQ ?_
   refine xs 2 ?_
   refine xc ⟨[1],[]⟩ (tabG 1 (JE a1 a2 a3 a4 a5 a6 r11 hr11)) ?_
   refine xs 2 ?_
   refine xl ?_
   refine xS ?_
   rcases Jc H with⟨hp9,H⟩|⟨hp9,H⟩
   ·obtain⟨F,G,hq9⟩:=xH Y G hp9
    refine xT ?_
    obtain⟨r12,hr12,H⟩:=Jg H
    have F:=Y
    refine xQ ?_
    refine xs 4 ?_
    refine xc ⟨[1],[]⟩ (tabG 2 (JaI q1 a0 (IntKind.i64.wrap (a1+1)) 0 a2 a3 a4 a5 a6 r12 hr12)) ?_
    refine xs 5 ?_
    refine xl ?_
    refine xS ?_
    obtain⟨r13,hr13,H⟩:=Jg H
    have F:=Y
    refine xQ ?_
    refine xs 2 ?_
    refine xc ⟨[1],[]⟩ (tabG 3 (KX r12.2.2.2.1 [41] a2 r12.2.2.2.2.1 r12.2.2.2.2.2.1 r12.2.2.2.2.2.2.1 r12.2.2.2.2.2.2.2 r13 hr13)) ?_
    refine xs 1 ?_
    refine xl ?_
    refine xS ?_
    exact Jf H (xK ⟨[1,2,3],[6]⟩)
   ·obtain⟨F,G,hq9⟩:=xH Y G hp9
    refine xE0 ?_
    refine JB (V4 q1 a0 a1 a2 a3 a4 a5 a6) (fun s=>[(0,.c (.pt 1 0)),(1,.c (.fm (EM Try.prog 52 (cvK a0)))),(2,.c (.d (.v (.int .i64 a1)))),(6,.c (.pt 2 0)),(8,.c (.pt 3 0)),(49,.c (.d (.v (.bool s))))]) (fun s=>[[.d (.sl 11 (List.map Jb a2)),.d (.v (.int .i64 a3)),.d (.v (.int .i64 a4)),.d (.v (.int .i64 a5)),.d (.v (.int .i64 a6))],[.d (.v (.int .i64 0)),.d (.v (.int .i64 0)),.sl 3 [] 0],[.d (.v (.int .i64 0)),.d (.v (.int .i64 0)),.sl 3 [] 0]]) [] r ?_ ?_
    ·obtain⟨hg2,H⟩:=Jj H
     have F:=xZ Y (Jr Jb a2 a1.toNat default default (by omega))
     rcases Jc H with⟨hp11,H⟩|⟨hp11,H⟩
     ·obtain⟨F,G,hq11⟩:=xH F G hp11
      refine xR ?_
      exact Jf H (xK ⟨[1,2,3],[]⟩)
     ·obtain⟨F,G,hq11⟩:=xH F G hp11
      obtain⟨hg3,H⟩:=Jj H
      have F:=xZ F (Jr Jb a2 a1.toNat default default (by omega))
      rcases Jc H with⟨hp12,H⟩|⟨hp12,H⟩
      ·obtain⟨F,G,hq12⟩:=xH F G hp12
       refine xR ?_
       exact Jf H (xK ⟨[1,2,3],[]⟩)
      ·obtain⟨F,G,hq12⟩:=xH F G hp12
       obtain⟨hg4,H⟩:=Jj H
       have F:=xZ F (Jr Jb a2 a1.toNat default default (by omega))
       refine xR ?_
       exact Jf H (xK ⟨[1,2,3],[]⟩)
    ·rintro x28 H
     rw[V4]at H
     rcases Jc H with⟨hp10,H⟩|⟨hp10,H⟩
     ·obtain⟨F,G,hq10⟩:=xH Y G hp10
      refine xT ?_
      refine xr ?_
      refine xr ?_
      exact Jf H (xK ⟨[1,2,3],[0]⟩)
     ·obtain⟨F,G,hq10⟩:=xH Y G hp10
      refine xE ?_
      obtain⟨r14,hr14,H⟩:=Jg H
      have F:=Y
      refine xQ ?_
      refine xs 2 ?_
      refine xc ⟨[1],[]⟩ (tabG 5 (Jf1 a1 a2 a3 a4 a5 a6 r14 hr14)) ?_
      refine xl ?_
      refine xS ?_
      refine xr ?_
      refine xr ?_
      exact Jf H (xK ⟨[1,2,3],[0]⟩)
 ·rintro ⟨x1,x2,x3,x4,x5,x6,x7,x8⟩ H
  rw[Zw]at H
  refine xS ?_
  refine Ke (JaV q1 a0 a2) (fun s=>[(0,.c (.pt 1 0)),(1,.c (.fm (EM Try.prog 52 (cvK a0)))),(2,.c (.d (.v (.int .i64 s.1)))),(6,.c (.pt 2 0)),(8,.c (.pt 3 0))]) (fun s=>[[.d (.sl 11 (List.map Jb a2)),.d (.v (.int .i64 s.2.1)),.d (.v (.int .i64 s.2.2.1)),.d (.v (.int .i64 s.2.2.2.1)),.d (.v (.int .i64 s.2.2.2.2.1))],[.d (.v (.int .i64 0)),.d (.v (.int .i64 0)),.sl 3 [] 0],[.d (.v (.int .i64 s.2.2.2.2.2.1)),.d (.v (.int .i64 s.2.2.2.2.2.2.1)),.sl 3 (List.map Jp s.2.2.2.2.2.2.2) 4]]) [26] H (xK ⟨[1,2,3],[4]⟩) ?_
  rintro n1 ⟨x9,x10,x11,x12,x13,x14,x15,x16⟩ o1 H hF1
  rw[JaV]at H
  refine xS ?_
  obtain⟨r1,hr1,H⟩:=Jg H
  have F:=Y
  refine xQ ?_
  refine xs 1 ?_
  refine xc ⟨[1],[]⟩ (tabG 0 (JG a2 x10 x11 x12 x13 r1 hr1)) ?_
  refine xl ?_
  refine xS ?_
  rcases Jc H with⟨hp1,H⟩|⟨hp1,H⟩
  ·obtain⟨F,G,hq1⟩:=xH Y G hp1
   refine xT ?_
   obtain⟨r2,hr2,H⟩:=Jg H
   have F:=Y
   refine xQ ?_
   refine xs 2 ?_
   refine xc ⟨[1],[]⟩ (tabG 1 (JE x9 a2 x10 x11 x12 x13 r2 hr2)) ?_
   refine xl ?_
   refine xS ?_
   refine xr ?_
   rcases Jc H with⟨hp2,H⟩|⟨hp2,H⟩
   ·obtain⟨F,G,hq2⟩:=xH Y G hp2
    refine xT ?_
    refine xr ?_
    refine xr ?_
    refine Ke (Jcl q1 a0 a2) (fun s=>[(0,.c (.pt 1 0)),(1,.c (.fm (EM Try.prog 52 (cvK a0)))),(2,.c (.d (.v (.int .i64 s.1)))),(6,.c (.pt 2 0)),(8,.c (.pt 3 0))]) (fun s=>[[.d (.sl 11 (List.map Jb a2)),.d (.v (.int .i64 s.2.1)),.d (.v (.int .i64 s.2.2.1)),.d (.v (.int .i64 s.2.2.2.1)),.d (.v (.int .i64 s.2.2.2.2.1))],[.d (.v (.int .i64 0)),.d (.v (.int .i64 0)),.sl 3 [] 0],[.d (.v (.int .i64 14)),.d (.v (.int .i64 (-1))),.sl 3 (List.map Jp s.2.2.2.2.2) 4]]) [26] H (xK ⟨[1,2,3],[0]⟩) ?_
    rintro n2 ⟨x17,x18,x19,x20,x21,x22⟩ o2 H hF2
    rw[Jcl]at H
    refine Zn ?_
    refine JB (Zx q1 a0 a2 x17 x18 x19 x20 x21 x22) (fun s=>[(0,.c (.pt 1 0)),(1,.c (.fm (EM Try.prog 52 (cvK a0)))),(2,.c (.d (.v (.int .i64 x17)))),(6,.c (.pt 2 0)),(8,.c (.pt 3 0)),(106,.c (.d (.v (.bool s))))]) (fun s=>[[.d (.sl 11 (List.map Jb a2)),.d (.v (.int .i64 x18)),.d (.v (.int .i64 x19)),.d (.v (.int .i64 x20)),.d (.v (.int .i64 x21))],[.d (.v (.int .i64 0)),.d (.v (.int .i64 0)),.sl 3 [] 0],[.d (.v (.int .i64 14)),.d (.v (.int .i64 (-1))),.sl 3 (List.map Jp x22) 4]]) [26] o2 ?_ ?_
    ·obtain⟨r6,hr6,H⟩:=Jg H
     have F:=Y
     rcases Jc H with⟨hp6,H⟩|⟨hp6,H⟩
     ·obtain⟨F,G,hq6⟩:=xH F G hp6
      obtain⟨r7,hr7,H⟩:=Jg H
      have F:=F
      refine xQ ?_
      refine xs 1 ?_
      refine xc ⟨[1],[]⟩ (tabG 0 (JG a2 x18 x19 x20 x21 r6 hr6)) ?_
      refine xs 3 ?_
      refine xc ⟨[1],[]⟩ (tabG 1 (JE x17 a2 x18 x19 x20 x21 r7 hr7)) ?_
      refine xs 2 ?_
      refine xl ?_
      refine xS ?_
      exact Jf H (xK ⟨[1,2,3],[4]⟩)
     ·obtain⟨F,G,hq6⟩:=xH F G hp6
      refine xQ ?_
      refine xs 1 ?_
      refine xc ⟨[1],[]⟩ (tabG 0 (JG a2 x18 x19 x20 x21 r6 hr6)) ?_
      refine xs 6 ?_
      refine xl ?_
      refine xS ?_
      exact Jf H (xK ⟨[1,2,3],[4]⟩)
    ·rintro x23 H
     rw[Zx]at H
     rcases Jc H with⟨hp3,H⟩|⟨hp3,H⟩
     ·obtain⟨F,G,hq3⟩:=xH Y G hp3
      refine xT0 ?_
      refine Jbu ?_
      refine Jq ?_
      refine Jge ?_
      refine JB (XH q1 a0 a2 x21 x22) (fun s=>[(0,.c (.pt 1 0)),(1,.c (.fm (EM Try.prog 52 (cvK a0)))),(2,.c (.d (.v (.int .i64 s.1)))),(6,.c (.pt 2 0)),(8,.c (.pt 3 0))]) (fun s=>[[.d (.sl 11 (List.map Jb a2)),.d (.v (.int .i64 s.2.1)),.d (.v (.int .i64 s.2.2.1)),.d (.v (.int .i64 s.2.2.2)),.d (.v (.int .i64 x21))],[.d (.v (.int .i64 0)),.d (.v (.int .i64 0)),.sl 3 [] 0],[.d (.v (.int .i64 14)),.d (.v (.int .i64 (-1))),.sl 3 (List.map Jp x22) 4]]) [26] o2 ?_ ?_
      ·refine xS ?_
       refine xr ?_
       rcases Jc H with⟨hp5,H⟩|⟨hp5,H⟩
       ·obtain⟨F,G,hq5⟩:=xH Y G hp5
        refine xT ?_
        obtain⟨r5,hr5,H⟩:=Jg H
        have F:=Y
        refine xQ ?_
        refine xs 2 ?_
        refine xc ⟨[1],[]⟩ (tabG 3 (KX x17 [44] a2 x18 x19 x20 x21 r5 hr5)) ?_
        refine xs 1 ?_
        refine xl ?_
        refine xS ?_
        exact Jf H (xK ⟨[1,2,3],[4]⟩)
       ·obtain⟨F,G,hq5⟩:=xH Y G hp5
        refine xE ?_
        exact Jf H (xK ⟨[1,2,3],[4]⟩)
      ·rintro ⟨x24,x25,x26,x27⟩ H
       rw[XH]at H
       refine xS ?_
       obtain⟨r3,hr3,H⟩:=Jg H
       have F:=Y
       refine xQ ?_
       refine xs 1 ?_
       refine xc ⟨[1],[]⟩ (tabG 0 (JG a2 x25 x26 x27 x21 r3 hr3)) ?_
       refine xl ?_
       refine xS ?_
       rcases Jc H with⟨hp4,H⟩|⟨hp4,H⟩
       ·obtain⟨F,G,hq4⟩:=xH Y G hp4
        refine xT ?_
        obtain⟨r4,hr4,H⟩:=Jg H
        have F:=Y
        refine xQ ?_
        refine xs 3 ?_
        refine xc ⟨[1],[]⟩ (tabG 2 (JaI q1 a0 x24 1 a2 x25 x26 x27 x21 r4 hr4)) ?_
        refine xs 6 ?_
        refine xl ?_
        refine xS ?_
        obtain⟨hg1,H⟩:=Jj H
        have F:=xZ Y (XL JaC [(⟨r4.1,r4.2.1,r4.2.2.1⟩:Node)])
        refine xR ?_
        refine xr ?_
        exact JD (JM H hF2) (xK ⟨[1,2,3],[9]⟩)
       ·obtain⟨F,G,hq4⟩:=xH Y G hp4
        refine xE ?_
        exact JD (JM H hF2) (xK ⟨[1,2,3],[4]⟩)
     ·obtain⟨F,G,hq3⟩:=xH Y G hp3
      replace H:=Js H hF2
      refine xE ?_
      refine xr ?_
      exact JD (JM H hF1) (xK ⟨[1,2,3],[4]⟩)
   ·obtain⟨F,G,hq2⟩:=xH Y G hp2
    refine xE ?_
    refine xr ?_
    rcases Jc H with⟨hp7,H⟩|⟨hp7,H⟩
    ·obtain⟨F,G,hq7⟩:=xH Y G hp7
     refine xT ?_
     obtain⟨r8,hr8,H⟩:=Jg H
     have F:=Y
     refine xQ ?_
     refine xs 4 ?_
     refine xc ⟨[1],[]⟩ (tabG 2 (JaI q1 a0 (IntKind.i64.wrap (x9+1)) 0 a2 x10 x11 x12 x13 r8 hr8)) ?_
     refine xs 6 ?_
     refine xl ?_
     refine xS ?_
     refine xr ?_
     obtain⟨r9,hr9,H⟩:=Jg H
     have F:=Y
     refine xQ ?_
     refine xs 2 ?_
     refine xc ⟨[1],[]⟩ (tabG 3 (KX r8.2.2.2.1 [93] a2 r8.2.2.2.2.1 r8.2.2.2.2.2.1 r8.2.2.2.2.2.2.1 r8.2.2.2.2.2.2.2 r9 hr9)) ?_
     refine xs 1 ?_
     refine xl ?_
     refine xS ?_
     exact JD (JM H hF1) (xK ⟨[1,2,3],[0]⟩)
    ·obtain⟨F,G,hq7⟩:=xH Y G hp7
     refine xE ?_
     replace H:=Js H hF1
     replace H:=Option.some.inj H
     refine xr ?_
     subst H
     refine xrD [] ?_
     exact xO ⟨[1],[4]⟩
  ·obtain⟨F,G,hq1⟩:=xH Y G hp1
   replace H:=Js H hF1
   refine xE ?_
   replace H:=Option.some.inj H
   refine xr ?_
   subst H
   refine xrD [] ?_
   exact xO ⟨[1],[4]⟩
noncomputable def Jv:Nat→(EB→Int→Int→(List Token)→Int→Int→Int→Int→Option (Int×Int×(List Node)×Int×Int×Int×Int×Int))×(EB→Int→(List Token)→Int→Int→Int→Int→Option (Int×Int×(List Node)×Int×Int×Int×Int×Int))×(EB→Int→(List Token)→Int→Int→Int→Int→Option (Int×Int×(List Node)×Int×Int×Int×Int×Int))
 | 0=>(fun _ _ _ _ _ _ _ _=>none,fun _ _ _ _ _ _ _=>none,fun _ _ _ _ _ _ _=>none)
 | n+1=>(XS ((Jv n).1) ((Jv n).2.1) ((Jv n).2.2),JaL ((Jv n).1) ((Jv n).2.1) ((Jv n).2.2),Jbp ((Jv n).1) ((Jv n).2.1) ((Jv n).2.2))
theorem Je2:∀ n,Kok Try.prog 59 true (Vx (Jv n).1)∧Kok Try.prog 78 true (VJ (Jv n).2.1)∧Kok Try.prog 85 true (XC (Jv n).2.2)
 | 0=>⟨⟨JrV,(by rintro _ ⟨_,_,_,_,_,_,_,_,_,H,_⟩; cases H),fun _=>by rintro _ ⟨_,_,_,_,_,_,_,_,_,_,rfl⟩; exact⟨_,_,_,rfl⟩⟩,⟨Jrq,(by rintro _ ⟨_,_,_,_,_,_,_,_,H,_⟩; cases H),fun _=>by rintro _ ⟨_,_,_,_,_,_,_,_,_,rfl⟩; exact⟨_,_,_,rfl⟩⟩,⟨Jry,(by rintro _ ⟨_,_,_,_,_,_,_,_,H,_⟩; cases H),fun _=>by rintro _ ⟨_,_,_,_,_,_,_,_,_,rfl⟩; exact⟨_,_,_,rfl⟩⟩⟩
 | n+1=>have h:=Je2 n; ⟨⟨JrV,Jiz _ _ _ h.1 h.2.1 h.2.2,fun _=>by rintro _ ⟨_,_,_,_,_,_,_,_,_,_,rfl⟩; exact⟨_,_,_,rfl⟩⟩,⟨Jrq,Jij _ _ _ h.1 h.2.1 h.2.2,fun _=>by rintro _ ⟨_,_,_,_,_,_,_,_,_,rfl⟩; exact⟨_,_,_,rfl⟩⟩,⟨Jry,JiU _ _ _ h.1 h.2.1 h.2.2,fun _=>by rintro _ ⟨_,_,_,_,_,_,_,_,_,rfl⟩; exact⟨_,_,_,rfl⟩⟩⟩
noncomputable def Vd:EB→Int→Int→(List Token)→Int→Int→Int→Int→Option (Int×Int×(List Node)×Int×Int×Int×Int×Int):=(Jv bigF).1
def Jbl:GI→Prop:=Vx Vd
theorem Jbs(a0:EB)(a1:Int)(a2:Int)(a3:List Token)(a4:Int)(a5:Int)(a6:Int)(a7:Int)(r:(Int×Int×(List Node)×Int×Int×Int×Int×Int))(H:Vd a0 a1 a2 a3 a4 a5 a6 a7=some r):Jbl (Vm a0 a1 a2 a3 a4 a5 a6 a7 r):=JaI Vd a0 a1 a2 a3 a4 a5 a6 a7 r H
theorem Jbm:Kok Try.prog 59 true Jbl:=(Je2 bigF).1
noncomputable def VO(a0:EB)(a2:Bool)(x1:Int):(Int×(List UInt8)×Int×Int×Int×Int×(List Node))→Option (Int×(List Node)×Int×EB×Int×Int×Int×Int)
 | (x2,x3,x4,x5,x6,x7,x8)=>(Z0 a0 x3 a2).bind fun r4=>some (x1,x8,x2,((x3,a2)::a0),x4,x5,x6,x7)
noncomputable def Xx(a0:EB)(a2:Bool)(a3:List Token)(a4:Int)(a5:Int)(a6:Int)(a7:Int):Int→Option (Int ⊕ (Int×(List Node)×Int×EB×Int×Int×Int×Int))
 | x1=>(JA x1 a3 a4 a5 a6 a7).bind fun r1=>if(eqS r1 [42])=true then some (.inl (IntKind.i64.wrap (x1+1))) else inrO ((VI x1 a3 a4 a5 a6 a7).bind fun r2=>(JT a3 r2.1 r2.2.1 r2.2.2 a7).bind fun r3=>if(!r3)=true then some (x1,([]:List Node),x1,a0,r2.1,r2.2.1,r2.2.2,a7) else if(0:Int)≤x1∧x1.toNat<a3.length then(JA (IntKind.i64.wrap (x1+1)) a3 r2.1 r2.2.1 r2.2.2 a7).bind fun r5=>if(eqS r5 [91])=true then(Vd a0 (IntKind.i64.wrap ((IntKind.i64.wrap (x1+1))+1)) 0 a3 r2.1 r2.2.1 r2.2.2 a7).bind fun r6=>if(([]:List Node).length + [(⟨r6.1,r6.2.1,r6.2.2.1⟩:Node)].length) * 40≤140737488355328 then(JS r6.2.2.2.1 [93] a3 r6.2.2.2.2.1 r6.2.2.2.2.2.1 r6.2.2.2.2.2.2.1 r6.2.2.2.2.2.2.2).bind fun r7=>VO a0 a2 x1 (r7.1,(a3.getD x1.toNat default).Text,r7.2.1,r7.2.2.1,r7.2.2.2,r6.2.2.2.2.2.2.2,([]:List Node)++[(⟨r6.1,r6.2.1,r6.2.2.1⟩:Node)]) else none else VO a0 a2 x1 (IntKind.i64.wrap (x1+1),(a3.getD x1.toNat default).Text,r2.1,r2.2.1,r2.2.2,a7,([]:List Node)) else none)
noncomputable def KQ(a0:EB)(a1:Int)(a2:Bool)(a3:List Token)(a4:Int)(a5:Int)(a6:Int)(a7:Int):Option (Int×(List Node)×Int×EB×Int×Int×Int×Int) :=
 Jt (Xx a0 a2 a3 a4 a5 a6 a7) a1
noncomputable def Vl(a0:EB)(a1:Int)(a2:Bool)(a3:List Token)(a4:Int)(a5:Int)(a6:Int)(a7:Int)(r:(Int×(List Node)×Int×EB×Int×Int×Int×Int)):GI :=
 ⟨[.c (.pt 1 0),.c (.fm (EM Try.prog 52 (cvK a0))),.c (.d (.v (.int .i64 a1))),.c (.d (.v (.bool a2)))],[[.d (.sl 11 (List.map Jb a3)),.d (.v (.int .i64 a4)),.d (.v (.int .i64 a5)),.d (.v (.int .i64 a6)),.d (.v (.int .i64 a7))]],[],.ret (.tu [(true,[.d (.v (.int .i64 4)),.d (.v (.int .i64 r.1)),.sl 3 (List.map Jp r.2.1) 2]),(false,[.d (.v (.int .i64 r.2.2.1))]),(false,[.fm (EM Try.prog 52 (cvK r.2.2.2.1))])]) [[.d (.sl 11 (List.map Jb a3)),.d (.v (.int .i64 r.2.2.2.2.1)),.d (.v (.int .i64 r.2.2.2.2.2.1)),.d (.v (.int .i64 r.2.2.2.2.2.2.1)),.d (.v (.int .i64 r.2.2.2.2.2.2.2))]] [26]⟩
def Vo:GI→Prop:=fun g=>∃ (a0:EB) (a1:Int) (a2:Bool) (a3:List Token) (a4:Int) (a5:Int) (a6:Int) (a7:Int) (r:(Int×(List Node)×Int×EB×Int×Int×Int×Int)),KQ a0 a1 a2 a3 a4 a5 a6 a7=some r∧g=Vl a0 a1 a2 a3 a4 a5 a6 a7 r
theorem Jah(a0:EB)(a1:Int)(a2:Bool)(a3:List Token)(a4:Int)(a5:Int)(a6:Int)(a7:Int)(r:(Int×(List Node)×Int×EB×Int×Int×Int×Int))(H:KQ a0 a1 a2 a3 a4 a5 a6 a7=some r):Vo (Vl a0 a1 a2 a3 a4 a5 a6 a7 r):=⟨a0,a1,a2,a3,a4,a5,a6,a7,r,H,rfl⟩
theorem JgO:∀ g,Vo g→Jx Try.prog 34 g:=by
 rintro _ ⟨a0,a1,a2,a3,a4,a5,a6,a7,r,H,rfl⟩
 refine xGnl mixed [13] [] [(31,true,Ka),(58,true,Zr),(16,true,KH),(60,true,Jal),(59,true,Jbl),(36,true,Vq)] [] trivial ⟨Kw,JdP,KJ,JfJ,Jbm,Xh,trivial⟩ trivial Try.func34 _ ?_
 have G:=True.intro
 have Y:=xZ y_3 <| xZ y_9 <| xZ y_22 <| xZ y_24 <| xZ y_26 <| xZ y_44 <| xZ y_50 <| xZ Try.results34 <| xZ J2.eq_1 <| xZ Jb.eq_1 <| xZ Vu <| xZ JW.eq_1 <| xZ Kb.eq_1 <| xZ ZD.eq_1 <| xZ KI.eq_1 <| xZ Jat.eq_1 <| xZ Vm.eq_1 <| xZ Vs.eq_1 <| Vl.eq_1
 dsimp only[Vl]
 simp only[KQ]at H
 refine xS ?_
 refine xr ?_
 refine Ke (Xx a0 a2 a3 a4 a5 a6 a7) (fun s=>[(0,.c (.pt 1 0)),(1,.c (.fm (EM Try.prog 52 (cvK a0)))),(2,.c (.d (.v (.int .i64 s)))),(3,.c (.d (.v (.bool a2)))),(8,.c (.pt 2 0))]) (fun s=>[[.d (.sl 11 (List.map Jb a3)),.d (.v (.int .i64 a4)),.d (.v (.int .i64 a5)),.d (.v (.int .i64 a6)),.d (.v (.int .i64 a7))],[.d (.v (.int .i64 0)),.d (.v (.int .i64 0)),.sl 3 [] 0]]) [] H (xK ⟨[1,2],[]⟩) ?_
 rintro n1 x1 o1 H hF1
 rw[Xx]at H
 refine xS ?_
 obtain⟨r1,hr1,H⟩:=Jg H
 have F:=Y
 refine xQ ?_
 refine xs 2 ?_
 refine xc ⟨[1],[]⟩ (tabG 0 (JE x1 a3 a4 a5 a6 a7 r1 hr1)) ?_
 refine xs 1 ?_
 refine xl ?_
 refine xS ?_
 rcases Jc H with⟨hp1,H⟩|⟨hp1,H⟩
 ·obtain⟨F,G,hq1⟩:=xH Y G hp1
  refine xT ?_
  refine xr ?_
  exact JD (JM H hF1) (xK ⟨[1,2],[]⟩)
 ·obtain⟨F,G,hq1⟩:=xH Y G hp1
  replace H:=Js H hF1
  refine xE ?_
  refine xr ?_
  obtain⟨r2,hr2,H⟩:=Jg H
  have F:=Y
  refine xQ ?_
  refine xs 2 ?_
  refine xc ⟨[1],[]⟩ (tabG 1 (Jf1 x1 a3 a4 a5 a6 a7 r2 hr2)) ?_
  refine xl ?_
  refine xS ?_
  obtain⟨r3,hr3,H⟩:=Jg H
  have F:=Y
  refine xQ ?_
  refine xs 1 ?_
  refine xc ⟨[1],[]⟩ (tabG 2 (JG a3 r2.1 r2.2.1 r2.2.2 a7 r3 hr3)) ?_
  refine xs 1 ?_
  refine xl ?_
  refine xS ?_
  rcases Jc H with⟨hp2,H⟩|⟨hp2,H⟩
  ·obtain⟨F,G,hq2⟩:=xH Y G hp2
   refine xT ?_
   replace H:=Option.some.inj H
   refine xr ?_
   subst H
   refine xrD [] ?_
   exact xO ⟨[1],[0]⟩
  ·obtain⟨F,G,hq2⟩:=xH Y G hp2
   refine xE ?_
   obtain⟨hg1,H⟩:=Jj H
   have F:=xZ Y (Jr Jb a3 x1.toNat default default (by omega))
   refine xR ?_
   refine xr0 ?_
   refine Jq ?_
   refine JB (VO a0 a2 x1) (fun s=>[(1,.c (.fm (EM Try.prog 52 (cvK a0)))),(2,.c (.d (.v (.int .i64 s.1)))),(3,.c (.d (.v (.bool a2)))),(8,.c (.pt 2 0)),(11,.c (.pt 3 0)),(12,.c (.d (.v (str s.2.1))))]) (fun s=>[[.d (.sl 11 (List.map Jb a3)),.d (.v (.int .i64 s.2.2.1)),.d (.v (.int .i64 s.2.2.2.1)),.d (.v (.int .i64 s.2.2.2.2.1)),.d (.v (.int .i64 s.2.2.2.2.2.1))],[.d (.v (.int .i64 0)),.d (.v (.int .i64 0)),.sl 3 [] 0],[.d (.v (.int .i64 4)),.d (.v (.int .i64 x1)),.sl 3 (List.map Jp s.2.2.2.2.2.2) 4]]) [26] r ?_ ?_
   ·refine xS ?_
    obtain⟨r5,hr5,H⟩:=Jg H
    have F:=Y
    refine xQ ?_
    refine xs 2 ?_
    refine xc ⟨[1],[]⟩ (tabG 0 (JE (IntKind.i64.wrap (x1+1)) a3 r2.1 r2.2.1 r2.2.2 a7 r5 hr5)) ?_
    refine xs 1 ?_
    refine xl ?_
    refine xS ?_
    rcases Jc H with⟨hp3,H⟩|⟨hp3,H⟩
    ·obtain⟨F,G,hq3⟩:=xH Y G hp3
     refine xT ?_
     obtain⟨r6,hr6,H⟩:=Jg H
     have F:=Y
     refine xQ ?_
     refine xs 4 ?_
     refine xc ⟨[1],[]⟩ (tabG 4 (Jbs a0 (IntKind.i64.wrap ((IntKind.i64.wrap (x1+1))+1)) 0 a3 r2.1 r2.2.1 r2.2.2 a7 r6 hr6)) ?_
     refine xs 6 ?_
     refine xl ?_
     refine xS ?_
     obtain⟨hg2,H⟩:=Jj H
     have F:=xZ Y (XL JaC [(⟨r6.1,r6.2.1,r6.2.2.1⟩:Node)])
     refine xR ?_
     obtain⟨r7,hr7,H⟩:=Jg H
     have F:=Y
     refine xQ ?_
     refine xs 2 ?_
     refine xc ⟨[1],[]⟩ (tabG 5 (KX r6.2.2.2.1 [93] a3 r6.2.2.2.2.1 r6.2.2.2.2.2.1 r6.2.2.2.2.2.2.1 r6.2.2.2.2.2.2.2 r7 hr7)) ?_
     refine xs 1 ?_
     refine xl ?_
     refine xS ?_
     exact Jf H (xK ⟨[1,2,4],[11]⟩)
    ·obtain⟨F,G,hq3⟩:=xH Y G hp3
     refine xE ?_
     exact Jf H (xK ⟨[1,2,4],[0]⟩)
   ·rintro ⟨x2,x3,x4,x5,x6,x7,x8⟩ H
    rw[VO]at H
    refine xS ?_
    obtain⟨r4,hr4,H⟩:=Jg H
    have F:=Y
    refine xP [0,1,2,3,4,5,6,7,8] [63,888888] ⟨Kw,JdP,KJ,JfJ,Jbm,Xh,trivial⟩ ?_
    refine xaX ?_
    refine xsX 4 ?_
    refine xcX ⟨[],[]⟩ (tabG 3 (Ji3 a0 x3 a2 r4 hr4)) ?_
    refine xsX 3 ?_
    refine xlX ?_
    replace H:=Option.some.inj H
    refine xS ?_
    subst H
    refine xrD [] ?_
    exact xO ⟨[1],[4]⟩
theorem Jae:Jh Try.prog 34∧(∀ g,Vo g→Jx Try.prog 34 g)∧(true=true→∀ g,Vo g→∃ val bs ts,g.out=.ret val bs ts) :=
 ⟨Jv2,JgO,fun _=>by rintro _ ⟨_,_,_,_,_,_,_,_,_,_,rfl⟩; exact⟨_,_,_,rfl⟩⟩
noncomputable def ZL(a9:List Token):(EB×Int×Int×Int×Int×Int×(List Node))→Option ((List Node)×Int×EB×Int×Int×Int×Int)
 | (x1,x2,x3,x4,x5,x6,x7)=>(JS x2 [59] a9 x3 x4 x5 x6).bind fun r1=>some (x7,r1.1,x1,r1.2.1,r1.2.2.1,r1.2.2.2,x6)
noncomputable def Zz(a8:Bool)(a9:List Token)(x8:EB)(x14:List Node)(x15:Int)(x16:Int):(Int×Int×Int×Int×Int×(List Node))→Option ((EB×Int×Int×Int×Int×Int×(List Node)×Int×Int×(List Node)) ⊕ ((List Node)×Int×EB×Int×Int×Int×Int))
 | (x18,x19,x20,x21,x22,x23)=>if(x14.length + [(⟨x15,x16,x23⟩:Node)].length) * 40≤140737488355328 then(JA x18 a9 x19 x20 x21 x22).bind fun r3=>if(!eqS r3 [44])=true then inrO (ZL a9 (x8,x18,x19,x20,x21,x22,x14++[(⟨x15,x16,x23⟩:Node)])) else(KQ x8 (IntKind.i64.wrap (x18+1)) a8 a9 x19 x20 x21 x22).bind fun r4=>some (.inl (r4.2.2.2.1,r4.2.2.1,r4.2.2.2.2.1,r4.2.2.2.2.2.1,r4.2.2.2.2.2.2.1,r4.2.2.2.2.2.2.2,x14++[(⟨x15,x16,x23⟩:Node)],4,r4.1,r4.2.1)) else none
noncomputable def ZE(a8:Bool)(a9:List Token)(x8:EB)(x9:Int)(x10:Int)(x11:Int)(x12:Int)(x13:Int)(x14:List Node)(x15:Int)(x16:Int)(x17:List Node):Bool→Option ((EB×Int×Int×Int×Int×Int×(List Node)×Int×Int×(List Node)) ⊕ ((List Node)×Int×EB×Int×Int×Int×Int))
 | x24=>if x24=true then(Vd x8 (IntKind.i64.wrap (x9+1)) 1 a9 x10 x11 x12 x13).bind fun r5=>if(x17.length + [(⟨r5.1,r5.2.1,r5.2.2.1⟩:Node)].length) * 40≤140737488355328 then Zz a8 a9 x8 x14 x15 x16 (r5.2.2.2.1,r5.2.2.2.2.1,r5.2.2.2.2.2.1,r5.2.2.2.2.2.2.1,r5.2.2.2.2.2.2.2,x17++[(⟨r5.1,r5.2.1,r5.2.2.1⟩:Node)]) else none else Zz a8 a9 x8 x14 x15 x16 (x9,x10,x11,x12,x13,x17)
noncomputable def JaU(a8:Bool)(a9:List Token):(EB×Int×Int×Int×Int×Int×(List Node)×Int×Int×(List Node))→Option ((EB×Int×Int×Int×Int×Int×(List Node)×Int×Int×(List Node)) ⊕ ((List Node)×Int×EB×Int×Int×Int×Int))
 | (x8,x9,x10,x11,x12,x13,x14,x15,x16,x17)=>(JT a9 x10 x11 x12 x13).bind fun r2=>if r2=true then if(!a8)=true then(JA x9 a9 x10 x11 x12 x13).bind fun r6=>ZE a8 a9 x8 x9 x10 x11 x12 x13 x14 x15 x16 x17 (eqS r6 [61]) else ZE a8 a9 x8 x9 x10 x11 x12 x13 x14 x15 x16 x17 false else inrO (ZL a9 (x8,x9,x10,x11,x12,x13,x14))
noncomputable def Jcy(a0:EB)(a1:Int)(a2:Int)(a3:Int)(a4:List Node)(a5:Int)(a6:Int)(a7:List Node)(a8:Bool)(a9:List Token)(a10:Int)(a11:Int)(a12:Int)(a13:Int):Option ((List Node)×Int×EB×Int×Int×Int×Int) :=
 Jt (JaU a8 a9) (a0,a1,a10,a11,a12,a13,a4,a5,a6,a7)
noncomputable def Jab(a0:EB)(a1:Int)(a2:Int)(a3:Int)(a4:List Node)(a5:Int)(a6:Int)(a7:List Node)(a8:Bool)(a9:List Token)(a10:Int)(a11:Int)(a12:Int)(a13:Int)(r:((List Node)×Int×EB×Int×Int×Int×Int)):GI :=
 ⟨[.c (.pt 1 0),.c (.fm (EM Try.prog 52 (cvK a0))),.c (.d (.v (.int .i64 a1))),.ag [.d (.v (.int .i64 a2)),.d (.v (.int .i64 a3)),.sl 3 (List.map Jp a4) 2],.ag [.d (.v (.int .i64 a5)),.d (.v (.int .i64 a6)),.sl 3 (List.map Jp a7) 3],.c (.d (.v (.bool a8)))],[[.d (.sl 11 (List.map Jb a9)),.d (.v (.int .i64 a10)),.d (.v (.int .i64 a11)),.d (.v (.int .i64 a12)),.d (.v (.int .i64 a13))]],[26,26],.ret (.tu [(true,[.d (.v (.int .i64 a2)),.d (.v (.int .i64 a3)),.sl 3 (List.map Jp r.1) 2]),(false,[.d (.v (.int .i64 r.2.1))]),(false,[.fm (EM Try.prog 52 (cvK r.2.2.1))])]) [[.d (.sl 11 (List.map Jb a9)),.d (.v (.int .i64 r.2.2.2.1)),.d (.v (.int .i64 r.2.2.2.2.1)),.d (.v (.int .i64 r.2.2.2.2.2.1)),.d (.v (.int .i64 r.2.2.2.2.2.2))]] [26]⟩
def Jad:GI→Prop:=fun g=>∃ (a0:EB) (a1:Int) (a2:Int) (a3:Int) (a4:List Node) (a5:Int) (a6:Int) (a7:List Node) (a8:Bool) (a9:List Token) (a10:Int) (a11:Int) (a12:Int) (a13:Int) (r:((List Node)×Int×EB×Int×Int×Int×Int)),Jcy a0 a1 a2 a3 a4 a5 a6 a7 a8 a9 a10 a11 a12 a13=some r∧g=Jab a0 a1 a2 a3 a4 a5 a6 a7 a8 a9 a10 a11 a12 a13 r
theorem Jgs(a0:EB)(a1:Int)(a2:Int)(a3:Int)(a4:List Node)(a5:Int)(a6:Int)(a7:List Node)(a8:Bool)(a9:List Token)(a10:Int)(a11:Int)(a12:Int)(a13:Int)(r:((List Node)×Int×EB×Int×Int×Int×Int))(H:Jcy a0 a1 a2 a3 a4 a5 a6 a7 a8 a9 a10 a11 a12 a13=some r):Jad (Jab a0 a1 a2 a3 a4 a5 a6 a7 a8 a9 a10 a11 a12 a13 r):=⟨a0,a1,a2,a3,a4,a5,a6,a7,a8,a9,a10,a11,a12,a13,r,H,rfl⟩
theorem JjW:∀ g,Jad g→Jx Try.prog 35 g:=by
 rintro _ ⟨a0,a1,a2,a3,a4,a5,a6,a7,a8,a9,a10,a11,a12,a13,r,H,rfl⟩
 refine xGnl mixed [9] [] [(36,true,Vq),(16,true,KH),(31,true,Ka),(34,true,Vo),(59,true,Jbl)] [] trivial ⟨Xh,KJ,Kw,Jae,Jbm,trivial⟩ trivial Try.func35 _ ?_
 have G:=True.intro
 have Y:=xZ y_24 <| xZ y_26 <| xZ Try.results35 <| xZ J2.eq_1 <| xZ Jb.eq_1 <| xZ Vu <| xZ JW.eq_1 <| xZ Vs.eq_1 <| xZ KI.eq_1 <| xZ Kb.eq_1 <| xZ Vl.eq_1 <| xZ Vm.eq_1 <| Jab.eq_1
 dsimp only[Jab]
 simp only[Jcy]at H
 refine xS ?_
 refine xr0 ?_
 refine Jq ?_
 refine JB (ZL a9) (fun s=>[(0,.c (.pt 1 0)),(1,.c (.fm (EM Try.prog 52 (cvK s.1)))),(2,.c (.d (.v (.int .i64 s.2.1)))),(9,.c (.pt 2 0)),(12,.c (.pt 3 0))]) (fun s=>[[.d (.sl 11 (List.map Jb a9)),.d (.v (.int .i64 s.2.2.1)),.d (.v (.int .i64 s.2.2.2.1)),.d (.v (.int .i64 s.2.2.2.2.1)),.d (.v (.int .i64 s.2.2.2.2.2.1))],[.d (.v (.int .i64 a2)),.d (.v (.int .i64 a3)),.sl 3 (List.map Jp s.2.2.2.2.2.2) 4],[.d (.v (.int .i64 0)),.d (.v (.int .i64 0)),.sl 3 [] 0]]) [26] r ?_ ?_
 ·refine xS ?_
  refine Ke (JaU a8 a9) (fun s=>[(0,.c (.pt 1 0)),(1,.c (.fm (EM Try.prog 52 (cvK s.1)))),(2,.c (.d (.v (.int .i64 s.2.1)))),(5,.c (.d (.v (.bool a8)))),(9,.c (.pt 2 0)),(10,.c (.pt 3 0)),(12,.c (.pt 4 0))]) (fun s=>[[.d (.sl 11 (List.map Jb a9)),.d (.v (.int .i64 s.2.2.1)),.d (.v (.int .i64 s.2.2.2.1)),.d (.v (.int .i64 s.2.2.2.2.1)),.d (.v (.int .i64 s.2.2.2.2.2.1))],[.d (.v (.int .i64 a2)),.d (.v (.int .i64 a3)),.sl 3 (List.map Jp s.2.2.2.2.2.2.1) 5],[.d (.v (.int .i64 s.2.2.2.2.2.2.2.1)),.d (.v (.int .i64 s.2.2.2.2.2.2.2.2.1)),.sl 3 (List.map Jp s.2.2.2.2.2.2.2.2.2) 6],[.d (.v (.int .i64 0)),.d (.v (.int .i64 0)),.sl 3 [] 0]]) [26,26] H (xK ⟨[1,4,5,6],[2,3]⟩) ?_
  rintro n1 ⟨x8,x9,x10,x11,x12,x13,x14,x15,x16,x17⟩ o1 H hF1
  rw[JaU]at H
  refine xS ?_
  obtain⟨r2,hr2,H⟩:=Jg H
  have F:=Y
  refine xQ ?_
  refine xs 1 ?_
  refine xc ⟨[1],[]⟩ (tabG 1 (JG a9 x10 x11 x12 x13 r2 hr2)) ?_
  refine xl ?_
  refine xS ?_
  rcases Jc H with⟨hp1,H⟩|⟨hp1,H⟩
  ·obtain⟨F,G,hq1⟩:=xH Y G hp1
   refine xT0 ?_
   refine Jbu ?_
   refine Jq ?_
   refine Jge ?_
   refine JB (Zz a8 a9 x8 x14 x15 x16) (fun s=>[(0,.c (.pt 1 0)),(1,.c (.fm (EM Try.prog 52 (cvK x8)))),(2,.c (.d (.v (.int .i64 s.1)))),(5,.c (.d (.v (.bool a8)))),(9,.c (.pt 2 0)),(10,.c (.pt 3 0)),(12,.c (.pt 4 0))]) (fun s=>[[.d (.sl 11 (List.map Jb a9)),.d (.v (.int .i64 s.2.1)),.d (.v (.int .i64 s.2.2.1)),.d (.v (.int .i64 s.2.2.2.1)),.d (.v (.int .i64 s.2.2.2.2.1))],[.d (.v (.int .i64 a2)),.d (.v (.int .i64 a3)),.sl 3 (List.map Jp x14) 5],[.d (.v (.int .i64 x15)),.d (.v (.int .i64 x16)),.sl 3 (List.map Jp s.2.2.2.2.2) 6],[.d (.v (.int .i64 0)),.d (.v (.int .i64 0)),.sl 3 [] 0]]) [26,26] o1 ?_ ?_
   ·refine JB (ZE a8 a9 x8 x9 x10 x11 x12 x13 x14 x15 x16 x17) (fun s=>[(0,.c (.pt 1 0)),(1,.c (.fm (EM Try.prog 52 (cvK x8)))),(2,.c (.d (.v (.int .i64 x9)))),(5,.c (.d (.v (.bool a8)))),(9,.c (.pt 2 0)),(10,.c (.pt 3 0)),(12,.c (.pt 4 0)),(26,.c (.d (.v (.bool s))))]) (fun s=>[[.d (.sl 11 (List.map Jb a9)),.d (.v (.int .i64 x10)),.d (.v (.int .i64 x11)),.d (.v (.int .i64 x12)),.d (.v (.int .i64 x13))],[.d (.v (.int .i64 a2)),.d (.v (.int .i64 a3)),.sl 3 (List.map Jp x14) 5],[.d (.v (.int .i64 x15)),.d (.v (.int .i64 x16)),.sl 3 (List.map Jp x17) 6],[.d (.v (.int .i64 0)),.d (.v (.int .i64 0)),.sl 3 [] 0]]) [26,26] o1 ?_ ?_
    ·rcases Jc H with⟨hp4,H⟩|⟨hp4,H⟩
     ·obtain⟨F,G,hq4⟩:=xH Y G hp4
      obtain⟨r6,hr6,H⟩:=Jg H
      have F:=F
      refine xQ ?_
      refine xs 5 ?_
      refine xc ⟨[1],[]⟩ (tabG 2 (JE x9 a9 x10 x11 x12 x13 r6 hr6)) ?_
      refine xs 2 ?_
      refine xl ?_
      refine xS ?_
      exact Jf H (xK ⟨[1,2,3,4],[5,6]⟩)
     ·obtain⟨F,G,hq4⟩:=xH Y G hp4
      refine xR ?_
      exact Jf H (xK ⟨[1,2,3,4],[5,6]⟩)
    ·rintro x24 H
     rw[ZE]at H
     rcases Jc H with⟨hp3,H⟩|⟨hp3,H⟩
     ·obtain⟨F,G,hq3⟩:=xH Y G hp3
      refine xT ?_
      obtain⟨r5,hr5,H⟩:=Jg H
      have F:=Y
      refine xQ ?_
      refine xs 4 ?_
      refine xc ⟨[1],[]⟩ (tabG 4 (Jbs x8 (IntKind.i64.wrap (x9+1)) 1 a9 x10 x11 x12 x13 r5 hr5)) ?_
      refine xs 6 ?_
      refine xl ?_
      refine xS ?_
      obtain⟨hg2,H⟩:=Jj H
      have F:=xZ Y (XL JaC [(⟨r5.1,r5.2.1,r5.2.2.1⟩:Node)])
      refine xR ?_
      refine xr ?_
      exact Jf H (xK ⟨[1,2,3,4],[5,10]⟩)
     ·obtain⟨F,G,hq3⟩:=xH Y G hp3
      refine xE ?_
      exact Jf H (xK ⟨[1,2,3,4],[5,6]⟩)
   ·rintro ⟨x18,x19,x20,x21,x22,x23⟩ H
    rw[Zz]at H
    refine xS ?_
    obtain⟨hg1,H⟩:=Jj H
    have F:=xZ Y (XL JaC [(⟨x15,x16,x23⟩:Node)])
    refine xR ?_
    obtain⟨r3,hr3,H⟩:=Jg H
    have F:=Y
    refine xQ ?_
    refine xs 2 ?_
    refine xc ⟨[1],[]⟩ (tabG 2 (JE x18 a9 x19 x20 x21 x22 r3 hr3)) ?_
    refine xs 1 ?_
    refine xl ?_
    refine xS ?_
    rcases Jc H with⟨hp2,H⟩|⟨hp2,H⟩
    ·obtain⟨F,G,hq2⟩:=xH Y G hp2
     replace H:=Js H hF1
     refine xT ?_
     exact Jf H (xK ⟨[1,2,4],[7]⟩)
    ·obtain⟨F,G,hq2⟩:=xH Y G hp2
     refine xE ?_
     obtain⟨r4,hr4,H⟩:=Jg H
     have F:=Y
     refine xQ ?_
     refine xs 5 ?_
     refine xc ⟨[1],[]⟩ (tabG 3 (Jah x8 (IntKind.i64.wrap (x18+1)) a8 a9 x19 x20 x21 x22 r4 hr4)) ?_
     refine xs 7 ?_
     refine xl ?_
     refine xS ?_
     exact JD (JM H hF1) (xK ⟨[1,2,3,4],[7,10]⟩)
  ·obtain⟨F,G,hq1⟩:=xH Y G hp1
   replace H:=Js H hF1
   refine xE ?_
   exact Jf H (xK ⟨[1,2,4],[5]⟩)
 ·rintro ⟨x1,x2,x3,x4,x5,x6,x7⟩ H
  rw[ZL]at H
  refine xS ?_
  obtain⟨r1,hr1,H⟩:=Jg H
  have F:=Y
  refine xP [0,1,2,4,3,5,6,7] [62,888888] ⟨Xh,KJ,Kw,Jae,Jbm,trivial⟩ ?_
  refine xaX ?_
  refine xsX 3 ?_
  refine xcX ⟨[1],[]⟩ (tabG 0 (KX x2 [59] a9 x3 x4 x5 x6 r1 hr1)) ?_
  refine xsX 3 ?_
  refine xlX ?_
  replace H:=Option.some.inj H
  refine xS ?_
  subst H
  refine xrD [] ?_
  exact xO ⟨[1],[4]⟩
theorem Jgq:Jh Try.prog 35∧(∀ g,Jad g→Jx Try.prog 35 g)∧(true=true→∀ g,Jad g→∃ val bs ts,g.out=.ret val bs ts) :=
 ⟨Jxk,JjW,fun _=>by rintro _ ⟨_,_,_,_,_,_,_,_,_,_,_,_,_,_,_,_,rfl⟩; exact⟨_,_,_,rfl⟩⟩
noncomputable def ZH(a0:EB)(a2:List Token)(a3:Int)(a4:Int)(a5:Int)(a6:Int):(Int×Bool)→Option (Int×Int×(List Node)×Int×EB×Int×Int×Int×Int)
 | (x1,x2)=>(Xr a0 x1 a2 a3 a4 a5 a6).bind fun r2=>(JT a2 r2.2.1 r2.2.2.1 r2.2.2.2 a6).bind fun r3=>if(!r3)=true then some (16,x1,([]:List Node),r2.1,a0,r2.2.1,r2.2.2.1,r2.2.2.2,a6) else(KQ a0 r2.1 x2 a2 r2.2.1 r2.2.2.1 r2.2.2.2 a6).bind fun r4=>(Jcy r4.2.2.2.1 r4.2.2.1 2 (-1) [(⟨16,x1,([]:List Node)⟩:Node)] 4 r4.1 r4.2.1 x2 a2 r4.2.2.2.2.1 r4.2.2.2.2.2.1 r4.2.2.2.2.2.2.1 r4.2.2.2.2.2.2.2).bind fun r5=>some (2,(-1),r5.1,r5.2.1,r5.2.2.1,r5.2.2.2.1,r5.2.2.2.2.1,r5.2.2.2.2.2.1,r5.2.2.2.2.2.2)
noncomputable def ZV(a0:EB)(a1:Int)(a2:List Token)(a3:Int)(a4:Int)(a5:Int)(a6:Int):Option (Int×Int×(List Node)×Int×EB×Int×Int×Int×Int) :=
 (JA a1 a2 a3 a4 a5 a6).bind fun r1=>if(eqS r1 [116,121,112,101,100,101,102])=true then ZH a0 a2 a3 a4 a5 a6 (IntKind.i64.wrap (a1+1),true) else ZH a0 a2 a3 a4 a5 a6 (a1,false)
noncomputable def ZW(a0:EB)(a1:Int)(a2:List Token)(a3:Int)(a4:Int)(a5:Int)(a6:Int)(r:(Int×Int×(List Node)×Int×EB×Int×Int×Int×Int)):GI :=
 ⟨[.c (.pt 1 0),.c (.fm (EM Try.prog 52 (cvK a0))),.c (.d (.v (.int .i64 a1)))],[[.d (.sl 11 (List.map Jb a2)),.d (.v (.int .i64 a3)),.d (.v (.int .i64 a4)),.d (.v (.int .i64 a5)),.d (.v (.int .i64 a6))]],[],.ret (.tu [(true,[.d (.v (.int .i64 r.1)),.d (.v (.int .i64 r.2.1)),.sl 3 (List.map Jp r.2.2.1) 2]),(false,[.d (.v (.int .i64 r.2.2.2.1))]),(false,[.fm (EM Try.prog 52 (cvK r.2.2.2.2.1))])]) [[.d (.sl 11 (List.map Jb a2)),.d (.v (.int .i64 r.2.2.2.2.2.1)),.d (.v (.int .i64 r.2.2.2.2.2.2.1)),.d (.v (.int .i64 r.2.2.2.2.2.2.2.1)),.d (.v (.int .i64 r.2.2.2.2.2.2.2.2))]] [26]⟩
def Z1:GI→Prop:=fun g=>∃ (a0:EB) (a1:Int) (a2:List Token) (a3:Int) (a4:Int) (a5:Int) (a6:Int) (r:(Int×Int×(List Node)×Int×EB×Int×Int×Int×Int)),ZV a0 a1 a2 a3 a4 a5 a6=some r∧g=ZW a0 a1 a2 a3 a4 a5 a6 r
theorem Jgw(a0:EB)(a1:Int)(a2:List Token)(a3:Int)(a4:Int)(a5:Int)(a6:Int)(r:(Int×Int×(List Node)×Int×EB×Int×Int×Int×Int))(H:ZV a0 a1 a2 a3 a4 a5 a6=some r):Z1 (ZW a0 a1 a2 a3 a4 a5 a6 r):=⟨a0,a1,a2,a3,a4,a5,a6,r,H,rfl⟩
theorem Jj2:∀ g,Z1 g→Jx Try.prog 32 g:=by
 rintro _ ⟨a0,a1,a2,a3,a4,a5,a6,r,H,rfl⟩
 refine xGn mixed [] [(31,true,Ka),(33,true,Z4),(16,true,KH),(34,true,Vo),(35,true,Jad)] [] trivial ⟨Kw,Jgv,KJ,Jae,Jgq,trivial⟩ trivial Try.func32 _ ?_
 have G:=True.intro
 have Y:=xZ y_3 <| xZ y_24 <| xZ y_26 <| xZ Try.results32 <| xZ J2.eq_1 <| xZ Jb.eq_1 <| xZ Vu <| xZ JW.eq_1 <| xZ Kb.eq_1 <| xZ Z2.eq_1 <| xZ KI.eq_1 <| xZ Vl.eq_1 <| xZ Jab.eq_1 <| ZW.eq_1
 dsimp only[ZW]
 simp only[ZV]at H
 refine xS ?_
 refine xr ?_
 obtain⟨r1,hr1,H⟩:=Jg H
 have F:=Y
 refine xQ ?_
 refine xs 2 ?_
 refine xc ⟨[1],[]⟩ (tabG 0 (JE a1 a2 a3 a4 a5 a6 r1 hr1)) ?_
 refine xs 2 ?_
 refine xl ?_
 refine  ?_
 refine Jq ?_
 refine JB (ZH a0 a2 a3 a4 a5 a6) (fun s=>[(0,.c (.pt 1 0)),(1,.c (.fm (EM Try.prog 52 (cvK a0)))),(2,.c (.d (.v (.int .i64 s.1)))),(6,.c (.pt 2 0)),(9,.c (.d (.v (.bool s.2))))]) (fun s=>[[.d (.sl 11 (List.map Jb a2)),.d (.v (.int .i64 a3)),.d (.v (.int .i64 a4)),.d (.v (.int .i64 a5)),.d (.v (.int .i64 a6))],[.d (.v (.int .i64 0)),.d (.v (.int .i64 0)),.sl 3 [] 0]]) [] r ?_ ?_
 ·refine xS ?_
  refine xr ?_
  rcases Jc H with⟨hp2,H⟩|⟨hp2,H⟩
  ·obtain⟨F,G,hq2⟩:=xH Y G hp2
   refine xT ?_
   refine xr ?_
   exact Jf H (xK ⟨[1,2],[]⟩)
  ·obtain⟨F,G,hq2⟩:=xH Y G hp2
   refine xE ?_
   exact Jf H (xK ⟨[1,2],[]⟩)
 ·rintro ⟨x1,x2⟩ H
  rw[ZH]at H
  refine xS ?_
  obtain⟨r2,hr2,H⟩:=Jg H
  have F:=Y
  refine xQ ?_
  refine xs 3 ?_
  refine xc ⟨[1],[]⟩ (tabG 1 (Jet a0 x1 a2 a3 a4 a5 a6 r2 hr2)) ?_
  refine xs 6 ?_
  refine xl ?_
  refine xS ?_
  obtain⟨r3,hr3,H⟩:=Jg H
  have F:=Y
  refine xQ ?_
  refine xs 1 ?_
  refine xc ⟨[1],[]⟩ (tabG 2 (JG a2 r2.2.1 r2.2.2.1 r2.2.2.2 a6 r3 hr3)) ?_
  refine xs 1 ?_
  refine xl ?_
  refine xS ?_
  rcases Jc H with⟨hp1,H⟩|⟨hp1,H⟩
  ·obtain⟨F,G,hq1⟩:=xH Y G hp1
   refine xT ?_
   replace H:=Option.some.inj H
   refine xr ?_
   subst H
   refine xrD [] ?_
   exact xO ⟨[1],[0]⟩
  ·obtain⟨F,G,hq1⟩:=xH Y G hp1
   refine xE ?_
   obtain⟨r4,hr4,H⟩:=Jg H
   have F:=Y
   refine xQ ?_
   refine xs 4 ?_
   refine xc ⟨[1],[]⟩ (tabG 3 (Jah a0 r2.1 x2 a2 r2.2.1 r2.2.2.1 r2.2.2.2 a6 r4 hr4)) ?_
   refine xs 8 ?_
   refine xl ?_
   refine xS ?_
   obtain⟨r5,hr5,H⟩:=Jg H
   have F:=Y
   refine xQ ?_
   refine xs 8 ?_
   refine xc ⟨[1],[0,7]⟩ (tabG 4 (Jgs r4.2.2.2.1 r4.2.2.1 2 (-1) [(⟨16,x1,([]:List Node)⟩:Node)] 4 r4.1 r4.2.1 x2 a2 r4.2.2.2.2.1 r4.2.2.2.2.2.1 r4.2.2.2.2.2.2.1 r4.2.2.2.2.2.2.2 r5 hr5)) ?_
   refine xs 6 ?_
   refine xl ?_
   replace H:=Option.some.inj H
   refine xS ?_
   subst H
   refine xrD [] ?_
   exact xO ⟨[1],[10]⟩
theorem Jgx:Jh Try.prog 32∧(∀ g,Z1 g→Jx Try.prog 32 g)∧(true=true→∀ g,Z1 g→∃ val bs ts,g.out=.ret val bs ts) :=
 ⟨Jxn,Jj2,fun _=>by rintro _ ⟨_,_,_,_,_,_,_,_,_,rfl⟩; exact⟨_,_,_,rfl⟩⟩
noncomputable def XD(a0:EB)(a1:Int)(a2:List Token)(a3:Int)(a4:Int)(a5:Int)(a6:Int)(r:((List Node)×Int×Int×Int×Int×Int)):GI :=
 ⟨[.c (.pt 1 0),.c (.fm (EM Try.prog 52 (cvK a0))),.c (.d (.v (.int .i64 a1)))],[[.d (.sl 11 (List.map Jb a2)),.d (.v (.int .i64 a3)),.d (.v (.int .i64 a4)),.d (.v (.int .i64 a5)),.d (.v (.int .i64 a6))]],[],.ret (.tu [(true,[.d (.v (.int .i64 5)),.d (.v (.int .i64 (-1))),.sl 3 (List.map Jp r.1) 2]),(false,[.d (.v (.int .i64 r.2.1))])]) [[.d (.sl 11 (List.map Jb a2)),.d (.v (.int .i64 r.2.2.1)),.d (.v (.int .i64 r.2.2.2.1)),.d (.v (.int .i64 r.2.2.2.2.1)),.d (.v (.int .i64 r.2.2.2.2.2))]] [26]⟩
def Xb(q:EB→Int→(List Token)→Int→Int→Int→Int→Option ((List Node)×Int×Int×Int×Int×Int)):GI→Prop:=fun g=>∃ (a0:EB) (a1:Int) (a2:List Token) (a3:Int) (a4:Int) (a5:Int) (a6:Int) (r:((List Node)×Int×Int×Int×Int×Int)),q a0 a1 a2 a3 a4 a5 a6=some r∧g=XD a0 a1 a2 a3 a4 a5 a6 r
theorem JfB(q:EB→Int→(List Token)→Int→Int→Int→Int→Option ((List Node)×Int×Int×Int×Int×Int))(a0:EB)(a1:Int)(a2:List Token)(a3:Int)(a4:Int)(a5:Int)(a6:Int)(r:((List Node)×Int×Int×Int×Int×Int))(H:q a0 a1 a2 a3 a4 a5 a6=some r):Xb q (XD a0 a1 a2 a3 a4 a5 a6 r):=⟨a0,a1,a2,a3,a4,a5,a6,r,H,rfl⟩
noncomputable def Z3(a0:EB)(a1:Int)(a2:List Token)(a3:Int)(a4:Int)(a5:Int)(a6:Int)(r:(Int×Int×(List Node)×Int×EB×Int×Int×Int×Int)):GI :=
 ⟨[.c (.pt 1 0),.c (.fm (EM Try.prog 52 (cvK a0))),.c (.d (.v (.int .i64 a1)))],[[.d (.sl 11 (List.map Jb a2)),.d (.v (.int .i64 a3)),.d (.v (.int .i64 a4)),.d (.v (.int .i64 a5)),.d (.v (.int .i64 a6))]],[],.ret (.tu [(true,[.d (.v (.int .i64 r.1)),.d (.v (.int .i64 r.2.1)),.sl 3 (List.map Jp r.2.2.1) 2]),(false,[.d (.v (.int .i64 r.2.2.2.1))]),(false,[.fm (EM Try.prog 52 (cvK r.2.2.2.2.1))])]) [[.d (.sl 11 (List.map Jb a2)),.d (.v (.int .i64 r.2.2.2.2.2.1)),.d (.v (.int .i64 r.2.2.2.2.2.2.1)),.d (.v (.int .i64 r.2.2.2.2.2.2.2.1)),.d (.v (.int .i64 r.2.2.2.2.2.2.2.2))]] [26]⟩
def XG(q:EB→Int→(List Token)→Int→Int→Int→Int→Option (Int×Int×(List Node)×Int×EB×Int×Int×Int×Int)):GI→Prop:=fun g=>∃ (a0:EB) (a1:Int) (a2:List Token) (a3:Int) (a4:Int) (a5:Int) (a6:Int) (r:(Int×Int×(List Node)×Int×EB×Int×Int×Int×Int)),q a0 a1 a2 a3 a4 a5 a6=some r∧g=Z3 a0 a1 a2 a3 a4 a5 a6 r
theorem Jf0(q:EB→Int→(List Token)→Int→Int→Int→Int→Option (Int×Int×(List Node)×Int×EB×Int×Int×Int×Int))(a0:EB)(a1:Int)(a2:List Token)(a3:Int)(a4:Int)(a5:Int)(a6:Int)(r:(Int×Int×(List Node)×Int×EB×Int×Int×Int×Int))(H:q a0 a1 a2 a3 a4 a5 a6=some r):XG q (Z3 a0 a1 a2 a3 a4 a5 a6 r):=⟨a0,a1,a2,a3,a4,a5,a6,r,H,rfl⟩
noncomputable def Xn:(Int×Int×Int×Int×Int×(List Node))→Option ((List Node)×Int×Int×Int×Int×Int)
 | (x1,x2,x3,x4,x5,x6)=>some (x6,IntKind.i64.wrap (x1+1),x2,x3,x4,IntKind.i64.wrap (x5-1))
noncomputable def X6(q2:EB→Int→(List Token)→Int→Int→Int→Int→Option (Int×Int×(List Node)×Int×EB×Int×Int×Int×Int))(a2:List Token)(x7:EB)(x8:Int)(x9:Int)(x10:Int)(x11:Int)(x12:Int)(x13:List Node):Bool→Option ((EB×Int×Int×Int×Int×Int×(List Node)) ⊕ ((List Node)×Int×Int×Int×Int×Int))
 | x14=>if x14=true then if(leI (a2.length:Int) x8)=true then(VD x8 9 a2 x9 x10 x11 x12).bind fun r3=>inrO (Xn (x8,r3.1,r3.2.1,r3.2.2,x12,x13)) else(q2 x7 x8 a2 x9 x10 x11 x12).bind fun r4=>if(x13.length + [(⟨r4.1,r4.2.1,r4.2.2.1⟩:Node)].length) * 40≤140737488355328 then some (.inl (r4.2.2.2.2.1,r4.2.2.2.1,r4.2.2.2.2.2.1,r4.2.2.2.2.2.2.1,r4.2.2.2.2.2.2.2.1,r4.2.2.2.2.2.2.2.2,x13++[(⟨r4.1,r4.2.1,r4.2.2.1⟩:Node)])) else none else inrO (Xn (x8,x9,x10,x11,x12,x13))
noncomputable def Jaq(q2:EB→Int→(List Token)→Int→Int→Int→Int→Option (Int×Int×(List Node)×Int×EB×Int×Int×Int×Int))(a2:List Token):(EB×Int×Int×Int×Int×Int×(List Node))→Option ((EB×Int×Int×Int×Int×Int×(List Node)) ⊕ ((List Node)×Int×Int×Int×Int×Int))
 | (x7,x8,x9,x10,x11,x12,x13)=>(JT a2 x9 x10 x11 x12).bind fun r5=>if r5=true then(JA x8 a2 x9 x10 x11 x12).bind fun r6=>X6 q2 a2 x7 x8 x9 x10 x11 x12 x13 (!eqS r6 [125]) else X6 q2 a2 x7 x8 x9 x10 x11 x12 x13 false
noncomputable def JaN(q1:EB→Int→(List Token)→Int→Int→Int→Int→Option ((List Node)×Int×Int×Int×Int×Int))(q2:EB→Int→(List Token)→Int→Int→Int→Int→Option (Int×Int×(List Node)×Int×EB×Int×Int×Int×Int))(a0:EB)(a1:Int)(a2:List Token)(a3:Int)(a4:Int)(a5:Int)(a6:Int):Option ((List Node)×Int×Int×Int×Int×Int) :=
 (KV a1 a2 a3 a4 a5 a6).bind fun r1=>if(!r1.1)=true then some (([]:List Node),a1,r1.2.1,r1.2.2.1,r1.2.2.2.1,r1.2.2.2.2) else(JS a1 [123] a2 r1.2.1 r1.2.2.1 r1.2.2.2.1 r1.2.2.2.2).bind fun r2=>Jt (Jaq q2 a2) (a0,r2.1,r2.2.1,r2.2.2.1,r2.2.2.2,r1.2.2.2.2,([]:List Node))
theorem Jil(q1:EB→Int→(List Token)→Int→Int→Int→Int→Option ((List Node)×Int×Int×Int×Int×Int))(q2:EB→Int→(List Token)→Int→Int→Int→Int→Option (Int×Int×(List Node)×Int×EB×Int×Int×Int×Int))(kq1:Kok Try.prog 37 true (Xb q1))(kq2:Kok Try.prog 62 true (XG q2)):∀ g,Xb (JaN q1 q2) g→Jx Try.prog 37 g:=by
 rintro _ ⟨a0,a1,a2,a3,a4,a5,a6,r,H,rfl⟩
 refine xGn mixed [] [(61,true,V3),(36,true,Vq),(57,true,Vp),(62,true,(XG q2)),(16,true,KH),(31,true,Ka)] [] trivial ⟨Jcn,Xh,ZY,kq2,KJ,Kw,trivial⟩ trivial Try.func37 _ ?_
 have G:=True.intro
 have Y:=xZ y_3 <| xZ y_22 <| xZ y_24 <| xZ y_26 <| xZ y_44 <| xZ y_50 <| xZ Try.results37 <| xZ J2.eq_1 <| xZ Jb.eq_1 <| xZ Vu <| xZ JW.eq_1 <| xZ V1.eq_1 <| xZ Vs.eq_1 <| xZ Vr.eq_1 <| xZ Z3.eq_1 <| xZ KI.eq_1 <| xZ Kb.eq_1 <| XD.eq_1
 dsimp only[XD]
 simp only[JaN]at H
 refine xS ?_
 refine xr ?_
 refine xr ?_
 obtain⟨r1,hr1,H⟩:=Jg H
 have F:=Y
 refine xQ ?_
 refine xs 2 ?_
 refine xc ⟨[1],[]⟩ (tabG 0 (Jcj a1 a2 a3 a4 a5 a6 r1 hr1)) ?_
 refine xs 1 ?_
 refine xl ?_
 refine xS ?_
 rcases Jc H with⟨hp1,H⟩|⟨hp1,H⟩
 ·obtain⟨F,G,hq1⟩:=xH Y G hp1
  refine xT ?_
  replace H:=Option.some.inj H
  refine xr ?_
  subst H
  refine xrD [] ?_
  exact xO ⟨[1],[0]⟩
 ·obtain⟨F,G,hq1⟩:=xH Y G hp1
  refine xE ?_
  obtain⟨r2,hr2,H⟩:=Jg H
  have F:=Y
  refine xQ ?_
  refine xs 2 ?_
  refine xc ⟨[1],[]⟩ (tabG 1 (KX a1 [123] a2 r1.2.1 r1.2.2.1 r1.2.2.2.1 r1.2.2.2.2 r2 hr2)) ?_
  refine xs 1 ?_
  refine xl ?_
  refine  ?_
  refine Jq ?_
  refine JB Xn (fun s=>[(0,.c (.pt 1 0)),(2,.c (.d (.v (.int .i64 s.1)))),(6,.c (.pt 2 0)),(8,.c (.pt 3 0))]) (fun s=>[[.d (.sl 11 (List.map Jb a2)),.d (.v (.int .i64 s.2.1)),.d (.v (.int .i64 s.2.2.1)),.d (.v (.int .i64 s.2.2.2.1)),.d (.v (.int .i64 s.2.2.2.2.1))],[.d (.v (.int .i64 0)),.d (.v (.int .i64 0)),.sl 3 [] 0],[.d (.v (.int .i64 5)),.d (.v (.int .i64 (-1))),.sl 3 (List.map Jp s.2.2.2.2.2) 4]]) [26] r ?_ ?_
  ·refine xS ?_
   refine Ke (Jaq q2 a2) (fun s=>[(0,.c (.pt 1 0)),(1,.c (.fm (EM Try.prog 52 (cvK s.1)))),(2,.c (.d (.v (.int .i64 s.2.1)))),(6,.c (.pt 2 0)),(8,.c (.pt 3 0))]) (fun s=>[[.d (.sl 11 (List.map Jb a2)),.d (.v (.int .i64 s.2.2.1)),.d (.v (.int .i64 s.2.2.2.1)),.d (.v (.int .i64 s.2.2.2.2.1)),.d (.v (.int .i64 s.2.2.2.2.2.1))],[.d (.v (.int .i64 0)),.d (.v (.int .i64 0)),.sl 3 [] 0],[.d (.v (.int .i64 5)),.d (.v (.int .i64 (-1))),.sl 3 (List.map Jp s.2.2.2.2.2.2) 4]]) [26] H (xK ⟨[1,2,3],[0]⟩) ?_
   rintro n1 ⟨x7,x8,x9,x10,x11,x12,x13⟩ o1 H hF1
   rw[Jaq]at H
   refine Zn ?_
   refine JB (X6 q2 a2 x7 x8 x9 x10 x11 x12 x13) (fun s=>[(0,.c (.pt 1 0)),(1,.c (.fm (EM Try.prog 52 (cvK x7)))),(2,.c (.d (.v (.int .i64 x8)))),(6,.c (.pt 2 0)),(8,.c (.pt 3 0)),(29,.c (.d (.v (.bool s))))]) (fun s=>[[.d (.sl 11 (List.map Jb a2)),.d (.v (.int .i64 x9)),.d (.v (.int .i64 x10)),.d (.v (.int .i64 x11)),.d (.v (.int .i64 x12))],[.d (.v (.int .i64 0)),.d (.v (.int .i64 0)),.sl 3 [] 0],[.d (.v (.int .i64 5)),.d (.v (.int .i64 (-1))),.sl 3 (List.map Jp x13) 4]]) [26] o1 ?_ ?_
   ·obtain⟨r5,hr5,H⟩:=Jg H
    have F:=Y
    rcases Jc H with⟨hp4,H⟩|⟨hp4,H⟩
    ·obtain⟨F,G,hq4⟩:=xH F G hp4
     obtain⟨r6,hr6,H⟩:=Jg H
     have F:=F
     refine xQ ?_
     refine xs 1 ?_
     refine xc ⟨[1],[]⟩ (tabG 4 (JG a2 x9 x10 x11 x12 r5 hr5)) ?_
     refine xs 3 ?_
     refine xc ⟨[1],[]⟩ (tabG 5 (JE x8 a2 x9 x10 x11 x12 r6 hr6)) ?_
     refine xs 2 ?_
     refine xl ?_
     refine xS ?_
     exact Jf H (xK ⟨[1,2,3],[4]⟩)
    ·obtain⟨F,G,hq4⟩:=xH F G hp4
     refine xQ ?_
     refine xs 1 ?_
     refine xc ⟨[1],[]⟩ (tabG 4 (JG a2 x9 x10 x11 x12 r5 hr5)) ?_
     refine xs 6 ?_
     refine xl ?_
     refine xS ?_
     exact Jf H (xK ⟨[1,2,3],[4]⟩)
   ·rintro x14 H
    rw[X6]at H
    rcases Jc H with⟨hp2,H⟩|⟨hp2,H⟩
    ·obtain⟨F,G,hq2⟩:=xH Y G hp2
     refine xT ?_
     refine xr ?_
     rcases Jc H with⟨hp3,H⟩|⟨hp3,H⟩
     ·obtain⟨F,G,hq3⟩:=xH Y G hp3
      refine xT ?_
      obtain⟨r3,hr3,H⟩:=Jg H
      have F:=Y
      refine xQ ?_
      refine xs 2 ?_
      refine xc ⟨[1],[]⟩ (tabG 2 (Z6 x8 9 a2 x9 x10 x11 x12 r3 hr3)) ?_
      refine xl ?_
      replace H:=Js H hF1
      refine xS ?_
      exact Jf H (xK ⟨[1,2,3],[4]⟩)
     ·obtain⟨F,G,hq3⟩:=xH Y G hp3
      refine xE ?_
      obtain⟨r4,hr4,H⟩:=Jg H
      have F:=Y
      refine xQ ?_
      refine xs 3 ?_
      refine xc ⟨[1],[]⟩ (tabG 3 (Jf0 q2 x7 x8 a2 x9 x10 x11 x12 r4 hr4)) ?_
      refine xs 8 ?_
      refine xl ?_
      refine xS ?_
      obtain⟨hg1,H⟩:=Jj H
      have F:=xZ Y (XL JaC [(⟨r4.1,r4.2.1,r4.2.2.1⟩:Node)])
      refine xR ?_
      refine xr ?_
      exact JD (JM H hF1) (xK ⟨[1,2,3],[8]⟩)
    ·obtain⟨F,G,hq2⟩:=xH Y G hp2
     replace H:=Js H hF1
     refine xE ?_
     exact Jf H (xK ⟨[1,2,3],[4]⟩)
  ·rintro ⟨x1,x2,x3,x4,x5,x6⟩ H
   rw[Xn]at H
   refine xS ?_
   refine xr ?_
   replace H:=Option.some.inj H
   refine xr ?_
   subst H
   refine xrD [] ?_
   exact xO ⟨[1],[4]⟩
noncomputable def Kj:(EB×Int×Int×Int×Int×Int×Int×Int×(List Node))→Option (Int×Int×(List Node)×Int×EB×Int×Int×Int×Int)
 | (x1,x2,x3,x4,x5,x6,x7,x8,x9)=>some (x7,x8,x9,x2,x1,x3,x4,x5,IntKind.i64.wrap (x6-1))
noncomputable def V0(a0:EB)(x16:Int)(x17:Int)(r8:(Int×Int×(List Node)×Int×EB×Int×Int×Int×Int)):(Bool×(List Node))→Option ((Int×Int×Int×Int×Int×Int×Int×(List Node)) ⊕ (Int×Int×(List Node)×Int×EB×Int×Int×Int×Int))
 | (x19,x20)=>if x19=true then inrO (Kj (a0,r8.2.2.2.1,r8.2.2.2.2.2.1,r8.2.2.2.2.2.2.1,r8.2.2.2.2.2.2.2.1,r8.2.2.2.2.2.2.2.2,x16,x17,x20)) else some (.inl (IntKind.i64.wrap (r8.2.2.2.1+1),r8.2.2.2.2.2.1,r8.2.2.2.2.2.2.1,r8.2.2.2.2.2.2.2.1,r8.2.2.2.2.2.2.2.2,x16,x17,x20))
noncomputable def ZM(q2:EB→Int→(List Token)→Int→Int→Int→Int→Option (Int×Int×(List Node)×Int×EB×Int×Int×Int×Int))(a0:EB)(a2:List Token)(r2:(List UInt8)):(Int×Int×Int×Int×Int×Int×Int×(List Node))→Option ((Int×Int×Int×Int×Int×Int×Int×(List Node)) ⊕ (Int×Int×(List Node)×Int×EB×Int×Int×Int×Int))
 | (x11,x12,x13,x14,x15,x16,x17,x18)=>(JT a2 x12 x13 x14 x15).bind fun r7=>if r7=true then(q2 a0 x11 a2 x12 x13 x14 x15).bind fun r8=>if(x18.length + [(⟨r8.1,r8.2.1,r8.2.2.1⟩:Node)].length) * 40≤140737488355328 then if(eqS r2 [119,104,105,108,101])=true then V0 a0 x16 x17 r8 (true,x18++[(⟨r8.1,r8.2.1,r8.2.2.1⟩:Node)]) else if(ltI 2 ((x18++[(⟨r8.1,r8.2.1,r8.2.2.1⟩:Node)]).length:Int))=true then V0 a0 x16 x17 r8 (true,x18++[(⟨r8.1,r8.2.1,r8.2.2.1⟩:Node)]) else(JA r8.2.2.2.1 a2 r8.2.2.2.2.2.1 r8.2.2.2.2.2.2.1 r8.2.2.2.2.2.2.2.1 r8.2.2.2.2.2.2.2.2).bind fun r9=>V0 a0 x16 x17 r8 (!eqS r9 [101,108,115,101],x18++[(⟨r8.1,r8.2.1,r8.2.2.1⟩:Node)]) else none else inrO (Kj (a0,x11,x12,x13,x14,x15,x16,x17,x18))
noncomputable def JaO(a0:EB)(a2:List Token):(Int×Int×Int×Int×Int×(List Node))→Option (Int×Int×(List Node)×Int×EB×Int×Int×Int×Int)
 | (x21,x22,x23,x24,x25,x26)=>(JS x21 [59] a2 x22 x23 x24 x25).bind fun r10=>Kj (a0,r10.1,r10.2.1,r10.2.2.1,r10.2.2.2,x25,8,(-1),x26)
noncomputable def JaT(a0:EB)(a2:List Token):(Int×Int×Int×Int×Int×(List Node))→Option (Int×Int×(List Node)×Int×EB×Int×Int×Int×Int)
 | (x28,x29,x30,x31,x32,x33)=>(JS x28 [59] a2 x29 x30 x31 x32).bind fun r14=>Kj (a0,r14.1,r14.2.1,r14.2.2.1,r14.2.2.2,x32,9,(-1),x33)
noncomputable def XB(a0:EB)(a1:Int)(a2:List Token)(r1:(Bool×Int×Int×Int×Int))(r2:(List UInt8)):Bool→Option (Int×Int×(List Node)×Int×EB×Int×Int×Int×Int)
 | x27=>if x27=true then(ZV a0 a1 a2 r1.2.1 r1.2.2.1 r1.2.2.2.1 r1.2.2.2.2).bind fun r13=>Kj (r13.2.2.2.2.1,r13.2.2.2.1,r13.2.2.2.2.2.1,r13.2.2.2.2.2.2.1,r13.2.2.2.2.2.2.2.1,r13.2.2.2.2.2.2.2.2,r13.1,r13.2.1,r13.2.2.1) else if(!eqS r2 [59])=true then(Vd a0 a1 0 a2 r1.2.1 r1.2.2.1 r1.2.2.2.1 r1.2.2.2.2).bind fun r15=>if(([]:List Node).length + [(⟨r15.1,r15.2.1,r15.2.2.1⟩:Node)].length) * 40≤140737488355328 then JaT a0 a2 (r15.2.2.2.1,r15.2.2.2.2.1,r15.2.2.2.2.2.1,r15.2.2.2.2.2.2.1,r15.2.2.2.2.2.2.2,([]:List Node)++[(⟨r15.1,r15.2.1,r15.2.2.1⟩:Node)]) else none else JaT a0 a2 (a1,r1.2.1,r1.2.2.1,r1.2.2.2.1,r1.2.2.2.2,([]:List Node))
noncomputable def XF(q2:EB→Int→(List Token)→Int→Int→Int→Int→Option (Int×Int×(List Node)×Int×EB×Int×Int×Int×Int))(a0:EB)(a1:Int)(a2:List Token)(r1:(Bool×Int×Int×Int×Int))(r2:(List UInt8)):Bool→Option (Int×Int×(List Node)×Int×EB×Int×Int×Int×Int)
 | x10=>if x10=true then if r2.length≤9223372036854775807 then(JS (IntKind.i64.wrap (a1+1)) [40] a2 r1.2.1 r1.2.2.1 r1.2.2.2.1 r1.2.2.2.2).bind fun r4=>(Vd a0 r4.1 0 a2 r4.2.1 r4.2.2.1 r4.2.2.2 r1.2.2.2.2).bind fun r5=>(JS r5.2.2.2.1 [41] a2 r5.2.2.2.2.1 r5.2.2.2.2.2.1 r5.2.2.2.2.2.2.1 r5.2.2.2.2.2.2.2).bind fun r6=>if(([]:List Node).length + [(⟨r5.1,r5.2.1,r5.2.2.1⟩:Node)].length) * 40≤140737488355328 then Jt (ZM q2 a0 a2 r2) (r6.1,r6.2.1,r6.2.2.1,r6.2.2.2,r5.2.2.2.2.2.2.2,ifK r2,(-1),([]:List Node)++[(⟨r5.1,r5.2.1,r5.2.2.1⟩:Node)]) else none else none else if(eqS r2 [114,101,116,117,114,110])=true then(JA (IntKind.i64.wrap (a1+1)) a2 r1.2.1 r1.2.2.1 r1.2.2.2.1 r1.2.2.2.2).bind fun r11=>if(!eqS r11 [59])=true then(Vd a0 (IntKind.i64.wrap (a1+1)) 0 a2 r1.2.1 r1.2.2.1 r1.2.2.2.1 r1.2.2.2.2).bind fun r12=>if(([]:List Node).length + [(⟨r12.1,r12.2.1,r12.2.2.1⟩:Node)].length) * 40≤140737488355328 then JaO a0 a2 (r12.2.2.2.1,r12.2.2.2.2.1,r12.2.2.2.2.2.1,r12.2.2.2.2.2.2.1,r12.2.2.2.2.2.2.2,([]:List Node)++[(⟨r12.1,r12.2.1,r12.2.2.1⟩:Node)]) else none else JaO a0 a2 (IntKind.i64.wrap (a1+1),r1.2.1,r1.2.2.1,r1.2.2.2.1,r1.2.2.2.2,([]:List Node)) else if(eqS r2 [116,121,112,101,100,101,102])=true then XB a0 a1 a2 r1 r2 true else(XV a0 a1 a2 r1.2.1 r1.2.2.1 r1.2.2.2.1 r1.2.2.2.2).bind fun r16=>XB a0 a1 a2 r1 r2 r16
noncomputable def Jbk(q1:EB→Int→(List Token)→Int→Int→Int→Int→Option ((List Node)×Int×Int×Int×Int×Int))(q2:EB→Int→(List Token)→Int→Int→Int→Int→Option (Int×Int×(List Node)×Int×EB×Int×Int×Int×Int))(a0:EB)(a1:Int)(a2:List Token)(a3:Int)(a4:Int)(a5:Int)(a6:Int):Option (Int×Int×(List Node)×Int×EB×Int×Int×Int×Int) :=
 (KV a1 a2 a3 a4 a5 a6).bind fun r1=>if(!r1.1)=true then some (0,0,([]:List Node),a1,a0,r1.2.1,r1.2.2.1,r1.2.2.2.1,r1.2.2.2.2) else(JA a1 a2 r1.2.1 r1.2.2.1 r1.2.2.2.1 r1.2.2.2.2).bind fun r2=>if(eqS r2 [123])=true then(q1 a0 a1 a2 r1.2.1 r1.2.2.1 r1.2.2.2.1 r1.2.2.2.2).bind fun r3=>Kj (a0,r3.2.1,r3.2.2.1,r3.2.2.2.1,r3.2.2.2.2.1,r3.2.2.2.2.2,5,(-1),r3.1) else if(eqS r2 [105,102])=true then XF q2 a0 a1 a2 r1 r2 true else XF q2 a0 a1 a2 r1 r2 (eqS r2 [119,104,105,108,101])
theorem JiH(q1:EB→Int→(List Token)→Int→Int→Int→Int→Option ((List Node)×Int×Int×Int×Int×Int))(q2:EB→Int→(List Token)→Int→Int→Int→Int→Option (Int×Int×(List Node)×Int×EB×Int×Int×Int×Int))(kq1:Kok Try.prog 37 true (Xb q1))(kq2:Kok Try.prog 62 true (XG q2)):∀ g,XG (Jbk q1 q2) g→Jx Try.prog 62 g:=by
 rintro _ ⟨a0,a1,a2,a3,a4,a5,a6,r,H,rfl⟩
 refine xGnl mixed [1000179] [] [(61,true,V3),(31,true,Ka),(37,true,(Xb q1)),(36,true,Vq),(59,true,Jbl),(16,true,KH),(62,true,(XG q2)),(32,true,Z1),(56,true,Zd)] [] trivial ⟨Jcn,Kw,kq1,Xh,Jbm,KJ,kq2,Jgx,JfC,trivial⟩ trivial Try.func62 _ ?_
 have G:=True.intro
 have Y:=xZ y_3 <| xZ y_24 <| xZ y_26 <| xZ y_50 <| xZ Try.results62 <| xZ J2.eq_1 <| xZ Jb.eq_1 <| xZ Vu <| xZ JW.eq_1 <| xZ V1.eq_1 <| xZ Kb.eq_1 <| xZ XD.eq_1 <| xZ Vs.eq_1 <| xZ Vm.eq_1 <| xZ KI.eq_1 <| xZ Z3.eq_1 <| xZ ZW.eq_1 <| xZ X4.eq_1 <| xZ Z3.eq_1 <| xZ JbH <| xZ JaH <| xZ JaE <| xZ JbF <| xZ JbL <| xZ JaG <| xZ JaF <| JbM
 dsimp only[Z3]
 simp only[Jbk]at H
 refine xS ?_
 refine xr ?_
 obtain⟨r1,hr1,H⟩:=Jg H
 have F:=Y
 refine xQ ?_
 refine xs 2 ?_
 refine xc ⟨[1],[]⟩ (tabG 0 (Jcj a1 a2 a3 a4 a5 a6 r1 hr1)) ?_
 refine xs 1 ?_
 refine xl ?_
 refine xS ?_
 rcases Jc H with⟨hp1,H⟩|⟨hp1,H⟩
 ·obtain⟨F,G,hq1⟩:=xH Y G hp1
  refine xT ?_
  replace H:=Option.some.inj H
  refine xr ?_
  subst H
  refine xrD [] ?_
  exact xO ⟨[1],[0]⟩
 ·obtain⟨F,G,hq1⟩:=xH Y G hp1
  refine xE ?_
  obtain⟨r2,hr2,H⟩:=Jg H
  have F:=Y
  refine xQ ?_
  refine xs 2 ?_
  refine xc ⟨[1],[]⟩ (tabG 1 (JE a1 a2 r1.2.1 r1.2.2.1 r1.2.2.2.1 r1.2.2.2.2 r2 hr2)) ?_
  refine xs 1 ?_
  refine xl ?_
  refine xS ?_
  refine xr0 ?_
  refine Jq ?_
  refine JB Kj (fun s=>[(0,.c (.pt 1 0)),(1,.c (.fm (EM Try.prog 52 (cvK s.1)))),(2,.c (.d (.v (.int .i64 s.2.1)))),(6,.c (.pt 2 0)),(10,.c (.pt 3 0))]) (fun s=>[[.d (.sl 11 (List.map Jb a2)),.d (.v (.int .i64 s.2.2.1)),.d (.v (.int .i64 s.2.2.2.1)),.d (.v (.int .i64 s.2.2.2.2.1)),.d (.v (.int .i64 s.2.2.2.2.2.1))],[.d (.v (.int .i64 0)),.d (.v (.int .i64 0)),.sl 3 [] 0],[.d (.v (.int .i64 s.2.2.2.2.2.2.1)),.d (.v (.int .i64 s.2.2.2.2.2.2.2.1)),.sl 3 (List.map Jp s.2.2.2.2.2.2.2.2) 4]]) [26] r ?_ ?_
  ·refine xS ?_
   refine xr ?_
   rcases Jc H with⟨hp2,H⟩|⟨hp2,H⟩
   ·obtain⟨F,G,hq2⟩:=xH Y G hp2
    refine xT ?_
    obtain⟨r3,hr3,H⟩:=Jg H
    have F:=Y
    refine xQ ?_
    refine xs 3 ?_
    refine xc ⟨[1],[]⟩ (tabG 2 (JfB q1 a0 a1 a2 r1.2.1 r1.2.2.1 r1.2.2.2.1 r1.2.2.2.2 r3 hr3)) ?_
    refine xs 5 ?_
    refine xl ?_
    refine xS ?_
    exact Jf H (xK ⟨[1,2,5],[7]⟩)
   ·obtain⟨F,G,hq2⟩:=xH Y G hp2
    refine xE0 ?_
    refine JB (XF q2 a0 a1 a2 r1 r2) (fun s=>[(0,.c (.pt 1 0)),(1,.c (.fm (EM Try.prog 52 (cvK a0)))),(2,.c (.d (.v (.int .i64 a1)))),(6,.c (.pt 2 0)),(9,.c (.d (.v (str r2)))),(10,.c (.pt 3 0)),(60,.c (.d (.v (.bool s))))]) (fun s=>[[.d (.sl 11 (List.map Jb a2)),.d (.v (.int .i64 r1.2.1)),.d (.v (.int .i64 r1.2.2.1)),.d (.v (.int .i64 r1.2.2.2.1)),.d (.v (.int .i64 r1.2.2.2.2))],[.d (.v (.int .i64 0)),.d (.v (.int .i64 0)),.sl 3 [] 0],[.d (.v (.int .i64 0)),.d (.v (.int .i64 0)),.sl 3 [] 0]]) [] r ?_ ?_
    ·rcases Jc H with⟨hp13,H⟩|⟨hp13,H⟩
     ·obtain⟨F,G,hq13⟩:=xH Y G hp13
      refine xR ?_
      exact Jf H (xK ⟨[1,2,5],[]⟩)
     ·obtain⟨F,G,hq13⟩:=xH Y G hp13
      refine xR ?_
      exact Jf H (xK ⟨[1,2,5],[]⟩)
    ·rintro x10 H
     rw[XF]at H
     rcases Jc H with⟨hp3,H⟩|⟨hp3,H⟩
     ·obtain⟨F,G,hq3⟩:=xH Y G hp3
      refine xT ?_
      obtain⟨hgh,H⟩:=Jj H
      refine hIfK r2 hgh ?_
      refine xS ?_
      obtain⟨r4,hr4,H⟩:=Jg H
      have F:=Y
      refine xQ ?_
      refine xs 3 ?_
      refine xc ⟨[1],[]⟩ (tabG 3 (KX (IntKind.i64.wrap (a1+1)) [40] a2 r1.2.1 r1.2.2.1 r1.2.2.2.1 r1.2.2.2.2 r4 hr4)) ?_
      refine xs 1 ?_
      refine xl ?_
      refine xS ?_
      obtain⟨r5,hr5,H⟩:=Jg H
      have F:=Y
      refine xQ ?_
      refine xs 3 ?_
      refine xc ⟨[1],[]⟩ (tabG 4 (Jbs a0 r4.1 0 a2 r4.2.1 r4.2.2.1 r4.2.2.2 r1.2.2.2.2 r5 hr5)) ?_
      refine xs 6 ?_
      refine xl ?_
      refine xS ?_
      obtain⟨r6,hr6,H⟩:=Jg H
      have F:=Y
      refine xQ ?_
      refine xs 2 ?_
      refine xc ⟨[1],[]⟩ (tabG 3 (KX r5.2.2.2.1 [41] a2 r5.2.2.2.2.1 r5.2.2.2.2.2.1 r5.2.2.2.2.2.2.1 r5.2.2.2.2.2.2.2 r6 hr6)) ?_
      refine xs 1 ?_
      refine xl ?_
      refine xS ?_
      obtain⟨hg1,H⟩:=Jj H
      have F:=xZ Y (XL JaC [(⟨r5.1,r5.2.1,r5.2.2.1⟩:Node)])
      refine xR ?_
      refine Ke (ZM q2 a0 a2 r2) (fun s=>[(0,.c (.pt 1 0)),(1,.c (.fm (EM Try.prog 52 (cvK a0)))),(2,.c (.d (.v (.int .i64 s.1)))),(6,.c (.pt 2 0)),(9,.c (.d (.v (str r2)))),(10,.c (.pt 3 0))]) (fun s=>[[.d (.sl 11 (List.map Jb a2)),.d (.v (.int .i64 s.2.1)),.d (.v (.int .i64 s.2.2.1)),.d (.v (.int .i64 s.2.2.2.1)),.d (.v (.int .i64 s.2.2.2.2.1))],[.d (.v (.int .i64 0)),.d (.v (.int .i64 0)),.sl 3 [] 0],[.d (.v (.int .i64 s.2.2.2.2.2.1)),.d (.v (.int .i64 s.2.2.2.2.2.2.1)),.sl 3 (List.map Jp s.2.2.2.2.2.2.2) 4]]) [26] H (xK ⟨[1,2,3],[9]⟩) ?_
      rintro n1 ⟨x11,x12,x13,x14,x15,x16,x17,x18⟩ o1 H hF1
      rw[ZM]at H
      refine xS ?_
      obtain⟨r7,hr7,H⟩:=Jg H
      have F:=Y
      refine xQ ?_
      refine xs 1 ?_
      refine xc ⟨[1],[]⟩ (tabG 5 (JG a2 x12 x13 x14 x15 r7 hr7)) ?_
      refine xl ?_
      refine xS ?_
      rcases Jc H with⟨hp4,H⟩|⟨hp4,H⟩
      ·obtain⟨F,G,hq4⟩:=xH Y G hp4
       refine xT ?_
       obtain⟨r8,hr8,H⟩:=Jg H
       have F:=Y
       refine xQ ?_
       refine xs 3 ?_
       refine xc ⟨[1],[]⟩ (tabG 6 (Jf0 q2 a0 x11 a2 x12 x13 x14 x15 r8 hr8)) ?_
       refine xs 8 ?_
       refine xl ?_
       refine xS ?_
       obtain⟨hg2,H⟩:=Jj H
       have F:=xZ Y (XL JaC [(⟨r8.1,r8.2.1,r8.2.2.1⟩:Node)])
       refine xR ?_
       refine xr0 ?_
       refine Jq ?_
       refine Zn ?_
       refine JB (V0 a0 x16 x17 r8) (fun s=>[(0,.c (.pt 1 0)),(1,.c (.fm (EM Try.prog 52 (cvK a0)))),(2,.c (.d (.v (.int .i64 r8.2.2.2.1)))),(6,.c (.pt 2 0)),(9,.c (.d (.v (str r2)))),(10,.c (.pt 3 0)),(122,.c (.d (.v (.bool s.1))))]) (fun s=>[[.d (.sl 11 (List.map Jb a2)),.d (.v (.int .i64 r8.2.2.2.2.2.1)),.d (.v (.int .i64 r8.2.2.2.2.2.2.1)),.d (.v (.int .i64 r8.2.2.2.2.2.2.2.1)),.d (.v (.int .i64 r8.2.2.2.2.2.2.2.2))],[.d (.v (.int .i64 0)),.d (.v (.int .i64 0)),.sl 3 [] 0],[.d (.v (.int .i64 x16)),.d (.v (.int .i64 x17)),.sl 3 (List.map Jp s.2) 4]]) [26] o1 ?_ ?_
       ·rcases Jc H with⟨hp6,H⟩|⟨hp6,H⟩
        ·obtain⟨F,G,hq6⟩:=xH Y G hp6
         refine xR ?_
         exact Jf H (xK ⟨[1,2,3],[9]⟩)
        ·obtain⟨F,G,hq6⟩:=xH Y G hp6
         rcases Jc H with⟨hp7,H⟩|⟨hp7,H⟩
         ·obtain⟨F,G,hq7⟩:=xH F G hp7
          refine xR ?_
          exact Jf H (xK ⟨[1,2,3],[9]⟩)
         ·obtain⟨F,G,hq7⟩:=xH F G hp7
          obtain⟨r9,hr9,H⟩:=Jg H
          have F:=F
          refine xQ ?_
          refine xs 11 ?_
          refine xc ⟨[1],[]⟩ (tabG 1 (JE r8.2.2.2.1 a2 r8.2.2.2.2.2.1 r8.2.2.2.2.2.2.1 r8.2.2.2.2.2.2.2.1 r8.2.2.2.2.2.2.2.2 r9 hr9)) ?_
          refine xs 2 ?_
          refine xl ?_
          refine xS ?_
          exact Jf H (xK ⟨[1,2,3],[9]⟩)
       ·rintro ⟨x19,x20⟩ H
        rw[V0]at H
        rcases Jc H with⟨hp5,H⟩|⟨hp5,H⟩
        ·obtain⟨F,G,hq5⟩:=xH Y G hp5
         replace H:=Js H hF1
         refine xT ?_
         exact Jf H (xK ⟨[1,2,3],[4]⟩)
        ·obtain⟨F,G,hq5⟩:=xH Y G hp5
         refine xE ?_
         refine xr ?_
         exact JD (JM H hF1) (xK ⟨[1,2,3],[4]⟩)
      ·obtain⟨F,G,hq4⟩:=xH Y G hp4
       replace H:=Js H hF1
       refine xE ?_
       exact Jf H (xK ⟨[1,2,3],[4]⟩)
     ·obtain⟨F,G,hq3⟩:=xH Y G hp3
      refine xE ?_
      refine xr ?_
      rcases Jc H with⟨hp8,H⟩|⟨hp8,H⟩
      ·obtain⟨F,G,hq8⟩:=xH Y G hp8
       refine xT ?_
       refine xr ?_
       refine xr0 ?_
       refine Jq ?_
       refine JB (JaO a0 a2) (fun s=>[(0,.c (.pt 1 0)),(1,.c (.fm (EM Try.prog 52 (cvK a0)))),(2,.c (.d (.v (.int .i64 s.1)))),(6,.c (.pt 2 0)),(10,.c (.pt 3 0))]) (fun s=>[[.d (.sl 11 (List.map Jb a2)),.d (.v (.int .i64 s.2.1)),.d (.v (.int .i64 s.2.2.1)),.d (.v (.int .i64 s.2.2.2.1)),.d (.v (.int .i64 s.2.2.2.2.1))],[.d (.v (.int .i64 0)),.d (.v (.int .i64 0)),.sl 3 [] 0],[.d (.v (.int .i64 8)),.d (.v (.int .i64 (-1))),.sl 3 (List.map Jp s.2.2.2.2.2) 4]]) [26] r ?_ ?_
       ·refine xS ?_
        obtain⟨r11,hr11,H⟩:=Jg H
        have F:=Y
        refine xQ ?_
        refine xs 2 ?_
        refine xc ⟨[1],[]⟩ (tabG 1 (JE (IntKind.i64.wrap (a1+1)) a2 r1.2.1 r1.2.2.1 r1.2.2.2.1 r1.2.2.2.2 r11 hr11)) ?_
        refine xs 1 ?_
        refine xl ?_
        refine xS ?_
        rcases Jc H with⟨hp9,H⟩|⟨hp9,H⟩
        ·obtain⟨F,G,hq9⟩:=xH Y G hp9
         refine xT ?_
         obtain⟨r12,hr12,H⟩:=Jg H
         have F:=Y
         refine xQ ?_
         refine xs 3 ?_
         refine xc ⟨[1],[]⟩ (tabG 4 (Jbs a0 (IntKind.i64.wrap (a1+1)) 0 a2 r1.2.1 r1.2.2.1 r1.2.2.2.1 r1.2.2.2.2 r12 hr12)) ?_
         refine xs 6 ?_
         refine xl ?_
         refine xS ?_
         obtain⟨hg3,H⟩:=Jj H
         have F:=xZ Y (XL JaC [(⟨r12.1,r12.2.1,r12.2.2.1⟩:Node)])
         refine xR ?_
         refine xr ?_
         exact Jf H (xK ⟨[1,2,3],[8]⟩)
        ·obtain⟨F,G,hq9⟩:=xH Y G hp9
         refine xE ?_
         exact Jf H (xK ⟨[1,2,3],[0]⟩)
       ·rintro ⟨x21,x22,x23,x24,x25,x26⟩ H
        rw[JaO]at H
        obtain⟨r10,hr10,H⟩:=Jg H
        have F:=Y
        refine xQ ?_
        refine xs 2 ?_
        refine xc ⟨[1],[]⟩ (tabG 3 (KX x21 [59] a2 x22 x23 x24 x25 r10 hr10)) ?_
        refine xs 1 ?_
        refine xl ?_
        refine xS ?_
        exact Jf H (xK ⟨[1,2,3],[4]⟩)
      ·obtain⟨F,G,hq8⟩:=xH Y G hp8
       refine xE0 ?_
       refine JB (XB a0 a1 a2 r1 r2) (fun s=>[(0,.c (.pt 1 0)),(1,.c (.fm (EM Try.prog 52 (cvK a0)))),(2,.c (.d (.v (.int .i64 a1)))),(6,.c (.pt 2 0)),(9,.c (.d (.v (str r2)))),(10,.c (.pt 3 0)),(152,.c (.d (.v (.bool s))))]) (fun s=>[[.d (.sl 11 (List.map Jb a2)),.d (.v (.int .i64 r1.2.1)),.d (.v (.int .i64 r1.2.2.1)),.d (.v (.int .i64 r1.2.2.2.1)),.d (.v (.int .i64 r1.2.2.2.2))],[.d (.v (.int .i64 0)),.d (.v (.int .i64 0)),.sl 3 [] 0],[.d (.v (.int .i64 0)),.d (.v (.int .i64 0)),.sl 3 [] 0]]) [] r ?_ ?_
       ·rcases Jc H with⟨hp12,H⟩|⟨hp12,H⟩
        ·obtain⟨F,G,hq12⟩:=xH Y G hp12
         refine xR ?_
         exact Jf H (xK ⟨[1,2,3],[]⟩)
        ·obtain⟨F,G,hq12⟩:=xH Y G hp12
         obtain⟨r16,hr16,H⟩:=Jg H
         have F:=F
         refine xQ ?_
         refine xs 6 ?_
         refine xc ⟨[1],[]⟩ (tabG 8 (Jfy a0 a1 a2 r1.2.1 r1.2.2.1 r1.2.2.2.1 r1.2.2.2.2 r16 hr16)) ?_
         refine xs 2 ?_
         refine xl ?_
         refine xS ?_
         exact Jf H (xK ⟨[1,2,3],[]⟩)
       ·rintro x27 H
        rw[XB]at H
        rcases Jc H with⟨hp10,H⟩|⟨hp10,H⟩
        ·obtain⟨F,G,hq10⟩:=xH Y G hp10
         refine xT ?_
         obtain⟨r13,hr13,H⟩:=Jg H
         have F:=Y
         refine xQ ?_
         refine xs 3 ?_
         refine xc ⟨[1],[]⟩ (tabG 7 (Jgw a0 a1 a2 r1.2.1 r1.2.2.1 r1.2.2.2.1 r1.2.2.2.2 r13 hr13)) ?_
         refine xs 7 ?_
         refine xl ?_
         refine xS ?_
         exact Jf H (xK ⟨[1,2,3],[5]⟩)
        ·obtain⟨F,G,hq10⟩:=xH Y G hp10
         refine xE ?_
         refine xr0 ?_
         refine Jq ?_
         refine JB (JaT a0 a2) (fun s=>[(0,.c (.pt 1 0)),(1,.c (.fm (EM Try.prog 52 (cvK a0)))),(2,.c (.d (.v (.int .i64 s.1)))),(6,.c (.pt 2 0)),(10,.c (.pt 3 0))]) (fun s=>[[.d (.sl 11 (List.map Jb a2)),.d (.v (.int .i64 s.2.1)),.d (.v (.int .i64 s.2.2.1)),.d (.v (.int .i64 s.2.2.2.1)),.d (.v (.int .i64 s.2.2.2.2.1))],[.d (.v (.int .i64 0)),.d (.v (.int .i64 0)),.sl 3 [] 0],[.d (.v (.int .i64 9)),.d (.v (.int .i64 (-1))),.sl 3 (List.map Jp s.2.2.2.2.2) 4]]) [26] r ?_ ?_
         ·refine xS ?_
          refine xr ?_
          rcases Jc H with⟨hp11,H⟩|⟨hp11,H⟩
          ·obtain⟨F,G,hq11⟩:=xH Y G hp11
           refine xT ?_
           obtain⟨r15,hr15,H⟩:=Jg H
           have F:=Y
           refine xQ ?_
           refine xs 3 ?_
           refine xc ⟨[1],[]⟩ (tabG 4 (Jbs a0 a1 0 a2 r1.2.1 r1.2.2.1 r1.2.2.2.1 r1.2.2.2.2 r15 hr15)) ?_
           refine xs 6 ?_
           refine xl ?_
           refine xS ?_
           obtain⟨hg4,H⟩:=Jj H
           have F:=xZ Y (XL JaC [(⟨r15.1,r15.2.1,r15.2.2.1⟩:Node)])
           refine xR ?_
           refine xr ?_
           exact Jf H (xK ⟨[1,2,3],[7]⟩)
          ·obtain⟨F,G,hq11⟩:=xH Y G hp11
           refine xE ?_
           exact Jf H (xK ⟨[1,2,3],[0]⟩)
         ·rintro ⟨x28,x29,x30,x31,x32,x33⟩ H
          rw[JaT]at H
          obtain⟨r14,hr14,H⟩:=Jg H
          have F:=Y
          refine xQ ?_
          refine xs 2 ?_
          refine xc ⟨[1],[]⟩ (tabG 3 (KX x28 [59] a2 x29 x30 x31 x32 r14 hr14)) ?_
          refine xs 1 ?_
          refine xl ?_
          refine xS ?_
          exact Jf H (xK ⟨[1,2,3],[4]⟩)
  ·rintro ⟨x1,x2,x3,x4,x5,x6,x7,x8,x9⟩ H
   rw[Kj]at H
   refine xS ?_
   refine xr ?_
   replace H:=Option.some.inj H
   refine xr ?_
   subst H
   refine xrD [] ?_
   exact xO ⟨[1],[4]⟩
noncomputable def KK:Nat→(EB→Int→(List Token)→Int→Int→Int→Int→Option ((List Node)×Int×Int×Int×Int×Int))×(EB→Int→(List Token)→Int→Int→Int→Int→Option (Int×Int×(List Node)×Int×EB×Int×Int×Int×Int))
 | 0=>(fun _ _ _ _ _ _ _=>none,fun _ _ _ _ _ _ _=>none)
 | n+1=>(JaN ((KK n).1) ((KK n).2),Jbk ((KK n).1) ((KK n).2))
theorem Jev:∀ n,Kok Try.prog 37 true (Xb (KK n).1)∧Kok Try.prog 62 true (XG (KK n).2)
 | 0=>⟨⟨JqW,(by rintro _ ⟨_,_,_,_,_,_,_,_,H,_⟩; cases H),fun _=>by rintro _ ⟨_,_,_,_,_,_,_,_,_,rfl⟩; exact⟨_,_,_,rfl⟩⟩,⟨Jrk,(by rintro _ ⟨_,_,_,_,_,_,_,_,H,_⟩; cases H),fun _=>by rintro _ ⟨_,_,_,_,_,_,_,_,_,rfl⟩; exact⟨_,_,_,rfl⟩⟩⟩
 | n+1=>have h:=Jev n; ⟨⟨JqW,Jil _ _ h.1 h.2,fun _=>by rintro _ ⟨_,_,_,_,_,_,_,_,_,rfl⟩; exact⟨_,_,_,rfl⟩⟩,⟨Jrk,JiH _ _ h.1 h.2,fun _=>by rintro _ ⟨_,_,_,_,_,_,_,_,_,rfl⟩; exact⟨_,_,_,rfl⟩⟩⟩
noncomputable def Jb4:EB→Int→(List Token)→Int→Int→Int→Int→Option ((List Node)×Int×Int×Int×Int×Int):=(KK bigF).1
def JdW:GI→Prop:=Xb Jb4
theorem JjQ(a0:EB)(a1:Int)(a2:List Token)(a3:Int)(a4:Int)(a5:Int)(a6:Int)(r:((List Node)×Int×Int×Int×Int×Int))(H:Jb4 a0 a1 a2 a3 a4 a5 a6=some r):JdW (XD a0 a1 a2 a3 a4 a5 a6 r):=JfB Jb4 a0 a1 a2 a3 a4 a5 a6 r H
theorem JjS:Kok Try.prog 37 true JdW:=(Jev bigF).1
noncomputable def VM(a2:List Token)(r5:(Int×(List Node)×Int×EB×Int×Int×Int×Int)):(Int×EB×Int×Int×Int×Int×(List Node))→Option (Int×Int×(List Node)×Int×EB×Int×Int×Int×Int)
 | (x2,x3,x4,x5,x6,x7,x8)=>(JT a2 x4 x5 x6 x7).bind fun r7=>if(!r7)=true then some (3,(-1),x8,x2,r5.2.2.2.1,x4,x5,x6,x7) else(Jb4 x3 (IntKind.i64.wrap (x2+1)) a2 x4 x5 x6 x7).bind fun r8=>if(x8.length + [(⟨5,(-1),r8.1⟩:Node)].length) * 40≤140737488355328 then some (3,(-1),x8++[(⟨5,(-1),r8.1⟩:Node)],r8.2.1,r5.2.2.2.1,r8.2.2.1,r8.2.2.2.1,r8.2.2.2.2.1,r8.2.2.2.2.2) else none
noncomputable def Xi(a2:List Token)(r5:(Int×(List Node)×Int×EB×Int×Int×Int×Int))(x10:EB)(x14:Int)(x15:List Node):(Int×Int×Int×Int)→Option ((Int×EB×Int×Int×Int×Int×(List Node)) ⊕ (Int×Int×(List Node)×Int×EB×Int×Int×Int×Int))
 | (x17,x18,x19,x20)=>(JT a2 x18 x19 x20 x14).bind fun r9=>if(!r9)=true then inrO (VM a2 r5 (x17,x10,x18,x19,x20,x14,x15)) else(Xr x10 x17 a2 x18 x19 x20 x14).bind fun r10=>(JT a2 r10.2.1 r10.2.2.1 r10.2.2.2 x14).bind fun r11=>if(!r11)=true then inrO (VM a2 r5 (x17,x10,r10.2.1,r10.2.2.1,r10.2.2.2,x14,x15)) else(KQ x10 r10.1 false a2 r10.2.1 r10.2.2.1 r10.2.2.2 x14).bind fun r12=>if(x15.length + [(⟨2,(-1),[(⟨16,x17,([]:List Node)⟩:Node),(⟨4,r12.1,r12.2.1⟩:Node)]⟩:Node)].length) * 40≤140737488355328 then some (.inl (r12.2.2.1,r12.2.2.2.1,r12.2.2.2.2.1,r12.2.2.2.2.2.1,r12.2.2.2.2.2.2.1,r12.2.2.2.2.2.2.2,x15++[(⟨2,(-1),[(⟨16,x17,([]:List Node)⟩:Node),(⟨4,r12.1,r12.2.1⟩:Node)]⟩:Node)])) else none
noncomputable def X7(a2:List Token)(r5:(Int×(List Node)×Int×EB×Int×Int×Int×Int))(x9:Int)(x10:EB)(x11:Int)(x12:Int)(x13:Int)(x14:Int)(x15:List Node):Bool→Option ((Int×EB×Int×Int×Int×Int×(List Node)) ⊕ (Int×Int×(List Node)×Int×EB×Int×Int×Int×Int))
 | x16=>if x16=true then if(ltI 2 (x15.length:Int))=true then(JS x9 [44] a2 x11 x12 x13 x14).bind fun r13=>Xi a2 r5 x10 x14 x15 (r13.1,r13.2.1,r13.2.2.1,r13.2.2.2) else Xi a2 r5 x10 x14 x15 (x9,x11,x12,x13) else inrO (VM a2 r5 (x9,x10,x11,x12,x13,x14,x15))
noncomputable def Jcd(a2:List Token)(r5:(Int×(List Node)×Int×EB×Int×Int×Int×Int)):(Int×EB×Int×Int×Int×Int×(List Node))→Option ((Int×EB×Int×Int×Int×Int×(List Node)) ⊕ (Int×Int×(List Node)×Int×EB×Int×Int×Int×Int))
 | (x9,x10,x11,x12,x13,x14,x15)=>(JT a2 x11 x12 x13 x14).bind fun r14=>if r14=true then(JA x9 a2 x11 x12 x13 x14).bind fun r15=>X7 a2 r5 x9 x10 x11 x12 x13 x14 x15 (!eqS r15 [41]) else X7 a2 r5 x9 x10 x11 x12 x13 x14 x15 false
noncomputable def VK(a1:Int)(a2:List Token)(r5:(Int×(List Node)×Int×EB×Int×Int×Int×Int)):Bool→Option (Int×Int×(List Node)×Int×EB×Int×Int×Int×Int)
 | x1=>if x1=true then(Jcy r5.2.2.2.1 r5.2.2.1 2 (-1) [(⟨16,a1,([]:List Node)⟩:Node)] 4 r5.1 r5.2.1 false a2 r5.2.2.2.2.1 r5.2.2.2.2.2.1 r5.2.2.2.2.2.2.1 r5.2.2.2.2.2.2.2).bind fun r6=>some (2,(-1),r6.1,r6.2.1,r6.2.2.1,r6.2.2.2.1,r6.2.2.2.2.1,r6.2.2.2.2.2.1,r6.2.2.2.2.2.2) else Jt (Jcd a2 r5) (IntKind.i64.wrap (r5.2.2.1+1),r5.2.2.2.1,r5.2.2.2.2.1,r5.2.2.2.2.2.1,r5.2.2.2.2.2.2.1,r5.2.2.2.2.2.2.2,[(⟨16,a1,([]:List Node)⟩:Node),(⟨4,r5.1,r5.2.1⟩:Node)])
noncomputable def Jax(a0:EB)(a1:Int)(a2:List Token)(a3:Int)(a4:Int)(a5:Int)(a6:Int):Option (Int×Int×(List Node)×Int×EB×Int×Int×Int×Int) :=
 (JA a1 a2 a3 a4 a5 a6).bind fun r1=>if(eqS r1 [116,121,112,101,100,101,102])=true then(ZV a0 a1 a2 a3 a4 a5 a6).bind fun r2=>some (r2.1,r2.2.1,r2.2.2.1,r2.2.2.2.1,r2.2.2.2.2.1,r2.2.2.2.2.2.1,r2.2.2.2.2.2.2.1,r2.2.2.2.2.2.2.2.1,r2.2.2.2.2.2.2.2.2) else(Xr a0 a1 a2 a3 a4 a5 a6).bind fun r3=>(JT a2 r3.2.1 r3.2.2.1 r3.2.2.2 a6).bind fun r4=>if(!r4)=true then some (16,a1,([]:List Node),r3.1,a0,r3.2.1,r3.2.2.1,r3.2.2.2,a6) else(KQ a0 r3.1 false a2 r3.2.1 r3.2.2.1 r3.2.2.2 a6).bind fun r5=>(JT a2 r5.2.2.2.2.1 r5.2.2.2.2.2.1 r5.2.2.2.2.2.2.1 r5.2.2.2.2.2.2.2).bind fun r16=>if(!r16)=true then VK a1 a2 r5 true else if(ltI 0 (r5.2.1.length:Int))=true then VK a1 a2 r5 true else(JA r5.2.2.1 a2 r5.2.2.2.2.1 r5.2.2.2.2.2.1 r5.2.2.2.2.2.2.1 r5.2.2.2.2.2.2.2).bind fun r17=>VK a1 a2 r5 (!eqS r17 [40])
noncomputable def JaM(a0:EB)(a1:Int)(a2:List Token)(a3:Int)(a4:Int)(a5:Int)(a6:Int)(r:(Int×Int×(List Node)×Int×EB×Int×Int×Int×Int)):GI :=
 ⟨[.c (.pt 1 0),.c (.fm (EM Try.prog 52 (cvK a0))),.c (.d (.v (.int .i64 a1)))],[[.d (.sl 11 (List.map Jb a2)),.d (.v (.int .i64 a3)),.d (.v (.int .i64 a4)),.d (.v (.int .i64 a5)),.d (.v (.int .i64 a6))]],[],.ret (.tu [(true,[.d (.v (.int .i64 r.1)),.d (.v (.int .i64 r.2.1)),.sl 3 (List.map Jp r.2.2.1) 2]),(false,[.d (.v (.int .i64 r.2.2.2.1))]),(false,[.fm (EM Try.prog 52 (cvK r.2.2.2.2.1))])]) [[.d (.sl 11 (List.map Jb a2)),.d (.v (.int .i64 r.2.2.2.2.2.1)),.d (.v (.int .i64 r.2.2.2.2.2.2.1)),.d (.v (.int .i64 r.2.2.2.2.2.2.2.1)),.d (.v (.int .i64 r.2.2.2.2.2.2.2.2))]] [26]⟩
def JaK:GI→Prop:=fun g=>∃ (a0:EB) (a1:Int) (a2:List Token) (a3:Int) (a4:Int) (a5:Int) (a6:Int) (r:(Int×Int×(List Node)×Int×EB×Int×Int×Int×Int)),Jax a0 a1 a2 a3 a4 a5 a6=some r∧g=JaM a0 a1 a2 a3 a4 a5 a6 r
theorem JjV(a0:EB)(a1:Int)(a2:List Token)(a3:Int)(a4:Int)(a5:Int)(a6:Int)(r:(Int×Int×(List Node)×Int×EB×Int×Int×Int×Int))(H:Jax a0 a1 a2 a3 a4 a5 a6=some r):JaK (JaM a0 a1 a2 a3 a4 a5 a6 r):=⟨a0,a1,a2,a3,a4,a5,a6,r,H,rfl⟩
theorem JiB:∀ g,JaK g→Jx Try.prog 17 g:=by
 rintro _ ⟨a0,a1,a2,a3,a4,a5,a6,r,H,rfl⟩
 refine xGn mixed [] [(31,true,Ka),(32,true,Z1),(33,true,Z4),(16,true,KH),(34,true,Vo),(35,true,Jad),(37,true,JdW),(36,true,Vq)] [] trivial ⟨Kw,Jgx,Jgv,KJ,Jae,Jgq,JjS,Xh,trivial⟩ trivial Try.func17 _ ?_
 have G:=True.intro
 have Y:=xZ y_3 <| xZ y_24 <| xZ y_26 <| xZ Try.results17 <| xZ J2.eq_1 <| xZ Jb.eq_1 <| xZ Vu <| xZ JW.eq_1 <| xZ Kb.eq_1 <| xZ ZW.eq_1 <| xZ Z2.eq_1 <| xZ KI.eq_1 <| xZ Vl.eq_1 <| xZ Jab.eq_1 <| xZ XD.eq_1 <| xZ Vs.eq_1 <| JaM.eq_1
 dsimp only[JaM]
 simp only[Jax]at H
 refine xS ?_
 refine xr ?_
 obtain⟨r1,hr1,H⟩:=Jg H
 have F:=Y
 refine xQ ?_
 refine xs 2 ?_
 refine xc ⟨[1],[]⟩ (tabG 0 (JE a1 a2 a3 a4 a5 a6 r1 hr1)) ?_
 refine xs 1 ?_
 refine xl ?_
 refine xS ?_
 rcases Jc H with⟨hp1,H⟩|⟨hp1,H⟩
 ·obtain⟨F,G,hq1⟩:=xH Y G hp1
  refine xT ?_
  obtain⟨r2,hr2,H⟩:=Jg H
  have F:=Y
  refine xQ ?_
  refine xs 3 ?_
  refine xc ⟨[1],[]⟩ (tabG 1 (Jgw a0 a1 a2 a3 a4 a5 a6 r2 hr2)) ?_
  refine xs 6 ?_
  refine xl ?_
  replace H:=Option.some.inj H
  refine xS ?_
  subst H
  refine xrD [] ?_
  exact xO ⟨[1],[5]⟩
 ·obtain⟨F,G,hq1⟩:=xH Y G hp1
  refine xE ?_
  obtain⟨r3,hr3,H⟩:=Jg H
  have F:=Y
  refine xQ ?_
  refine xs 3 ?_
  refine xc ⟨[1],[]⟩ (tabG 2 (Jet a0 a1 a2 a3 a4 a5 a6 r3 hr3)) ?_
  refine xs 6 ?_
  refine xl ?_
  refine xS ?_
  obtain⟨r4,hr4,H⟩:=Jg H
  have F:=Y
  refine xQ ?_
  refine xs 1 ?_
  refine xc ⟨[1],[]⟩ (tabG 3 (JG a2 r3.2.1 r3.2.2.1 r3.2.2.2 a6 r4 hr4)) ?_
  refine xs 1 ?_
  refine xl ?_
  refine xS ?_
  rcases Jc H with⟨hp2,H⟩|⟨hp2,H⟩
  ·obtain⟨F,G,hq2⟩:=xH Y G hp2
   refine xT ?_
   replace H:=Option.some.inj H
   refine xr ?_
   subst H
   refine xrD [] ?_
   exact xO ⟨[1],[0]⟩
  ·obtain⟨F,G,hq2⟩:=xH Y G hp2
   refine xE ?_
   obtain⟨r5,hr5,H⟩:=Jg H
   have F:=Y
   refine xQ ?_
   refine xs 3 ?_
   refine xc ⟨[1],[]⟩ (tabG 4 (Jah a0 r3.1 false a2 r3.2.1 r3.2.2.1 r3.2.2.2 a6 r5 hr5)) ?_
   refine xs 8 ?_
   refine xl ?_
   refine  ?_
   refine Jq ?_
   refine Zn ?_
   refine JB (VK a1 a2 r5) (fun s=>[(0,.c (.pt 1 0)),(1,.c (.fm (EM Try.prog 52 (cvK r5.2.2.2.1)))),(2,.c (.d (.v (.int .i64 r5.2.2.1)))),(6,.c (.pt 2 0)),(9,.c (.pt 3 0)),(10,.c (.pt 4 0)),(64,.c (.d (.v (.bool s))))]) (fun s=>[[.d (.sl 11 (List.map Jb a2)),.d (.v (.int .i64 r5.2.2.2.2.1)),.d (.v (.int .i64 r5.2.2.2.2.2.1)),.d (.v (.int .i64 r5.2.2.2.2.2.2.1)),.d (.v (.int .i64 r5.2.2.2.2.2.2.2))],[.d (.v (.int .i64 0)),.d (.v (.int .i64 0)),.sl 3 [] 0],[.d (.v (.int .i64 16)),.d (.v (.int .i64 a1)),.sl 3 [] 0],[.d (.v (.int .i64 4)),.d (.v (.int .i64 r5.1)),.sl 3 (List.map Jp r5.2.1) 5]]) [26] r ?_ ?_
   ·obtain⟨r16,hr16,H⟩:=Jg H
    have F:=Y
    rcases Jc H with⟨hp10,H⟩|⟨hp10,H⟩
    ·obtain⟨F,G,hq10⟩:=xH F G hp10
     refine xQ ?_
     refine xs 1 ?_
     refine xc ⟨[1],[]⟩ (tabG 3 (JG a2 r5.2.2.2.2.1 r5.2.2.2.2.2.1 r5.2.2.2.2.2.2.1 r5.2.2.2.2.2.2.2 r16 hr16)) ?_
     refine xs 13 ?_
     refine xl ?_
     refine xS ?_
     exact Jf H (xK ⟨[1,2,5,9],[8]⟩)
    ·obtain⟨F,G,hq10⟩:=xH F G hp10
     rcases Jc H with⟨hp11,H⟩|⟨hp11,H⟩
     ·obtain⟨F,G,hq11⟩:=xH F G hp11
      refine xQ ?_
      refine xs 1 ?_
      refine xc ⟨[1],[]⟩ (tabG 3 (JG a2 r5.2.2.2.2.1 r5.2.2.2.2.2.1 r5.2.2.2.2.2.2.1 r5.2.2.2.2.2.2.2 r16 hr16)) ?_
      refine xs 13 ?_
      refine xl ?_
      refine xS ?_
      exact Jf H (xK ⟨[1,2,5,9],[8]⟩)
     ·obtain⟨F,G,hq11⟩:=xH F G hp11
      obtain⟨r17,hr17,H⟩:=Jg H
      have F:=F
      refine xQ ?_
      refine xs 1 ?_
      refine xc ⟨[1],[]⟩ (tabG 3 (JG a2 r5.2.2.2.2.1 r5.2.2.2.2.2.1 r5.2.2.2.2.2.2.1 r5.2.2.2.2.2.2.2 r16 hr16)) ?_
      refine xs 10 ?_
      refine xc ⟨[1],[]⟩ (tabG 0 (JE r5.2.2.1 a2 r5.2.2.2.2.1 r5.2.2.2.2.2.1 r5.2.2.2.2.2.2.1 r5.2.2.2.2.2.2.2 r17 hr17)) ?_
      refine xs 2 ?_
      refine xl ?_
      refine xS ?_
      exact Jf H (xK ⟨[1,2,5,9],[8]⟩)
   ·rintro x1 H
    rw[VK]at H
    rcases Jc H with⟨hp3,H⟩|⟨hp3,H⟩
    ·obtain⟨F,G,hq3⟩:=xH Y G hp3
     refine xT ?_
     obtain⟨r6,hr6,H⟩:=Jg H
     have F:=Y
     refine xQ ?_
     refine xs 7 ?_
     refine xc ⟨[1],[0,5]⟩ (tabG 5 (Jgs r5.2.2.2.1 r5.2.2.1 2 (-1) [(⟨16,a1,([]:List Node)⟩:Node)] 4 r5.1 r5.2.1 false a2 r5.2.2.2.2.1 r5.2.2.2.2.2.1 r5.2.2.2.2.2.2.1 r5.2.2.2.2.2.2.2 r6 hr6)) ?_
     refine xs 6 ?_
     refine xl ?_
     replace H:=Option.some.inj H
     refine xS ?_
     subst H
     refine xrD [] ?_
     exact xO ⟨[1],[7]⟩
    ·obtain⟨F,G,hq3⟩:=xH Y G hp3
     refine xE ?_
     refine xr ?_
     refine xr ?_
     refine xr0 ?_
     refine Jq ?_
     refine JB (VM a2 r5) (fun s=>[(0,.c (.pt 1 0)),(1,.c (.fm (EM Try.prog 52 (cvK r5.2.2.2.1)))),(2,.c (.d (.v (.int .i64 s.1)))),(6,.c (.pt 2 0)),(11,.c (.pt 3 0)),(12,.c (.fm (EM Try.prog 52 (cvK s.2.1))))]) (fun s=>[[.d (.sl 11 (List.map Jb a2)),.d (.v (.int .i64 s.2.2.1)),.d (.v (.int .i64 s.2.2.2.1)),.d (.v (.int .i64 s.2.2.2.2.1)),.d (.v (.int .i64 s.2.2.2.2.2.1))],[.d (.v (.int .i64 0)),.d (.v (.int .i64 0)),.sl 3 [] 0],[.d (.v (.int .i64 3)),.d (.v (.int .i64 (-1))),.sl 3 (List.map Jp s.2.2.2.2.2.2) 4]]) [26] r ?_ ?_
     ·refine xS ?_
      refine Ke (Jcd a2 r5) (fun s=>[(0,.c (.pt 1 0)),(1,.c (.fm (EM Try.prog 52 (cvK r5.2.2.2.1)))),(2,.c (.d (.v (.int .i64 s.1)))),(6,.c (.pt 2 0)),(11,.c (.pt 3 0)),(12,.c (.fm (EM Try.prog 52 (cvK s.2.1))))]) (fun s=>[[.d (.sl 11 (List.map Jb a2)),.d (.v (.int .i64 s.2.2.1)),.d (.v (.int .i64 s.2.2.2.1)),.d (.v (.int .i64 s.2.2.2.2.1)),.d (.v (.int .i64 s.2.2.2.2.2.1))],[.d (.v (.int .i64 0)),.d (.v (.int .i64 0)),.sl 3 [] 0],[.d (.v (.int .i64 3)),.d (.v (.int .i64 (-1))),.sl 3 (List.map Jp s.2.2.2.2.2.2) 4]]) [26] H (xK ⟨[1,2,6],[0]⟩) ?_
      rintro n1 ⟨x9,x10,x11,x12,x13,x14,x15⟩ o1 H hF1
      rw[Jcd]at H
      refine Zn ?_
      refine JB (X7 a2 r5 x9 x10 x11 x12 x13 x14 x15) (fun s=>[(0,.c (.pt 1 0)),(1,.c (.fm (EM Try.prog 52 (cvK r5.2.2.2.1)))),(2,.c (.d (.v (.int .i64 x9)))),(6,.c (.pt 2 0)),(11,.c (.pt 3 0)),(12,.c (.fm (EM Try.prog 52 (cvK x10)))),(90,.c (.d (.v (.bool s))))]) (fun s=>[[.d (.sl 11 (List.map Jb a2)),.d (.v (.int .i64 x11)),.d (.v (.int .i64 x12)),.d (.v (.int .i64 x13)),.d (.v (.int .i64 x14))],[.d (.v (.int .i64 0)),.d (.v (.int .i64 0)),.sl 3 [] 0],[.d (.v (.int .i64 3)),.d (.v (.int .i64 (-1))),.sl 3 (List.map Jp x15) 4]]) [26] o1 ?_ ?_
      ·obtain⟨r14,hr14,H⟩:=Jg H
       have F:=Y
       rcases Jc H with⟨hp9,H⟩|⟨hp9,H⟩
       ·obtain⟨F,G,hq9⟩:=xH F G hp9
        obtain⟨r15,hr15,H⟩:=Jg H
        have F:=F
        refine xQ ?_
        refine xs 1 ?_
        refine xc ⟨[1],[]⟩ (tabG 3 (JG a2 x11 x12 x13 x14 r14 hr14)) ?_
        refine xs 3 ?_
        refine xc ⟨[1],[]⟩ (tabG 0 (JE x9 a2 x11 x12 x13 x14 r15 hr15)) ?_
        refine xs 2 ?_
        refine xl ?_
        refine xS ?_
        exact Jf H (xK ⟨[1,2,3],[4]⟩)
       ·obtain⟨F,G,hq9⟩:=xH F G hp9
        refine xQ ?_
        refine xs 1 ?_
        refine xc ⟨[1],[]⟩ (tabG 3 (JG a2 x11 x12 x13 x14 r14 hr14)) ?_
        refine xs 6 ?_
        refine xl ?_
        refine xS ?_
        exact Jf H (xK ⟨[1,2,3],[4]⟩)
      ·rintro x16 H
       rw[X7]at H
       rcases Jc H with⟨hp5,H⟩|⟨hp5,H⟩
       ·obtain⟨F,G,hq5⟩:=xH Y G hp5
        refine xT0 ?_
        refine Jbu ?_
        refine Jq ?_
        refine Jge ?_
        refine JB (Xi a2 r5 x10 x14 x15) (fun s=>[(0,.c (.pt 1 0)),(1,.c (.fm (EM Try.prog 52 (cvK r5.2.2.2.1)))),(2,.c (.d (.v (.int .i64 s.1)))),(6,.c (.pt 2 0)),(11,.c (.pt 3 0)),(12,.c (.fm (EM Try.prog 52 (cvK x10))))]) (fun s=>[[.d (.sl 11 (List.map Jb a2)),.d (.v (.int .i64 s.2.1)),.d (.v (.int .i64 s.2.2.1)),.d (.v (.int .i64 s.2.2.2)),.d (.v (.int .i64 x14))],[.d (.v (.int .i64 0)),.d (.v (.int .i64 0)),.sl 3 [] 0],[.d (.v (.int .i64 3)),.d (.v (.int .i64 (-1))),.sl 3 (List.map Jp x15) 4]]) [26] o1 ?_ ?_
        ·refine xS ?_
         refine xr ?_
         rcases Jc H with⟨hp8,H⟩|⟨hp8,H⟩
         ·obtain⟨F,G,hq8⟩:=xH Y G hp8
          refine xT ?_
          obtain⟨r13,hr13,H⟩:=Jg H
          have F:=Y
          refine xQ ?_
          refine xs 2 ?_
          refine xc ⟨[1],[]⟩ (tabG 7 (KX x9 [44] a2 x11 x12 x13 x14 r13 hr13)) ?_
          refine xs 1 ?_
          refine xl ?_
          refine xS ?_
          exact Jf H (xK ⟨[1,2,3],[4]⟩)
         ·obtain⟨F,G,hq8⟩:=xH Y G hp8
          refine xE ?_
          exact Jf H (xK ⟨[1,2,3],[4]⟩)
        ·rintro ⟨x17,x18,x19,x20⟩ H
         rw[Xi]at H
         refine xS ?_
         obtain⟨r9,hr9,H⟩:=Jg H
         have F:=Y
         refine xQ ?_
         refine xs 1 ?_
         refine xc ⟨[1],[]⟩ (tabG 3 (JG a2 x18 x19 x20 x14 r9 hr9)) ?_
         refine xs 1 ?_
         refine xl ?_
         refine xS ?_
         rcases Jc H with⟨hp6,H⟩|⟨hp6,H⟩
         ·obtain⟨F,G,hq6⟩:=xH Y G hp6
          replace H:=Js H hF1
          refine xT ?_
          exact Jf H (xK ⟨[1,2,3],[4]⟩)
         ·obtain⟨F,G,hq6⟩:=xH Y G hp6
          refine xE ?_
          obtain⟨r10,hr10,H⟩:=Jg H
          have F:=Y
          refine xQ ?_
          refine xs 3 ?_
          refine xc ⟨[1],[]⟩ (tabG 2 (Jet x10 x17 a2 x18 x19 x20 x14 r10 hr10)) ?_
          refine xs 6 ?_
          refine xl ?_
          refine xS ?_
          obtain⟨r11,hr11,H⟩:=Jg H
          have F:=Y
          refine xQ ?_
          refine xs 1 ?_
          refine xc ⟨[1],[]⟩ (tabG 3 (JG a2 r10.2.1 r10.2.2.1 r10.2.2.2 x14 r11 hr11)) ?_
          refine xs 1 ?_
          refine xl ?_
          refine xS ?_
          rcases Jc H with⟨hp7,H⟩|⟨hp7,H⟩
          ·obtain⟨F,G,hq7⟩:=xH Y G hp7
           replace H:=Js H hF1
           refine xT ?_
           exact Jf H (xK ⟨[1,2,3],[4]⟩)
          ·obtain⟨F,G,hq7⟩:=xH Y G hp7
           refine xE ?_
           obtain⟨r12,hr12,H⟩:=Jg H
           have F:=Y
           refine xQ ?_
           refine xs 3 ?_
           refine xc ⟨[1],[]⟩ (tabG 4 (Jah x10 r10.1 false a2 r10.2.1 r10.2.2.1 r10.2.2.2 x14 r12 hr12)) ?_
           refine xs 8 ?_
           refine xl ?_
           refine xS ?_
           obtain⟨hg2,H⟩:=Jj H
           have F:=xZ Y (XL JaC [(⟨2,(-1),[(⟨16,x17,([]:List Node)⟩:Node),(⟨4,r12.1,r12.2.1⟩:Node)]⟩:Node)])
           refine xR ?_
           refine xr ?_
           exact JD (JM H hF1) (xK ⟨[1,2,3],[12]⟩)
       ·obtain⟨F,G,hq5⟩:=xH Y G hp5
        replace H:=Js H hF1
        refine xE ?_
        exact Jf H (xK ⟨[1,2,3],[4]⟩)
     ·rintro ⟨x2,x3,x4,x5,x6,x7,x8⟩ H
      rw[VM]at H
      refine xS ?_
      obtain⟨r7,hr7,H⟩:=Jg H
      have F:=Y
      refine xQ ?_
      refine xs 1 ?_
      refine xc ⟨[1],[]⟩ (tabG 3 (JG a2 x4 x5 x6 x7 r7 hr7)) ?_
      refine xs 1 ?_
      refine xl ?_
      refine xS ?_
      rcases Jc H with⟨hp4,H⟩|⟨hp4,H⟩
      ·obtain⟨F,G,hq4⟩:=xH Y G hp4
       refine xT ?_
       replace H:=Option.some.inj H
       refine xr ?_
       subst H
       refine xrD [] ?_
       exact xO ⟨[1],[4]⟩
      ·obtain⟨F,G,hq4⟩:=xH Y G hp4
       refine xE ?_
       obtain⟨r8,hr8,H⟩:=Jg H
       have F:=Y
       refine xQ ?_
       refine xs 4 ?_
       refine xc ⟨[1],[]⟩ (tabG 6 (JjQ x3 (IntKind.i64.wrap (x2+1)) a2 x4 x5 x6 x7 r8 hr8)) ?_
       refine xs 6 ?_
       refine xl ?_
       refine xS ?_
       obtain⟨hg1,H⟩:=Jj H
       have F:=xZ Y (XL JaC [(⟨5,(-1),r8.1⟩:Node)])
       refine xR ?_
       replace H:=Option.some.inj H
       refine xr ?_
       subst H
       refine xrD [] ?_
       exact xO ⟨[1],[9]⟩
theorem JdR:Jh Try.prog 17∧(∀ g,JaK g→Jx Try.prog 17 g)∧(true=true→∀ g,JaK g→∃ val bs ts,g.out=.ret val bs ts) :=
 ⟨JwJ,JiB,fun _=>by rintro _ ⟨_,_,_,_,_,_,_,_,_,rfl⟩; exact⟨_,_,_,rfl⟩⟩
noncomputable def Xk(a0:List Token)(x1:EB)(x2:Int)(x3:Int)(x4:Int)(x5:Int)(x6:Int)(x7:List Node):Bool→Option ((EB×Int×Int×Int×Int×Int×(List Node)) ⊕ (Node×Fault))
 | x8=>if x8=true then(Jax x1 x2 a0 x3 x4 x5 x6).bind fun r1=>if(x7.length + [(⟨r1.1,r1.2.1,r1.2.2.1⟩:Node)].length) * 40≤140737488355328 then some (.inl (r1.2.2.2.2.1,r1.2.2.2.1,r1.2.2.2.2.2.1,r1.2.2.2.2.2.2.1,r1.2.2.2.2.2.2.2.1,r1.2.2.2.2.2.2.2.2,x7++[(⟨r1.1,r1.2.1,r1.2.2.1⟩:Node)])) else none else inrO ((JT a0 x3 x4 x5 x6).bind fun r2=>if(!r2)=true then some ((⟨0,0,([]:List Node)⟩:Node),(⟨x3,x4,x5⟩:Fault)) else some ((⟨1,(-1),x7⟩:Node),(⟨x3,x4,x5⟩:Fault)))
noncomputable def JcL(a0:List Token):(EB×Int×Int×Int×Int×Int×(List Node))→Option ((EB×Int×Int×Int×Int×Int×(List Node)) ⊕ (Node×Fault))
 | (x1,x2,x3,x4,x5,x6,x7)=>if(ltI x2 (a0.length:Int))=true then(JT a0 x3 x4 x5 x6).bind fun r3=>Xk a0 x1 x2 x3 x4 x5 x6 x7 r3 else Xk a0 x1 x2 x3 x4 x5 x6 x7 false
noncomputable def Jc1(a0:List Token):Option (Node×Fault) :=
 Jt (JcL a0) (([]:EB),0,0,(-1),0,0,([]:List Node))
noncomputable def Jef:PF:=PF.of (E1 (dL 11 Jb)) (fun a=>Jc1 a) (T2 Jp JW)
theorem Jkg:Kl Try.prog 7 Jef:=by
 refine xFl mixed [10,11] [] [(17,true,JaK),(16,true,KH)] trivial ⟨JdR,KJ,trivial⟩ Try.func7 ?_
 rintro a0 out H
 have G:=True.intro
 have Y:=xZ y_3 <| xZ y_22 <| xZ y_24 <| xZ y_26 <| xZ y_27 <| xZ y_29 <| xZ y_44 <| xZ y_50 <| xZ Try.results7 <| xZ J2.eq_1 <| xZ Jb.eq_1 <| xZ Vu <| xZ JW.eq_1 <| xZ JaM.eq_1 <| xZ KI.eq_1 <| xZ JbH <| xZ JaH <| xZ JaE <| xZ JbF <| xZ JbL <| xZ JaG <| xZ JaF <| JbM
 simp only[Jc1]at H
 refine xS ?_
 refine xr ?_
 refine xr ?_
 refine xr ?_
 refine xr ?_
 refine xr ?_
 refine Ke (JcL a0) (fun s=>[(0,.c (.d (.sl 11 (List.map Jb a0)))),(2,.c (.pt 1 0)),(3,.c (.pt 2 0)),(4,.c (.pt 3 0)),(5,.c (.pt 4 0)),(6,.c (.fm (EM Try.prog 52 (cvK s.1)))),(7,.c (.d (.v (.int .i64 s.2.1))))]) (fun s=>[[.d (.v (.int .i64 0)),.d (.v (.int .i64 0)),.sl 3 [] 0],[.d (.v (.int .i64 0)),.d (.v (.int .i64 0)),.d (.v (.int .i64 0))],[.d (.sl 11 (List.map Jb a0)),.d (.v (.int .i64 s.2.2.1)),.d (.v (.int .i64 s.2.2.2.1)),.d (.v (.int .i64 s.2.2.2.2.1)),.d (.v (.int .i64 s.2.2.2.2.2.1))],[.d (.v (.int .i64 1)),.d (.v (.int .i64 (-1))),.sl 3 (List.map Jp s.2.2.2.2.2.2) 5]]) [26] H (xK ⟨[1,2,3,4],[0]⟩) ?_
 rintro n1 ⟨x1,x2,x3,x4,x5,x6,x7⟩ o1 H hF1
 rw[JcL]at H
 refine Zn ?_
 refine JB (Xk a0 x1 x2 x3 x4 x5 x6 x7) (fun s=>[(0,.c (.d (.sl 11 (List.map Jb a0)))),(2,.c (.pt 1 0)),(3,.c (.pt 2 0)),(4,.c (.pt 3 0)),(5,.c (.pt 4 0)),(6,.c (.fm (EM Try.prog 52 (cvK x1)))),(7,.c (.d (.v (.int .i64 x2)))),(24,.c (.d (.v (.bool s))))]) (fun s=>[[.d (.v (.int .i64 0)),.d (.v (.int .i64 0)),.sl 3 [] 0],[.d (.v (.int .i64 0)),.d (.v (.int .i64 0)),.d (.v (.int .i64 0))],[.d (.sl 11 (List.map Jb a0)),.d (.v (.int .i64 x3)),.d (.v (.int .i64 x4)),.d (.v (.int .i64 x5)),.d (.v (.int .i64 x6))],[.d (.v (.int .i64 1)),.d (.v (.int .i64 (-1))),.sl 3 (List.map Jp x7) 5]]) [26] o1 ?_ ?_
 ·rcases Jc H with⟨hp3,H⟩|⟨hp3,H⟩
  ·obtain⟨F,G,hq3⟩:=xH Y G hp3
   obtain⟨r3,hr3,H⟩:=Jg H
   have F:=F
   refine xQ ?_
   refine xs 6 ?_
   refine xc ⟨[3],[]⟩ (tabG 1 (JG a0 x3 x4 x5 x6 r3 hr3)) ?_
   refine xs 1 ?_
   refine xl ?_
   refine xS ?_
   exact Jf H (xK ⟨[1,2,3,4],[5]⟩)
  ·obtain⟨F,G,hq3⟩:=xH Y G hp3
   refine xR ?_
   exact Jf H (xK ⟨[1,2,3,4],[5]⟩)
 ·rintro x8 H
  rw[Xk]at H
  rcases Jc H with⟨hp1,H⟩|⟨hp1,H⟩
  ·obtain⟨F,G,hq1⟩:=xH Y G hp1
   refine xT ?_
   obtain⟨r1,hr1,H⟩:=Jg H
   have F:=Y
   refine xQ ?_
   refine xs 3 ?_
   refine xc ⟨[3],[]⟩ (tabG 0 (JjV x1 x2 a0 x3 x4 x5 x6 r1 hr1)) ?_
   refine xs 8 ?_
   refine xl ?_
   refine xS ?_
   obtain⟨hg1,H⟩:=Jj H
   have F:=xZ Y (XL JaC [(⟨r1.1,r1.2.1,r1.2.2.1⟩:Node)])
   refine xR ?_
   refine xr ?_
   exact JD (JM H hF1) (xK ⟨[1,2,3,4],[9]⟩)
  ·obtain⟨F,G,hq1⟩:=xH Y G hp1
   replace H:=Js H hF1
   refine xE ?_
   obtain⟨r2,hr2,H⟩:=Jg H
   have F:=Y
   refine xQ ?_
   refine xs 1 ?_
   refine xc ⟨[3],[]⟩ (tabG 1 (JG a0 x3 x4 x5 x6 r2 hr2)) ?_
   refine xs 1 ?_
   refine xl ?_
   refine xS ?_
   rcases Jc H with⟨hp2,H⟩|⟨hp2,H⟩
   ·obtain⟨F,G,hq2⟩:=xH Y G hp2
    refine xT ?_
    have F:=Y
    refine xP [0,1,2,3,4,5,6] [48] ⟨JdR,KJ,trivial⟩ ?_
    refine xsX 4 ?_
    refine xaX ?_
    refine xbX ?_
    refine xbX ?_
    refine xlX ?_
    replace H:=Option.some.inj H
    refine xS ?_
    subst H
    exact xN
   ·obtain⟨F,G,hq2⟩:=xH Y G hp2
    refine xE ?_
    have F:=Y
    refine xP [0,1,2,3,4,5,6] [53] ⟨JdR,KJ,trivial⟩ ?_
    refine xsX 4 ?_
    refine xaX ?_
    refine xbX ?_
    refine xbX ?_
    refine xlX ?_
    replace H:=Option.some.inj H
    refine xS ?_
    subst H
    exact xN
theorem JkK(a0:List Token)(r:Node×Fault)(H:Jc1 a0=some r):PC Jef [(dL 11 Jb) a0] (T2 Jp JW r):=PF.c (a:=a0) H
end Go.Proofs.Ytaofbminodhcnaa
