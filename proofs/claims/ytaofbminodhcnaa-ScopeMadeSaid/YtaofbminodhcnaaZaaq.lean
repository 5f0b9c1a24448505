/- Functions of data for functions of the program. Written by dec3.py. -/
import Derived.Test.YtaofbminodhcnaaZaan
set_option linter.unusedVariables false
set_option linter.unusedSimpArgs false
set_option maxHeartbeats 4000000
set_option maxRecDepth 100000
namespace Go.Proofs.Ytaofbminodhcnaa
open Go.RowKit
noncomputable def JO(a0:List Token)(a1:Int)(a2:Int)(a3:Int)(a4:Int):Option Bool :=
 some (eqI a1 0)
noncomputable def KC(a0:List Token)(a1:Int)(a2:Int)(a3:Int)(a4:Int)(r:Bool):GI :=
 ⟨[.c (.pt 1 0)],[[.d (.sl 11 (List.map Jb a0)),.d (.v (.int .i64 a1)),.d (.v (.int .i64 a2)),.d (.v (.int .i64 a3)),.d (.v (.int .i64 a4))]],[],.ret (.c (.d (.v (.bool r)))) [[.d (.sl 11 (List.map Jb a0)),.d (.v (.int .i64 a1)),.d (.v (.int .i64 a2)),.d (.v (.int .i64 a3)),.d (.v (.int .i64 a4))]] []⟩
def KE:GI→Prop:=fun g=>∃ (a0:List Token) (a1:Int) (a2:Int) (a3:Int) (a4:Int) (r:Bool),JO a0 a1 a2 a3 a4=some r∧g=KC a0 a1 a2 a3 a4 r
theorem JE(a0:List Token)(a1:Int)(a2:Int)(a3:Int)(a4:Int)(r:Bool)(H:JO a0 a1 a2 a3 a4=some r):KE (KC a0 a1 a2 a3 a4 r):=⟨a0,a1,a2,a3,a4,r,H,rfl⟩
theorem Jj7:∀ g,KE g→Jx Try.prog 16 g:=by
 rintro _ ⟨a0,a1,a2,a3,a4,r,H,rfl⟩
 refine xGn mixed [] [] [] trivial trivial trivial Try.func16 _ ?_
 have G:=True.intro
 have Y:=xZ y_27 <| xZ y_29 <| xZ y_50 <| xZ Try.results16 <| xZ J9.eq_1 <| xZ Jb.eq_1 <| KC.eq_1
 dsimp only[KC]
 simp only[JO]at H
 refine xS ?_
 refine xr ?_
 replace H:=Option.some.inj H
 refine xr ?_
 subst H
 refine xrD [] ?_
 exact xO ⟨[1],[]⟩
theorem KB:Jf Try.prog 16∧(∀ g,KE g→Jx Try.prog 16 g)∧(true=true→∀ g,KE g→∃ val bs ts,g.out=.ret val bs ts) :=
 ⟨Juk,Jj7,fun _=>by rintro _ ⟨_,_,_,_,_,_,_,rfl⟩; exact⟨_,_,_,rfl⟩⟩
noncomputable def Zd(a0:Int)(a1:List Token):Bool→Option (List UInt8)
 | x1=>if x1=true then if(0:Int)≤a0∧a0.toNat<a1.length then some ((a1.getD a0.toNat default).Text) else none else some []
noncomputable def Jz(a0:Int)(a1:List Token)(a2:Int)(a3:Int)(a4:Int)(a5:Int):Option (List UInt8) :=
 if(ltI a0 (a1.length:Int))=true then if(0:Int)≤a0∧a0.toNat<a1.length then if(eqI ((a1.getD a0.toNat default).Kind) 5)=true then Zd a0 a1 true else if(0:Int)≤a0∧a0.toNat<a1.length then Zd a0 a1 (eqI ((a1.getD a0.toNat default).Kind) 1) else none else none else Zd a0 a1 false
noncomputable def J5(a0:Int)(a1:List Token)(a2:Int)(a3:Int)(a4:Int)(a5:Int)(r:(List UInt8)):GI :=
 ⟨[.c (.pt 1 0),.c (.d (.v (.int .i64 a0)))],[[.d (.sl 11 (List.map Jb a1)),.d (.v (.int .i64 a2)),.d (.v (.int .i64 a3)),.d (.v (.int .i64 a4)),.d (.v (.int .i64 a5))]],[],.ret (.c (.d (.v (str r)))) [[.d (.sl 11 (List.map Jb a1)),.d (.v (.int .i64 a2)),.d (.v (.int .i64 a3)),.d (.v (.int .i64 a4)),.d (.v (.int .i64 a5))]] []⟩
def J6:GI→Prop:=fun g=>∃ (a0:Int) (a1:List Token) (a2:Int) (a3:Int) (a4:Int) (a5:Int) (r:(List UInt8)),Jz a0 a1 a2 a3 a4 a5=some r∧g=J5 a0 a1 a2 a3 a4 a5 r
theorem JB(a0:Int)(a1:List Token)(a2:Int)(a3:Int)(a4:Int)(a5:Int)(r:(List UInt8))(H:Jz a0 a1 a2 a3 a4 a5=some r):J6 (J5 a0 a1 a2 a3 a4 a5 r):=⟨a0,a1,a2,a3,a4,a5,r,H,rfl⟩
theorem JiP:∀ g,J6 g→Jx Try.prog 31 g:=by
 rintro _ ⟨a0,a1,a2,a3,a4,a5,r,H,rfl⟩
 refine xGn mixed [] [] [] trivial trivial trivial Try.func31 _ ?_
 have G:=True.intro
 have Y:=xZ y_3 <| xZ y_9 <| xZ y_22 <| xZ y_44 <| xZ y_50 <| xZ Try.results31 <| xZ J9.eq_1 <| xZ Jb.eq_1 <| J5.eq_1
 dsimp only[J5]
 simp only[Jz]at H
 refine xS ?_
 refine xr0 ?_
 refine Jn ?_
 refine XS ?_
 refine JC (Zd a0 a1) (fun s=>[(0,.c (.pt 1 0)),(1,.c (.d (.v (.int .i64 a0)))),(33,.c (.d (.v (.bool s))))]) (fun s=>[[.d (.sl 11 (List.map Jb a1)),.d (.v (.int .i64 a2)),.d (.v (.int .i64 a3)),.d (.v (.int .i64 a4)),.d (.v (.int .i64 a5))]]) [] r ?_ ?_
 ·rcases Jc H with⟨hp2,H⟩|⟨hp2,H⟩
  ·obtain⟨F,G,hq2⟩:=xH Y G hp2
   obtain⟨hg2,H⟩:=Jg H
   have F:=xZ F (Jt Jb a1 a0.toNat default default (by omega))
   rcases Jc H with⟨hp3,H⟩|⟨hp3,H⟩
   ·obtain⟨F,G,hq3⟩:=xH F G hp3
    refine xR ?_
    exact Jd H (xK ⟨[1],[]⟩)
   ·obtain⟨F,G,hq3⟩:=xH F G hp3
    obtain⟨hg3,H⟩:=Jg H
    have F:=xZ F (Jt Jb a1 a0.toNat default default (by omega))
    refine xR ?_
    exact Jd H (xK ⟨[1],[]⟩)
  ·obtain⟨F,G,hq2⟩:=xH Y G hp2
   refine xR ?_
   exact Jd H (xK ⟨[1],[]⟩)
 ·rintro x1 H
  rw[Zd]at H
  rcases Jc H with⟨hp1,H⟩|⟨hp1,H⟩
  ·obtain⟨F,G,hq1⟩:=xH Y G hp1
   refine xT ?_
   obtain⟨hg1,H⟩:=Jg H
   have F:=xZ Y (Jt Jb a1 a0.toNat default default (by omega))
   replace H:=Option.some.inj H
   refine xR ?_
   subst H
   refine xrD [] ?_
   exact xO ⟨[1],[]⟩
  ·obtain⟨F,G,hq1⟩:=xH Y G hp1
   refine xE ?_
   replace H:=Option.some.inj H
   refine xr ?_
   subst H
   refine xrD [] ?_
   exact xO ⟨[1],[]⟩
theorem Ks:Jf Try.prog 31∧(∀ g,J6 g→Jx Try.prog 31 g)∧(true=true→∀ g,J6 g→∃ val bs ts,g.out=.ret val bs ts) :=
 ⟨JuX,JiP,fun _=>by rintro _ ⟨_,_,_,_,_,_,_,_,rfl⟩; exact⟨_,_,_,rfl⟩⟩
noncomputable def Jay(a0:List (List UInt8))(a1:List UInt8):(Int×Int)→Option ((Int×Int) ⊕ Bool)
 | (x1,x2)=>if(ltI x2 x1)=true then if(0:Int)≤x2∧x2.toNat<a0.length then if(eqS (a0.getD x2.toNat default) a1)=true then inrO (some true) else some (.inl (x1,IntKind.i64.wrap (x2+1))) else none else inrO (some false)
noncomputable def ZH(a0:List (List UInt8))(a1:List UInt8):Option Bool :=
 Jv (Jay a0 a1) ((a0.length:Int),0)
noncomputable def Jaz:PF:=PF.of (E2 (dL 1 dS) dS) (fun a=>ZH a.1 a.2) dB
theorem JcV:Kt Try.prog 26 Jaz:=by
 refine xF mixed [] [] trivial trivial Try.func26 ?_
 rintro ⟨a0,a1⟩ out H
 have G:=True.intro
 have Y:=xZ y_9 <| xZ y_41 <| Try.results26
 simp only[ZH]at H
 refine xS ?_
 refine xr ?_
 refine xr ?_
 refine KI (Jay a0 a1) (fun s=>[(1,.c (.d (.v (str a1)))),(7,.c (.d (.sl 1 (List.map dS a0)))),(8,.c (.d (.v (.int .i64 s.1)))),(9,.c (.d (.v (.int .i64 s.2))))]) (fun s=>[]) [] H (xK ⟨[],[]⟩) ?_
 rintro n1 ⟨x1,x2⟩ o1 H hF1
 rw[Jay]at H
 refine xS ?_
 refine xr ?_
 rcases Jc H with⟨hp1,H⟩|⟨hp1,H⟩
 ·obtain⟨F,G,hq1⟩:=xH Y G hp1
  refine xT ?_
  obtain⟨hg1,H⟩:=Jg H
  have F:=xZ Y (Jt dS a0 x2.toNat default default (by omega))
  refine xR ?_
  refine xr ?_
  rcases Jc H with⟨hp2,H⟩|⟨hp2,H⟩
  ·obtain⟨F,G,hq2⟩:=xH Y G hp2
   refine xT ?_
   replace H:=Jq H hF1
   replace H:=Option.some.inj H
   refine xr ?_
   subst H
   exact xN
  ·obtain⟨F,G,hq2⟩:=xH Y G hp2
   refine xE ?_
   refine xr ?_
   exact JJ (J3 H hF1) (xK ⟨[],[]⟩)
 ·obtain⟨F,G,hq1⟩:=xH Y G hp1
  replace H:=Jq H hF1
  refine xE ?_
  replace H:=Option.some.inj H
  refine xr ?_
  subst H
  exact xN
theorem Jdm(a0:List (List UInt8))(a1:List UInt8)(r:Bool)(H:ZH a0 a1=some r):PC Jaz [(dL 1 dS) a0,dS a1] (dB r):=PF.c (a:=(a0,a1)) H
noncomputable def JbI(a0:List UInt8):Option Bool :=
 (ZH [[105,110,116],[99,104,97,114],[108,111,110,103],[118,111,105,100]] a0).bind fun r1=>some r1
noncomputable def Jd4:PF:=PF.of (E1 dS) (fun a=>JbI a) dB
theorem JjF:Kt Try.prog 47 Jd4:=by
 refine xF mixed [(26,Jaz)] [] ⟨⟨JiI,JcV⟩,trivial⟩ trivial Try.func47 ?_
 rintro a0 out H
 have G:=True.intro
 have Y:=xZ y_9 <| xZ y_41 <| Try.results47
 simp only[JbI]at H
 refine xS ?_
 refine xr ?_
 obtain⟨r1,hr1,H⟩:=Je H
 have F:=xC Y (Jdm [[105,110,116],[99,104,97,114],[108,111,110,103],[118,111,105,100]] a0 r1 hr1)
 replace H:=Option.some.inj H
 refine xR ?_
 subst H
 exact xN
theorem Jko(a0:List UInt8)(r:Bool)(H:JbI a0=some r):PC Jd4 [dS a0] (dB r):=PF.c (a:=a0) H
noncomputable def Zl:Bool→Option Bool
 | x1=>some x1
noncomputable def Xx(a0:EB)(a1:Int)(a2:List Token)(a3:Int)(a4:Int)(a5:Int)(a6:Int):Option Bool :=
 (Jz a1 a2 a3 a4 a5 a6).bind fun r1=>(JbI r1).bind fun r2=>if r2=true then Zl true else(Jz a1 a2 a3 a4 a5 a6).bind fun r3=>if r3.length≤9223372036854775807 then Zl (ebV a0 r3) else none
noncomputable def XP(a0:EB)(a1:Int)(a2:List Token)(a3:Int)(a4:Int)(a5:Int)(a6:Int)(r:Bool):GI :=
 ⟨[.c (.pt 1 0),.c (.fm (EM Try.prog 52 (cvK a0))),.c (.d (.v (.int .i64 a1)))],[[.d (.sl 11 (List.map Jb a2)),.d (.v (.int .i64 a3)),.d (.v (.int .i64 a4)),.d (.v (.int .i64 a5)),.d (.v (.int .i64 a6))]],[],.ret (.c (.d (.v (.bool r)))) [[.d (.sl 11 (List.map Jb a2)),.d (.v (.int .i64 a3)),.d (.v (.int .i64 a4)),.d (.v (.int .i64 a5)),.d (.v (.int .i64 a6))]] []⟩
def Xz:GI→Prop:=fun g=>∃ (a0:EB) (a1:Int) (a2:List Token) (a3:Int) (a4:Int) (a5:Int) (a6:Int) (r:Bool),Xx a0 a1 a2 a3 a4 a5 a6=some r∧g=XP a0 a1 a2 a3 a4 a5 a6 r
theorem JeG(a0:EB)(a1:Int)(a2:List Token)(a3:Int)(a4:Int)(a5:Int)(a6:Int)(r:Bool)(H:Xx a0 a1 a2 a3 a4 a5 a6=some r):Xz (XP a0 a1 a2 a3 a4 a5 a6 r):=⟨a0,a1,a2,a3,a4,a5,a6,r,H,rfl⟩
theorem Jho:∀ g,Xz g→Jx Try.prog 56 g:=by
 rintro _ ⟨a0,a1,a2,a3,a4,a5,a6,r,H,rfl⟩
 refine xGn mixed [(47,Jd4)] [(31,true,J6)] [] ⟨⟨Ju1,JjF⟩,trivial⟩ ⟨Ks,trivial⟩ trivial Try.func56 _ ?_
 have G:=True.intro
 have Y:=xZ Try.results56 <| xZ J9.eq_1 <| xZ Jb.eq_1 <| xZ J5.eq_1 <| xZ XP.eq_1 <| xZ Jdy <| xZ JcI <| xZ JcK <| xZ Jdx <| xZ JdE <| xZ Jcx <| xZ Jcz <| JdK
 dsimp only[XP]
 simp only[Xx]at H
 refine xS ?_
 refine xr0 ?_
 refine Jn ?_
 refine JC Zl (fun s=>[(6,.c (.d (.v (.bool s))))]) (fun s=>[[.d (.sl 11 (List.map Jb a2)),.d (.v (.int .i64 a3)),.d (.v (.int .i64 a4)),.d (.v (.int .i64 a5)),.d (.v (.int .i64 a6))]]) [] r ?_ ?_
 ·obtain⟨r1,hr1,H⟩:=Je H
  have F:=Y
  obtain⟨r2,hr2,H⟩:=Je H
  have F:=xCf F (Jko r1 r2 hr2)
  rcases Jc H with⟨hp1,H⟩|⟨hp1,H⟩
  ·obtain⟨F,G,hq1⟩:=xH F G hp1
   refine xQ ?_
   refine xs 2 ?_
   refine xc ⟨[1],[]⟩ (tabG 0 (JB a1 a2 a3 a4 a5 a6 r1 hr1)) ?_
   refine xs 9 ?_
   refine xl ?_
   refine xS ?_
   exact Jd H (xK ⟨[1],[]⟩)
  ·obtain⟨F,G,hq1⟩:=xH F G hp1
   obtain⟨r3,hr3,H⟩:=Je H
   have F:=F
   obtain⟨hg1,H⟩:=Jg H
   refine xQ ?_
   refine xs 2 ?_
   refine xc ⟨[1],[]⟩ (tabG 0 (JB a1 a2 a3 a4 a5 a6 r1 hr1)) ?_
   refine xs 5 ?_
   refine xc ⟨[1],[]⟩ (tabG 0 (JB a1 a2 a3 a4 a5 a6 r3 hr3)) ?_
   refine xs 3 ?_
   refine xl ?_
   refine xS ?_
   exact Jd H (xK ⟨[1],[]⟩)
 ·rintro x1 H
  rw[Zl]at H
  replace H:=Option.some.inj H
  refine xS ?_
  subst H
  refine xrD [] ?_
  exact xO ⟨[1],[]⟩
theorem JeN:Jf Try.prog 56∧(∀ g,Xz g→Jx Try.prog 56 g)∧(true=true→∀ g,Xz g→∃ val bs ts,g.out=.ret val bs ts) :=
 ⟨JuD,Jho,fun _=>by rintro _ ⟨_,_,_,_,_,_,_,_,_,rfl⟩; exact⟨_,_,_,rfl⟩⟩
noncomputable def JdM(a0:List Token)(a1:Int)(a2:Int):Option Fault :=
 if(ltI a1 (a0.length:Int))=true then if(0:Int)≤a1∧a1.toNat<a0.length then if(0:Int)≤a1∧a1.toNat<a0.length then some (⟨a2,(a0.getD a1.toNat default).File,(a0.getD a1.toNat default).At⟩:Fault) else none else none else if(ltI 0 (a0.length:Int))=true then if(0:Int)≤(IntKind.i64.wrap ((a0.length:Int)-1))∧(IntKind.i64.wrap ((a0.length:Int)-1)).toNat<a0.length then some (⟨a2,(a0.getD ((IntKind.i64.wrap ((a0.length:Int)-1)).toNat) default).File,(a0.getD ((IntKind.i64.wrap ((a0.length:Int)-1)).toNat) default).End⟩:Fault) else none else some (⟨a2,(-1),0⟩:Fault)
noncomputable def JeY:PF:=PF.of (E3 (dL 11 Jb) dI dI) (fun a=>JdM a.1 a.2.1 a.2.2) Kh
theorem JmT:Kt Try.prog 77 JeY:=by
 refine xF mixed [] [] trivial trivial Try.func77 ?_
 rintro ⟨a0,a1,a2⟩ out H
 have G:=True.intro
 have Y:=xZ y_3 <| xZ y_22 <| xZ y_27 <| xZ y_29 <| xZ y_44 <| xZ Try.results77 <| xZ J9.eq_1 <| xZ Jb.eq_1 <| Kh.eq_1
 simp only[JdM]at H
 refine xS ?_
 refine xr ?_
 refine xr ?_
 rcases Jc H with⟨hp1,H⟩|⟨hp1,H⟩
 ·obtain⟨F,G,hq1⟩:=xH Y G hp1
  refine xT ?_
  obtain⟨hg1,H⟩:=Jg H
  have F:=xZ Y (Jt Jb a0 a1.toNat default default (by omega))
  obtain⟨hg2,H⟩:=Jg H
  have F:=xZ F (Jt Jb a0 a1.toNat default default (by omega))
  replace H:=Option.some.inj H
  refine xR ?_
  subst H
  exact xN
 ·obtain⟨F,G,hq1⟩:=xH Y G hp1
  refine xE ?_
  refine xr ?_
  rcases Jc H with⟨hp2,H⟩|⟨hp2,H⟩
  ·obtain⟨F,G,hq2⟩:=xH Y G hp2
   refine xT ?_
   obtain⟨hg3,H⟩:=Jg H
   have F:=xZ Y (Jt Jb a0 ((IntKind.i64.wrap ((a0.length:Int)-1)).toNat) default default (by omega))
   refine xR ?_
   replace H:=Option.some.inj H
   refine xr ?_
   subst H
   exact xN
  ·obtain⟨F,G,hq2⟩:=xH Y G hp2
   refine xE ?_
   replace H:=Option.some.inj H
   refine xr ?_
   subst H
   exact xN
theorem Jof(a0:List Token)(a1:Int)(a2:Int)(r:Fault)(H:JdM a0 a1 a2=some r):PC JeY [(dL 11 Jb) a0,dI a1,dI a2] (Kh r):=PF.c (a:=(a0,a1,a2)) H
noncomputable def Vm(a0:Int)(a1:Int)(a2:List Token)(a3:Int)(a4:Int)(a5:Int)(a6:Int):Option (Int×Int×Int) :=
 if(eqI a3 0)=true then(JdM a2 a0 a1).bind fun r1=>some (r1.Err,r1.File,r1.At) else some (a3,a4,a5)
noncomputable def Vg(a0:Int)(a1:Int)(a2:List Token)(a3:Int)(a4:Int)(a5:Int)(a6:Int)(r:(Int×Int×Int)):GI :=
 ⟨[.c (.pt 1 0),.c (.d (.v (.int .i64 a0))),.c (.d (.v (.int .i64 a1)))],[[.d (.sl 11 (List.map Jb a2)),.d (.v (.int .i64 a3)),.d (.v (.int .i64 a4)),.d (.v (.int .i64 a5)),.d (.v (.int .i64 a6))]],[],.ret (.tu []) [[.d (.sl 11 (List.map Jb a2)),.d (.v (.int .i64 r.1)),.d (.v (.int .i64 r.2.1)),.d (.v (.int .i64 r.2.2)),.d (.v (.int .i64 a6))]] []⟩
def Vc:GI→Prop:=fun g=>∃ (a0:Int) (a1:Int) (a2:List Token) (a3:Int) (a4:Int) (a5:Int) (a6:Int) (r:(Int×Int×Int)),Vm a0 a1 a2 a3 a4 a5 a6=some r∧g=Vg a0 a1 a2 a3 a4 a5 a6 r
theorem Zp(a0:Int)(a1:Int)(a2:List Token)(a3:Int)(a4:Int)(a5:Int)(a6:Int)(r:(Int×Int×Int))(H:Vm a0 a1 a2 a3 a4 a5 a6=some r):Vc (Vg a0 a1 a2 a3 a4 a5 a6 r):=⟨a0,a1,a2,a3,a4,a5,a6,r,H,rfl⟩
theorem JiN:∀ g,Vc g→Jx Try.prog 57 g:=by
 rintro _ ⟨a0,a1,a2,a3,a4,a5,a6,r,H,rfl⟩
 refine xGn mixed [(77,JeY)] [] [] ⟨⟨JuH,JmT⟩,trivial⟩ trivial trivial Try.func57 _ ?_
 have G:=True.intro
 have Y:=xZ y_22 <| xZ y_27 <| xZ y_29 <| xZ y_50 <| xZ Try.results57 <| xZ J9.eq_1 <| xZ Jb.eq_1 <| xZ Kh.eq_1 <| Vg.eq_1
 dsimp only[Vg]
 simp only[Vm]at H
 refine xS ?_
 refine xr ?_
 rcases Jc H with⟨hp1,H⟩|⟨hp1,H⟩
 ·obtain⟨F,G,hq1⟩:=xH Y G hp1
  refine xT ?_
  obtain⟨r1,hr1,H⟩:=Je H
  have F:=xC Y (Jof a2 a0 a1 r1 hr1)
  replace H:=Option.some.inj H
  refine xR ?_
  subst H
  refine xnD [] ?_
  exact xO ⟨[1],[]⟩
 ·obtain⟨F,G,hq1⟩:=xH Y G hp1
  replace H:=Option.some.inj H
  refine xE ?_
  subst H
  refine xnD [] ?_
  exact xO ⟨[1],[]⟩
theorem Zo:Jf Try.prog 57∧(∀ g,Vc g→Jx Try.prog 57 g)∧(true=true→∀ g,Vc g→∃ val bs ts,g.out=.ret val bs ts) :=
 ⟨Jt2,JiN,fun _=>by rintro _ ⟨_,_,_,_,_,_,_,_,_,rfl⟩; exact⟨_,_,_,rfl⟩⟩
noncomputable def Jaa(a1:Int):(Int×Int×Int)→Option (Int×Int×Int×Int)
 | (x1,x2,x3)=>some (IntKind.i64.wrap (a1+1),x1,x2,x3)
noncomputable def Xd(a0:EB)(a1:Int)(a2:List Token)(a3:Int)(a4:Int)(a5:Int)(a6:Int):Option (Int×Int×Int×Int) :=
 (Xx a0 a1 a2 a3 a4 a5 a6).bind fun r1=>if(!r1)=true then(Vm a1 2 a2 a3 a4 a5 a6).bind fun r2=>Jaa a1 (r2.1,r2.2.1,r2.2.2) else Jaa a1 (a3,a4,a5)
noncomputable def ZF(a0:EB)(a1:Int)(a2:List Token)(a3:Int)(a4:Int)(a5:Int)(a6:Int)(r:(Int×Int×Int×Int)):GI :=
 ⟨[.c (.pt 1 0),.c (.fm (EM Try.prog 52 (cvK a0))),.c (.d (.v (.int .i64 a1)))],[[.d (.sl 11 (List.map Jb a2)),.d (.v (.int .i64 a3)),.d (.v (.int .i64 a4)),.d (.v (.int .i64 a5)),.d (.v (.int .i64 a6))]],[],.ret (.tu [(true,[.d (.v (.int .i64 16)),.d (.v (.int .i64 a1)),.sl 3 [] 0]),(false,[.d (.v (.int .i64 r.1))])]) [[.d (.sl 11 (List.map Jb a2)),.d (.v (.int .i64 r.2.1)),.d (.v (.int .i64 r.2.2.1)),.d (.v (.int .i64 r.2.2.2)),.d (.v (.int .i64 a6))]] []⟩
def ZG:GI→Prop:=fun g=>∃ (a0:EB) (a1:Int) (a2:List Token) (a3:Int) (a4:Int) (a5:Int) (a6:Int) (r:(Int×Int×Int×Int)),Xd a0 a1 a2 a3 a4 a5 a6=some r∧g=ZF a0 a1 a2 a3 a4 a5 a6 r
theorem Jdp(a0:EB)(a1:Int)(a2:List Token)(a3:Int)(a4:Int)(a5:Int)(a6:Int)(r:(Int×Int×Int×Int))(H:Xd a0 a1 a2 a3 a4 a5 a6=some r):ZG (ZF a0 a1 a2 a3 a4 a5 a6 r):=⟨a0,a1,a2,a3,a4,a5,a6,r,H,rfl⟩
theorem Ji1:∀ g,ZG g→Jx Try.prog 33 g:=by
 rintro _ ⟨a0,a1,a2,a3,a4,a5,a6,r,H,rfl⟩
 refine xGn mixed [] [(56,true,Xz),(57,true,Vc)] [] trivial ⟨JeN,Zo,trivial⟩ trivial Try.func33 _ ?_
 have G:=True.intro
 have Y:=xZ y_3 <| xZ y_24 <| xZ y_26 <| xZ Try.results33 <| xZ J9.eq_1 <| xZ Jb.eq_1 <| xZ Vn <| xZ Kh.eq_1 <| xZ XP.eq_1 <| xZ Vg.eq_1 <| ZF.eq_1
 dsimp only[ZF]
 simp only[Xd]at H
 refine xS ?_
 refine xr0 ?_
 refine Jn ?_
 refine JC (Jaa a1) (fun s=>[(2,.c (.d (.v (.int .i64 a1)))),(6,.c (.pt 2 0))]) (fun s=>[[.d (.sl 11 (List.map Jb a2)),.d (.v (.int .i64 s.1)),.d (.v (.int .i64 s.2.1)),.d (.v (.int .i64 s.2.2)),.d (.v (.int .i64 a6))],[.d (.v (.int .i64 0)),.d (.v (.int .i64 0)),.sl 3 [] 0]]) [] r ?_ ?_
 ·refine xS ?_
  obtain⟨r1,hr1,H⟩:=Je H
  have F:=Y
  refine xQ ?_
  refine xs 3 ?_
  refine xc ⟨[1],[]⟩ (tabG 0 (JeG a0 a1 a2 a3 a4 a5 a6 r1 hr1)) ?_
  refine xs 1 ?_
  refine xl ?_
  refine xS ?_
  rcases Jc H with⟨hp1,H⟩|⟨hp1,H⟩
  ·obtain⟨F,G,hq1⟩:=xH Y G hp1
   refine xT ?_
   obtain⟨r2,hr2,H⟩:=Je H
   have F:=Y
   refine xQ ?_
   refine xs 2 ?_
   refine xc ⟨[1],[]⟩ (tabG 1 (Zp a1 2 a2 a3 a4 a5 a6 r2 hr2)) ?_
   refine xl ?_
   refine xS ?_
   exact Jd H (xK ⟨[1,2],[]⟩)
  ·obtain⟨F,G,hq1⟩:=xH Y G hp1
   refine xE ?_
   exact Jd H (xK ⟨[1,2],[]⟩)
 ·rintro ⟨x1,x2,x3⟩ H
  rw[Jaa]at H
  refine xS ?_
  replace H:=Option.some.inj H
  refine xr ?_
  subst H
  refine xrD [] ?_
  exact xO ⟨[1],[]⟩
theorem Jfj:Jf Try.prog 33∧(∀ g,ZG g→Jx Try.prog 33 g)∧(true=true→∀ g,ZG g→∃ val bs ts,g.out=.ret val bs ts) :=
 ⟨JuZ,Ji1,fun _=>by rintro _ ⟨_,_,_,_,_,_,_,_,_,rfl⟩; exact⟨_,_,_,rfl⟩⟩
noncomputable def Jcj(a0:List UInt8):Option Bool :=
 (ZH [[105,110,116],[99,104,97,114],[108,111,110,103],[118,111,105,100],[116,121,112,101,100,101,102],[105,102],[101,108,115,101],[119,104,105,108,101],[114,101,116,117,114,110]] a0).bind fun r1=>some r1
noncomputable def Jev:PF:=PF.of (E1 dS) (fun a=>Jcj a) dB
theorem Jkq:Kt Try.prog 14 Jev:=by
 refine xF mixed [(26,Jaz)] [] ⟨⟨JiI,JcV⟩,trivial⟩ trivial Try.func14 ?_
 rintro a0 out H
 have G:=True.intro
 have Y:=xZ y_9 <| xZ y_41 <| Try.results14
 simp only[Jcj]at H
 refine xS ?_
 refine xr ?_
 obtain⟨r1,hr1,H⟩:=Je H
 have F:=xC Y (Jdm [[105,110,116],[99,104,97,114],[108,111,110,103],[118,111,105,100],[116,121,112,101,100,101,102],[105,102],[101,108,115,101],[119,104,105,108,101],[114,101,116,117,114,110]] a0 r1 hr1)
 replace H:=Option.some.inj H
 refine xR ?_
 subst H
 exact xN
theorem JmZ(a0:List UInt8)(r:Bool)(H:Jcj a0=some r):PC Jev [dS a0] (dB r):=PF.c (a:=a0) H
noncomputable def V2(a0:Int)(a1:List Token)(a2:Int)(a3:Int)(a4:Int)(a5:Int):Bool→Option (Int×Int×Int)
 | x1=>if x1=true then(Vm a0 2 a1 a2 a3 a4 a5).bind fun r1=>some (r1.1,r1.2.1,r1.2.2) else some (a2,a3,a4)
noncomputable def Vr(a0:Int)(a1:List Token)(a2:Int)(a3:Int)(a4:Int)(a5:Int):Option (Int×Int×Int) :=
 if(leI (a1.length:Int) a0)=true then V2 a0 a1 a2 a3 a4 a5 true else if(0:Int)≤a0∧a0.toNat<a1.length then if(!eqI ((a1.getD a0.toNat default).Kind) 1)=true then V2 a0 a1 a2 a3 a4 a5 true else if(0:Int)≤a0∧a0.toNat<a1.length then(Jcj ((a1.getD a0.toNat default).Text)).bind fun r2=>V2 a0 a1 a2 a3 a4 a5 r2 else none else none
noncomputable def Zc(a0:Int)(a1:List Token)(a2:Int)(a3:Int)(a4:Int)(a5:Int)(r:(Int×Int×Int)):GI :=
 ⟨[.c (.pt 1 0),.c (.d (.v (.int .i64 a0)))],[[.d (.sl 11 (List.map Jb a1)),.d (.v (.int .i64 a2)),.d (.v (.int .i64 a3)),.d (.v (.int .i64 a4)),.d (.v (.int .i64 a5))]],[],.ret (.tu []) [[.d (.sl 11 (List.map Jb a1)),.d (.v (.int .i64 r.1)),.d (.v (.int .i64 r.2.1)),.d (.v (.int .i64 r.2.2)),.d (.v (.int .i64 a5))]] []⟩
def X4:GI→Prop:=fun g=>∃ (a0:Int) (a1:List Token) (a2:Int) (a3:Int) (a4:Int) (a5:Int) (r:(Int×Int×Int)),Vr a0 a1 a2 a3 a4 a5=some r∧g=Zc a0 a1 a2 a3 a4 a5 r
theorem Je4(a0:Int)(a1:List Token)(a2:Int)(a3:Int)(a4:Int)(a5:Int)(r:(Int×Int×Int))(H:Vr a0 a1 a2 a3 a4 a5=some r):X4 (Zc a0 a1 a2 a3 a4 a5 r):=⟨a0,a1,a2,a3,a4,a5,r,H,rfl⟩
theorem Jhx:∀ g,X4 g→Jx Try.prog 58 g:=by
 rintro _ ⟨a0,a1,a2,a3,a4,a5,r,H,rfl⟩
 refine xGn mixed [(14,Jev)] [(57,true,Vc)] [] ⟨⟨JtU,Jkq⟩,trivial⟩ ⟨Zo,trivial⟩ trivial Try.func58 _ ?_
 have G:=True.intro
 have Y:=xZ y_3 <| xZ y_9 <| xZ y_22 <| xZ y_44 <| xZ y_50 <| xZ Try.results58 <| xZ J9.eq_1 <| xZ Jb.eq_1 <| xZ Kh.eq_1 <| xZ Vg.eq_1 <| Zc.eq_1
 dsimp only[Zc]
 simp only[Vr]at H
 refine JC (V2 a0 a1 a2 a3 a4 a5) (fun s=>[(0,.c (.pt 1 0)),(1,.c (.d (.v (.int .i64 a0)))),(32,.c (.d (.v (.bool s))))]) (fun s=>[[.d (.sl 11 (List.map Jb a1)),.d (.v (.int .i64 a2)),.d (.v (.int .i64 a3)),.d (.v (.int .i64 a4)),.d (.v (.int .i64 a5))]]) [] r ?_ ?_
 ·rcases Jc H with⟨hp2,H⟩|⟨hp2,H⟩
  ·obtain⟨F,G,hq2⟩:=xH Y G hp2
   refine xR ?_
   exact Jd H (xK ⟨[1],[]⟩)
  ·obtain⟨F,G,hq2⟩:=xH Y G hp2
   obtain⟨hg1,H⟩:=Jg H
   have F:=xZ F (Jt Jb a1 a0.toNat default default (by omega))
   rcases Jc H with⟨hp3,H⟩|⟨hp3,H⟩
   ·obtain⟨F,G,hq3⟩:=xH F G hp3
    refine xR ?_
    exact Jd H (xK ⟨[1],[]⟩)
   ·obtain⟨F,G,hq3⟩:=xH F G hp3
    obtain⟨hg2,H⟩:=Jg H
    have F:=xZ F (Jt Jb a1 a0.toNat default default (by omega))
    obtain⟨r2,hr2,H⟩:=Je H
    have F:=xCf F (JmZ ((a1.getD a0.toNat default).Text) r2 hr2)
    refine xR ?_
    exact Jd H (xK ⟨[1],[]⟩)
 ·rintro x1 H
  rw[V2]at H
  rcases Jc H with⟨hp1,H⟩|⟨hp1,H⟩
  ·obtain⟨F,G,hq1⟩:=xH Y G hp1
   refine xT ?_
   obtain⟨r1,hr1,H⟩:=Je H
   have F:=Y
   refine xQ ?_
   refine xs 2 ?_
   refine xc ⟨[1],[]⟩ (tabG 0 (Zp a0 2 a1 a2 a3 a4 a5 r1 hr1)) ?_
   refine xl ?_
   replace H:=Option.some.inj H
   refine xS ?_
   subst H
   refine xnD [] ?_
   exact xO ⟨[1],[]⟩
  ·obtain⟨F,G,hq1⟩:=xH Y G hp1
   replace H:=Option.some.inj H
   refine xE ?_
   subst H
   refine xnD [] ?_
   exact xO ⟨[1],[]⟩
theorem JcZ:Jf Try.prog 58∧(∀ g,X4 g→Jx Try.prog 58 g)∧(true=true→∀ g,X4 g→∃ val bs ts,g.out=.ret val bs ts) :=
 ⟨Jum,Jhx,fun _=>by rintro _ ⟨_,_,_,_,_,_,_,_,rfl⟩; exact⟨_,_,_,rfl⟩⟩
noncomputable def XO(a1:List Token)(a5:Int):(Int×Int×Int)→Option (Bool×Int×Int×Int×Int)
 | (x1,x2,x3)=>(JO a1 x1 x2 x3 (IntKind.i64.wrap (a5+1))).bind fun r1=>some (r1,x1,x2,x3,(IntKind.i64.wrap (a5+1)))
noncomputable def KK(a0:Int)(a1:List Token)(a2:Int)(a3:Int)(a4:Int)(a5:Int):Option (Bool×Int×Int×Int×Int) :=
 if(leI 30 a5)=true then(Vm a0 10 a1 a2 a3 a4 a5).bind fun r2=>XO a1 a5 (r2.1,r2.2.1,r2.2.2) else XO a1 a5 (a2,a3,a4)
noncomputable def VJ(a0:Int)(a1:List Token)(a2:Int)(a3:Int)(a4:Int)(a5:Int)(r:(Bool×Int×Int×Int×Int)):GI :=
 ⟨[.c (.pt 1 0),.c (.d (.v (.int .i64 a0)))],[[.d (.sl 11 (List.map Jb a1)),.d (.v (.int .i64 a2)),.d (.v (.int .i64 a3)),.d (.v (.int .i64 a4)),.d (.v (.int .i64 a5))]],[],.ret (.c (.d (.v (.bool r.1)))) [[.d (.sl 11 (List.map Jb a1)),.d (.v (.int .i64 r.2.1)),.d (.v (.int .i64 r.2.2.1)),.d (.v (.int .i64 r.2.2.2.1)),.d (.v (.int .i64 r.2.2.2.2))]] []⟩
def VM:GI→Prop:=fun g=>∃ (a0:Int) (a1:List Token) (a2:Int) (a3:Int) (a4:Int) (a5:Int) (r:(Bool×Int×Int×Int×Int)),KK a0 a1 a2 a3 a4 a5=some r∧g=VJ a0 a1 a2 a3 a4 a5 r
theorem Jbu(a0:Int)(a1:List Token)(a2:Int)(a3:Int)(a4:Int)(a5:Int)(r:(Bool×Int×Int×Int×Int))(H:KK a0 a1 a2 a3 a4 a5=some r):VM (VJ a0 a1 a2 a3 a4 a5 r):=⟨a0,a1,a2,a3,a4,a5,r,H,rfl⟩
theorem Jh6:∀ g,VM g→Jx Try.prog 61 g:=by
 rintro _ ⟨a0,a1,a2,a3,a4,a5,r,H,rfl⟩
 refine xGn mixed [] [(16,true,KE),(57,true,Vc)] [] trivial ⟨KB,Zo,trivial⟩ trivial Try.func61 _ ?_
 have G:=True.intro
 have Y:=xZ y_3 <| xZ y_50 <| xZ Try.results61 <| xZ J9.eq_1 <| xZ Jb.eq_1 <| xZ Kh.eq_1 <| xZ KC.eq_1 <| xZ Vg.eq_1 <| VJ.eq_1
 dsimp only[VJ]
 simp only[KK]at H
 refine xS ?_
 refine xr0 ?_
 refine Jn ?_
 refine JC (XO a1 a5) (fun s=>[(0,.c (.pt 1 0))]) (fun s=>[[.d (.sl 11 (List.map Jb a1)),.d (.v (.int .i64 s.1)),.d (.v (.int .i64 s.2.1)),.d (.v (.int .i64 s.2.2)),.d (.v (.int .i64 a5))]]) [] r ?_ ?_
 ·refine xS ?_
  refine xr ?_
  rcases Jc H with⟨hp1,H⟩|⟨hp1,H⟩
  ·obtain⟨F,G,hq1⟩:=xH Y G hp1
   refine xT ?_
   obtain⟨r2,hr2,H⟩:=Je H
   have F:=Y
   refine xQ ?_
   refine xs 2 ?_
   refine xc ⟨[1],[]⟩ (tabG 1 (Zp a0 10 a1 a2 a3 a4 a5 r2 hr2)) ?_
   refine xl ?_
   refine xS ?_
   exact Jd H (xK ⟨[1],[]⟩)
  ·obtain⟨F,G,hq1⟩:=xH Y G hp1
   refine xE ?_
   exact Jd H (xK ⟨[1],[]⟩)
 ·rintro ⟨x1,x2,x3⟩ H
  rw[XO]at H
  refine xS ?_
  refine xr ?_
  obtain⟨r1,hr1,H⟩:=Je H
  have F:=Y
  refine xQ ?_
  refine xs 1 ?_
  refine xc ⟨[1],[]⟩ (tabG 0 (JE a1 x1 x2 x3 (IntKind.i64.wrap (a5+1)) r1 hr1)) ?_
  refine xs 1 ?_
  refine xl ?_
  replace H:=Option.some.inj H
  refine xS ?_
  subst H
  refine xrD [] ?_
  exact xO ⟨[1],[]⟩
theorem JbA:Jf Try.prog 61∧(∀ g,VM g→Jx Try.prog 61 g)∧(true=true→∀ g,VM g→∃ val bs ts,g.out=.ret val bs ts) :=
 ⟨JtM,Jh6,fun _=>by rintro _ ⟨_,_,_,_,_,_,_,_,rfl⟩; exact⟨_,_,_,rfl⟩⟩
noncomputable def JcS  : Option (List (List (List UInt8))) :=
 some [[[44]],[[61],[43,61],[45,61],[42,61],[47,61],[37,61],[38,61],[124,61],[94,61],[60,60,61],[62,62,61]],[[124,124]],[[38,38]],[[124]],[[94]],[[38]],[[61,61],[33,61]],[[60],[62],[60,61],[62,61]],[[60,60],[62,62]],[[43],[45]],[[42],[47],[37]]]
noncomputable def Jc1:PF:=PF.of E0 (fun _=>JcS) (dL 1 (dL 1 dS))
theorem JiZ:Kt Try.prog 86 Jc1:=by
 refine xF mixed [] [] trivial trivial Try.func86 ?_
 rintro _ out H
 have G:=True.intro
 have Y:=xZ y_9 <| xZ y_41 <| xZ Jto <| Try.results86
 simp only[JcS]at H
 refine xS ?_
 refine xr ?_
 replace H:=Option.some.inj H
 refine xr ?_
 subst H
 exact xN
theorem Jjr  (r:(List (List (List UInt8)))) (H:JcS  = some r):PC Jc1 [] ((dL 1 (dL 1 dS)) r):=PF.c (a:=()) H
noncomputable def JaJ(x1:Int)(x2:Int):Bool→Option ((Int×Int) ⊕ Int)
 | x3=>if x3=true then inrO (some x2) else some (.inl (x1,IntKind.i64.wrap (x2+1)))
noncomputable def ZD(a0:List UInt8)(r1:(List (List (List UInt8)))):(Int×Int)→Option ((Int×Int) ⊕ Int)
 | (x1,x2)=>if(ltI x2 x1)=true then if(0:Int)≤x2∧x2.toNat<r1.length then if(!eqS a0 [])=true then(ZH (r1.getD x2.toNat default) a0).bind fun r2=>JaJ x1 x2 r2 else JaJ x1 x2 false else none else inrO (some (-1))
noncomputable def Jca(a0:List UInt8):Option Int :=
 (JcS).bind fun r1=>Jv (ZD a0 r1) ((r1.length:Int),0)
noncomputable def Jdw:PF:=PF.of (E1 dS) (fun a=>Jca a) dI
theorem Jje:Kt Try.prog 79 Jdw:=by
 refine xF mixed [(86,Jc1),(26,Jaz)] [] ⟨⟨JuI,JiZ⟩,⟨JiI,JcV⟩,trivial⟩ trivial Try.func79 ?_
 rintro a0 out H
 have G:=True.intro
 have Y:=xZ y_41 <| xZ Jto <| Try.results79
 simp only[Jca]at H
 refine xS ?_
 refine xr ?_
 obtain⟨r1,hr1,H⟩:=Je H
 have F:=xC Y (Jjr  r1 hr1)
 refine xR ?_
 refine KI (ZD a0 r1) (fun s=>[(0,.c (.d (.v (str a0)))),(5,.c (.d (.sl 1 (List.map (dL 1 dS) r1)))),(6,.c (.d (.v (.int .i64 s.1)))),(7,.c (.d (.v (.int .i64 s.2))))]) (fun s=>[]) [] H (xK ⟨[],[]⟩) ?_
 rintro n1 ⟨x1,x2⟩ o1 H hF1
 rw[ZD]at H
 refine xS ?_
 refine xr ?_
 rcases Jc H with⟨hp1,H⟩|⟨hp1,H⟩
 ·obtain⟨F,G,hq1⟩:=xH Y G hp1
  refine xT ?_
  obtain⟨hg1,H⟩:=Jg H
  have F:=xZ Y (Jt (dL 1 dS) r1 x2.toNat default default (by omega))
  refine xR0 ?_
  refine Jn ?_
  refine JC (JaJ x1 x2) (fun s=>[(0,.c (.d (.v (str a0)))),(3,.c (.d (.v (.int .i64 x2)))),(5,.c (.d (.sl 1 (List.map (dL 1 dS) r1)))),(6,.c (.d (.v (.int .i64 x1)))),(7,.c (.d (.v (.int .i64 x2)))),(18,.c (.d (.v (.bool s))))]) (fun s=>[]) [] o1 ?_ ?_
  ·rcases Jc H with⟨hp3,H⟩|⟨hp3,H⟩
   ·obtain⟨F,G,hq3⟩:=xH Y G hp3
    obtain⟨r2,hr2,H⟩:=Je H
    have F:=xCf F (Jdm (r1.getD x2.toNat default) a0 r2 hr2)
    refine xR ?_
    exact Jd H (xK ⟨[],[]⟩)
   ·obtain⟨F,G,hq3⟩:=xH Y G hp3
    refine xR ?_
    exact Jd H (xK ⟨[],[]⟩)
  ·rintro x3 H
   rw[JaJ]at H
   rcases Jc H with⟨hp2,H⟩|⟨hp2,H⟩
   ·obtain⟨F,G,hq2⟩:=xH Y G hp2
    refine xT ?_
    replace H:=Jq H hF1
    replace H:=Option.some.inj H
    refine xr ?_
    subst H
    exact xN
   ·obtain⟨F,G,hq2⟩:=xH Y G hp2
    refine xE ?_
    refine xr ?_
    exact JJ (J3 H hF1) (xK ⟨[],[]⟩)
 ·obtain⟨F,G,hq1⟩:=xH Y G hp1
  replace H:=Jq H hF1
  refine xE ?_
  replace H:=Option.some.inj H
  refine xr ?_
  subst H
  exact xN
theorem Jkb(a0:List UInt8)(r:Int)(H:Jca a0=some r):PC Jdw [dS a0] (dI r):=PF.c (a:=a0) H
noncomputable def Jaj(a0:Int):(Int×Int×Int)→Option (Int×Int×Int×Int)
 | (x1,x2,x3)=>some (IntKind.i64.wrap (a0+1),x1,x2,x3)
noncomputable def JM(a0:Int)(a1:List UInt8)(a2:List Token)(a3:Int)(a4:Int)(a5:Int)(a6:Int):Option (Int×Int×Int×Int) :=
 (Jz a0 a2 a3 a4 a5 a6).bind fun r1=>if(!eqS r1 a1)=true then(Vm a0 2 a2 a3 a4 a5 a6).bind fun r2=>Jaj a0 (r2.1,r2.2.1,r2.2.2) else Jaj a0 (a3,a4,a5)
noncomputable def K9(a0:Int)(a1:List UInt8)(a2:List Token)(a3:Int)(a4:Int)(a5:Int)(a6:Int)(r:(Int×Int×Int×Int)):GI :=
 ⟨[.c (.pt 1 0),.c (.d (.v (.int .i64 a0))),.c (.d (.v (str a1)))],[[.d (.sl 11 (List.map Jb a2)),.d (.v (.int .i64 a3)),.d (.v (.int .i64 a4)),.d (.v (.int .i64 a5)),.d (.v (.int .i64 a6))]],[],.ret (.c (.d (.v (.int .i64 r.1)))) [[.d (.sl 11 (List.map Jb a2)),.d (.v (.int .i64 r.2.1)),.d (.v (.int .i64 r.2.2.1)),.d (.v (.int .i64 r.2.2.2)),.d (.v (.int .i64 a6))]] []⟩
def Vb:GI→Prop:=fun g=>∃ (a0:Int) (a1:List UInt8) (a2:List Token) (a3:Int) (a4:Int) (a5:Int) (a6:Int) (r:(Int×Int×Int×Int)),JM a0 a1 a2 a3 a4 a5 a6=some r∧g=K9 a0 a1 a2 a3 a4 a5 a6 r
theorem KO(a0:Int)(a1:List UInt8)(a2:List Token)(a3:Int)(a4:Int)(a5:Int)(a6:Int)(r:(Int×Int×Int×Int))(H:JM a0 a1 a2 a3 a4 a5 a6=some r):Vb (K9 a0 a1 a2 a3 a4 a5 a6 r):=⟨a0,a1,a2,a3,a4,a5,a6,r,H,rfl⟩
theorem JiM:∀ g,Vb g→Jx Try.prog 36 g:=by
 rintro _ ⟨a0,a1,a2,a3,a4,a5,a6,r,H,rfl⟩
 refine xGn mixed [] [(31,true,J6),(57,true,Vc)] [] trivial ⟨Ks,Zo,trivial⟩ trivial Try.func36 _ ?_
 have G:=True.intro
 have Y:=xZ Try.results36 <| xZ J9.eq_1 <| xZ Jb.eq_1 <| xZ Kh.eq_1 <| xZ J5.eq_1 <| xZ Vg.eq_1 <| K9.eq_1
 dsimp only[K9]
 simp only[JM]at H
 refine xS ?_
 refine xr0 ?_
 refine Jn ?_
 refine JC (Jaj a0) (fun s=>[(1,.c (.d (.v (.int .i64 a0))))]) (fun s=>[[.d (.sl 11 (List.map Jb a2)),.d (.v (.int .i64 s.1)),.d (.v (.int .i64 s.2.1)),.d (.v (.int .i64 s.2.2)),.d (.v (.int .i64 a6))]]) [] r ?_ ?_
 ·refine xS ?_
  obtain⟨r1,hr1,H⟩:=Je H
  have F:=Y
  refine xQ ?_
  refine xs 2 ?_
  refine xc ⟨[1],[]⟩ (tabG 0 (JB a0 a2 a3 a4 a5 a6 r1 hr1)) ?_
  refine xs 2 ?_
  refine xl ?_
  refine xS ?_
  rcases Jc H with⟨hp1,H⟩|⟨hp1,H⟩
  ·obtain⟨F,G,hq1⟩:=xH Y G hp1
   refine xT ?_
   obtain⟨r2,hr2,H⟩:=Je H
   have F:=Y
   refine xQ ?_
   refine xs 2 ?_
   refine xc ⟨[1],[]⟩ (tabG 1 (Zp a0 2 a2 a3 a4 a5 a6 r2 hr2)) ?_
   refine xl ?_
   refine xS ?_
   exact Jd H (xK ⟨[1],[]⟩)
  ·obtain⟨F,G,hq1⟩:=xH Y G hp1
   refine xE ?_
   exact Jd H (xK ⟨[1],[]⟩)
 ·rintro ⟨x1,x2,x3⟩ H
  rw[Jaj]at H
  refine xS ?_
  replace H:=Option.some.inj H
  refine xr ?_
  subst H
  refine xrD [] ?_
  exact xO ⟨[1],[]⟩
theorem V1:Jf Try.prog 36∧(∀ g,Vb g→Jx Try.prog 36 g)∧(true=true→∀ g,Vb g→∃ val bs ts,g.out=.ret val bs ts) :=
 ⟨Juo,JiM,fun _=>by rintro _ ⟨_,_,_,_,_,_,_,_,_,rfl⟩; exact⟨_,_,_,rfl⟩⟩
noncomputable def Vd(a0:EB)(a1:Int)(a2:Int)(a3:List Token)(a4:Int)(a5:Int)(a6:Int)(a7:Int)(r:(Int×Int×(List Node)×Int×Int×Int×Int×Int)):GI :=
 ⟨[.c (.pt 1 0),.c (.fm (EM Try.prog 52 (cvK a0))),.c (.d (.v (.int .i64 a1))),.c (.d (.v (.int .i64 a2)))],[[.d (.sl 11 (List.map Jb a3)),.d (.v (.int .i64 a4)),.d (.v (.int .i64 a5)),.d (.v (.int .i64 a6)),.d (.v (.int .i64 a7))]],[],.ret (.tu [(true,[.d (.v (.int .i64 r.1)),.d (.v (.int .i64 r.2.1)),.sl 3 (List.map Jp r.2.2.1) 2]),(false,[.d (.v (.int .i64 r.2.2.2.1))])]) [[.d (.sl 11 (List.map Jb a3)),.d (.v (.int .i64 r.2.2.2.2.1)),.d (.v (.int .i64 r.2.2.2.2.2.1)),.d (.v (.int .i64 r.2.2.2.2.2.2.1)),.d (.v (.int .i64 r.2.2.2.2.2.2.2))]] [26]⟩
def Vh(q:EB→Int→Int→(List Token)→Int→Int→Int→Int→Option (Int×Int×(List Node)×Int×Int×Int×Int×Int)):GI→Prop:=fun g=>∃ (a0:EB) (a1:Int) (a2:Int) (a3:List Token) (a4:Int) (a5:Int) (a6:Int) (a7:Int) (r:(Int×Int×(List Node)×Int×Int×Int×Int×Int)),q a0 a1 a2 a3 a4 a5 a6 a7=some r∧g=Vd a0 a1 a2 a3 a4 a5 a6 a7 r
theorem Jan(q:EB→Int→Int→(List Token)→Int→Int→Int→Int→Option (Int×Int×(List Node)×Int×Int×Int×Int×Int))(a0:EB)(a1:Int)(a2:Int)(a3:List Token)(a4:Int)(a5:Int)(a6:Int)(a7:Int)(r:(Int×Int×(List Node)×Int×Int×Int×Int×Int))(H:q a0 a1 a2 a3 a4 a5 a6 a7=some r):Vh q (Vd a0 a1 a2 a3 a4 a5 a6 a7 r):=⟨a0,a1,a2,a3,a4,a5,a6,a7,r,H,rfl⟩
noncomputable def X7(a0:EB)(a1:Int)(a2:List Token)(a3:Int)(a4:Int)(a5:Int)(a6:Int)(r:(Int×Int×(List Node)×Int×Int×Int×Int×Int)):GI :=
 ⟨[.c (.pt 1 0),.c (.fm (EM Try.prog 52 (cvK a0))),.c (.d (.v (.int .i64 a1)))],[[.d (.sl 11 (List.map Jb a2)),.d (.v (.int .i64 a3)),.d (.v (.int .i64 a4)),.d (.v (.int .i64 a5)),.d (.v (.int .i64 a6))]],[],.ret (.tu [(true,[.d (.v (.int .i64 r.1)),.d (.v (.int .i64 r.2.1)),.sl 3 (List.map Jp r.2.2.1) 2]),(false,[.d (.v (.int .i64 r.2.2.2.1))])]) [[.d (.sl 11 (List.map Jb a2)),.d (.v (.int .i64 r.2.2.2.2.1)),.d (.v (.int .i64 r.2.2.2.2.2.1)),.d (.v (.int .i64 r.2.2.2.2.2.2.1)),.d (.v (.int .i64 r.2.2.2.2.2.2.2))]] [26]⟩
def Vx(q:EB→Int→(List Token)→Int→Int→Int→Int→Option (Int×Int×(List Node)×Int×Int×Int×Int×Int)):GI→Prop:=fun g=>∃ (a0:EB) (a1:Int) (a2:List Token) (a3:Int) (a4:Int) (a5:Int) (a6:Int) (r:(Int×Int×(List Node)×Int×Int×Int×Int×Int)),q a0 a1 a2 a3 a4 a5 a6=some r∧g=X7 a0 a1 a2 a3 a4 a5 a6 r
theorem JeJ(q:EB→Int→(List Token)→Int→Int→Int→Int→Option (Int×Int×(List Node)×Int×Int×Int×Int×Int))(a0:EB)(a1:Int)(a2:List Token)(a3:Int)(a4:Int)(a5:Int)(a6:Int)(r:(Int×Int×(List Node)×Int×Int×Int×Int×Int))(H:q a0 a1 a2 a3 a4 a5 a6=some r):Vx q (X7 a0 a1 a2 a3 a4 a5 a6 r):=⟨a0,a1,a2,a3,a4,a5,a6,r,H,rfl⟩
noncomputable def JaO(a0:EB)(a1:Int)(a2:List Token)(a3:Int)(a4:Int)(a5:Int)(a6:Int)(r:(Int×Int×(List Node)×Int×Int×Int×Int×Int)):GI :=
 ⟨[.c (.pt 1 0),.c (.fm (EM Try.prog 52 (cvK a0))),.c (.d (.v (.int .i64 a1)))],[[.d (.sl 11 (List.map Jb a2)),.d (.v (.int .i64 a3)),.d (.v (.int .i64 a4)),.d (.v (.int .i64 a5)),.d (.v (.int .i64 a6))]],[],.ret (.tu [(true,[.d (.v (.int .i64 r.1)),.d (.v (.int .i64 r.2.1)),.sl 3 (List.map Jp r.2.2.1) 2]),(false,[.d (.v (.int .i64 r.2.2.2.1))])]) [[.d (.sl 11 (List.map Jb a2)),.d (.v (.int .i64 r.2.2.2.2.1)),.d (.v (.int .i64 r.2.2.2.2.2.1)),.d (.v (.int .i64 r.2.2.2.2.2.2.1)),.d (.v (.int .i64 r.2.2.2.2.2.2.2))]] [26]⟩
def Xg(q:EB→Int→(List Token)→Int→Int→Int→Int→Option (Int×Int×(List Node)×Int×Int×Int×Int×Int)):GI→Prop:=fun g=>∃ (a0:EB) (a1:Int) (a2:List Token) (a3:Int) (a4:Int) (a5:Int) (a6:Int) (r:(Int×Int×(List Node)×Int×Int×Int×Int×Int)),q a0 a1 a2 a3 a4 a5 a6=some r∧g=JaO a0 a1 a2 a3 a4 a5 a6 r
theorem JiO(q:EB→Int→(List Token)→Int→Int→Int→Int→Option (Int×Int×(List Node)×Int×Int×Int×Int×Int))(a0:EB)(a1:Int)(a2:List Token)(a3:Int)(a4:Int)(a5:Int)(a6:Int)(r:(Int×Int×(List Node)×Int×Int×Int×Int×Int))(H:q a0 a1 a2 a3 a4 a5 a6=some r):Xg q (JaO a0 a1 a2 a3 a4 a5 a6 r):=⟨a0,a1,a2,a3,a4,a5,a6,r,H,rfl⟩
noncomputable def Jai:(Int×Int×Int×Int×Int×Int×Int×(List Node))→Option (Int×Int×(List Node)×Int×Int×Int×Int×Int)
 | (x1,x2,x3,x4,x5,x6,x7,x8)=>some (x6,x7,x8,x1,x2,x3,x4,IntKind.i64.wrap (x5-1))
noncomputable def XX(q1:EB→Int→Int→(List Token)→Int→Int→Int→Int→Option (Int×Int×(List Node)×Int×Int×Int×Int×Int))(a0:EB)(a3:List Token)(x9:Int)(x10:Int)(x11:Int)(x12:Int)(x13:Int)(x14:Int)(x15:Int)(x16:List Node):Int→Option ((Int×Int×Int×Int×Int×Int×Int×(List Node)) ⊕ (Int×Int×(List Node)×Int×Int×Int×Int×Int))
 | x17=>(q1 a0 (IntKind.i64.wrap (x9+1)) x17 a3 x10 x11 x12 x13).bind fun r6=>some (.inl (r6.2.2.2.1,r6.2.2.2.2.1,r6.2.2.2.2.2.1,r6.2.2.2.2.2.2.1,r6.2.2.2.2.2.2.2,13,x9,[(⟨x14,x15,x16⟩:Node),(⟨r6.1,r6.2.1,r6.2.2.1⟩:Node)]))
noncomputable def Jbr(q1:EB→Int→Int→(List Token)→Int→Int→Int→Int→Option (Int×Int×(List Node)×Int×Int×Int×Int×Int))(a0:EB)(a2:Int)(a3:List Token):(Int×Int×Int×Int×Int×Int×Int×(List Node))→Option ((Int×Int×Int×Int×Int×Int×Int×(List Node)) ⊕ (Int×Int×(List Node)×Int×Int×Int×Int×Int))
 | (x9,x10,x11,x12,x13,x14,x15,x16)=>(JO a3 x10 x11 x12 x13).bind fun r3=>if r3=true then(Jz x9 a3 x10 x11 x12 x13).bind fun r4=>(Jca r4).bind fun r5=>if(ltI r5 a2)=true then inrO (Jai (x9,x10,x11,x12,x13,x14,x15,x16)) else if(eqI r5 1)=true then XX q1 a0 a3 x9 x10 x11 x12 x13 x14 x15 x16 1 else XX q1 a0 a3 x9 x10 x11 x12 x13 x14 x15 x16 (IntKind.i64.wrap (r5+1)) else inrO (Jai (x9,x10,x11,x12,x13,x14,x15,x16))
noncomputable def Xw(q1:EB→Int→Int→(List Token)→Int→Int→Int→Int→Option (Int×Int×(List Node)×Int×Int×Int×Int×Int))(q2:EB→Int→(List Token)→Int→Int→Int→Int→Option (Int×Int×(List Node)×Int×Int×Int×Int×Int))(q3:EB→Int→(List Token)→Int→Int→Int→Int→Option (Int×Int×(List Node)×Int×Int×Int×Int×Int))(a0:EB)(a1:Int)(a2:Int)(a3:List Token)(a4:Int)(a5:Int)(a6:Int)(a7:Int):Option (Int×Int×(List Node)×Int×Int×Int×Int×Int) :=
 (KK a1 a3 a4 a5 a6 a7).bind fun r1=>if(!r1.1)=true then some (0,0,([]:List Node),a1,r1.2.1,r1.2.2.1,r1.2.2.2.1,r1.2.2.2.2) else(q2 a0 a1 a3 r1.2.1 r1.2.2.1 r1.2.2.2.1 r1.2.2.2.2).bind fun r2=>Jv (Jbr q1 a0 a2 a3) (r2.2.2.2.1,r2.2.2.2.2.1,r2.2.2.2.2.2.1,r2.2.2.2.2.2.2.1,r2.2.2.2.2.2.2.2,r2.1,r2.2.1,r2.2.2.1)
theorem JhX(q1:EB→Int→Int→(List Token)→Int→Int→Int→Int→Option (Int×Int×(List Node)×Int×Int×Int×Int×Int))(q2:EB→Int→(List Token)→Int→Int→Int→Int→Option (Int×Int×(List Node)×Int×Int×Int×Int×Int))(q3:EB→Int→(List Token)→Int→Int→Int→Int→Option (Int×Int×(List Node)×Int×Int×Int×Int×Int))(kq1:Kok Try.prog 59 true (Vh q1))(kq2:Kok Try.prog 78 true (Vx q2))(kq3:Kok Try.prog 85 true (Xg q3)):∀ g,Vh (Xw q1 q2 q3) g→Jx Try.prog 59 g:=by
 rintro _ ⟨a0,a1,a2,a3,a4,a5,a6,a7,r,H,rfl⟩
 refine xGn mixed [(79,Jdw)] [(61,true,VM),(78,true,(Vx q2)),(16,true,KE),(31,true,J6),(59,true,(Vh q1))] [] ⟨⟨Jus,Jje⟩,trivial⟩ ⟨JbA,kq2,KB,Ks,kq1,trivial⟩ trivial Try.func59 _ ?_
 have G:=True.intro
 have Y:=xZ y_3 <| xZ y_24 <| xZ y_26 <| xZ y_50 <| xZ Try.results59 <| xZ J9.eq_1 <| xZ Jb.eq_1 <| xZ Vn <| xZ Kh.eq_1 <| xZ VJ.eq_1 <| xZ X7.eq_1 <| xZ KC.eq_1 <| xZ J5.eq_1 <| xZ Vd.eq_1 <| Vd.eq_1
 dsimp only[Vd]
 simp only[Xw]at H
 refine xS ?_
 refine xr ?_
 obtain⟨r1,hr1,H⟩:=Je H
 have F:=Y
 refine xQ ?_
 refine xs 2 ?_
 refine xc ⟨[1],[]⟩ (tabG 0 (Jbu a1 a3 a4 a5 a6 a7 r1 hr1)) ?_
 refine xs 1 ?_
 refine xl ?_
 refine xS ?_
 rcases Jc H with⟨hp1,H⟩|⟨hp1,H⟩
 ·obtain⟨F,G,hq1⟩:=xH Y G hp1
  refine xT ?_
  replace H:=Option.some.inj H
  refine xr ?_
  subst H
  refine xrD [] ?_
  exact xO ⟨[1],[0]⟩
 ·obtain⟨F,G,hq1⟩:=xH Y G hp1
  refine xE ?_
  obtain⟨r2,hr2,H⟩:=Je H
  have F:=Y
  refine xQ ?_
  refine xs 3 ?_
  refine xc ⟨[1],[]⟩ (tabG 1 (JeJ q2 a0 a1 a3 r1.2.1 r1.2.2.1 r1.2.2.2.1 r1.2.2.2.2 r2 hr2)) ?_
  refine xs 6 ?_
  refine xl ?_
  refine  ?_
  refine Jn ?_
  refine JC Jai (fun s=>[(0,.c (.pt 1 0)),(2,.c (.d (.v (.int .i64 s.1)))),(8,.c (.pt 2 0)),(10,.c (.pt 3 0))]) (fun s=>[[.d (.sl 11 (List.map Jb a3)),.d (.v (.int .i64 s.2.1)),.d (.v (.int .i64 s.2.2.1)),.d (.v (.int .i64 s.2.2.2.1)),.d (.v (.int .i64 s.2.2.2.2.1))],[.d (.v (.int .i64 0)),.d (.v (.int .i64 0)),.sl 3 [] 0],[.d (.v (.int .i64 s.2.2.2.2.2.1)),.d (.v (.int .i64 s.2.2.2.2.2.2.1)),.sl 3 (List.map Jp s.2.2.2.2.2.2.2) 4]]) [26] r ?_ ?_
  ·refine xS ?_
   refine KI (Jbr q1 a0 a2 a3) (fun s=>[(0,.c (.pt 1 0)),(1,.c (.fm (EM Try.prog 52 (cvK a0)))),(2,.c (.d (.v (.int .i64 s.1)))),(3,.c (.d (.v (.int .i64 a2)))),(8,.c (.pt 2 0)),(10,.c (.pt 3 0))]) (fun s=>[[.d (.sl 11 (List.map Jb a3)),.d (.v (.int .i64 s.2.1)),.d (.v (.int .i64 s.2.2.1)),.d (.v (.int .i64 s.2.2.2.1)),.d (.v (.int .i64 s.2.2.2.2.1))],[.d (.v (.int .i64 0)),.d (.v (.int .i64 0)),.sl 3 [] 0],[.d (.v (.int .i64 s.2.2.2.2.2.1)),.d (.v (.int .i64 s.2.2.2.2.2.2.1)),.sl 3 (List.map Jp s.2.2.2.2.2.2.2) 4]]) [26] H (xK ⟨[1,2,6],[5]⟩) ?_
   rintro n1 ⟨x9,x10,x11,x12,x13,x14,x15,x16⟩ o1 H hF1
   rw[Jbr]at H
   refine xS ?_
   obtain⟨r3,hr3,H⟩:=Je H
   have F:=Y
   refine xQ ?_
   refine xs 1 ?_
   refine xc ⟨[1],[]⟩ (tabG 2 (JE a3 x10 x11 x12 x13 r3 hr3)) ?_
   refine xl ?_
   refine xS ?_
   rcases Jc H with⟨hp2,H⟩|⟨hp2,H⟩
   ·obtain⟨F,G,hq2⟩:=xH Y G hp2
    refine xT ?_
    obtain⟨r4,hr4,H⟩:=Je H
    have F:=Y
    obtain⟨r5,hr5,H⟩:=Je H
    have F:=xCf F (Jkb r4 r5 hr5)
    refine xQ ?_
    refine xs 2 ?_
    refine xc ⟨[1],[]⟩ (tabG 3 (JB x9 a3 x10 x11 x12 x13 r4 hr4)) ?_
    refine xs 2 ?_
    refine xl ?_
    refine xS ?_
    refine xr ?_
    rcases Jc H with⟨hp3,H⟩|⟨hp3,H⟩
    ·obtain⟨F,G,hq3⟩:=xH Y G hp3
     replace H:=Jq H hF1
     refine xT ?_
     exact Jd H (xK ⟨[1,2,3],[4]⟩)
    ·obtain⟨F,G,hq3⟩:=xH Y G hp3
     refine xE ?_
     refine xr0 ?_
     refine Jn ?_
     refine JC (XX q1 a0 a3 x9 x10 x11 x12 x13 x14 x15 x16) (fun s=>[(0,.c (.pt 1 0)),(1,.c (.fm (EM Try.prog 52 (cvK a0)))),(2,.c (.d (.v (.int .i64 x9)))),(3,.c (.d (.v (.int .i64 a2)))),(8,.c (.pt 2 0)),(10,.c (.pt 3 0)),(12,.c (.d (.v (.int .i64 s))))]) (fun s=>[[.d (.sl 11 (List.map Jb a3)),.d (.v (.int .i64 x10)),.d (.v (.int .i64 x11)),.d (.v (.int .i64 x12)),.d (.v (.int .i64 x13))],[.d (.v (.int .i64 0)),.d (.v (.int .i64 0)),.sl 3 [] 0],[.d (.v (.int .i64 x14)),.d (.v (.int .i64 x15)),.sl 3 (List.map Jp x16) 4]]) [26] o1 ?_ ?_
     ·refine xS ?_
      refine xr ?_
      rcases Jc H with⟨hp4,H⟩|⟨hp4,H⟩
      ·obtain⟨F,G,hq4⟩:=xH Y G hp4
       refine xT ?_
       refine xr ?_
       exact Jd H (xK ⟨[1,2,3],[4]⟩)
      ·obtain⟨F,G,hq4⟩:=xH Y G hp4
       refine xE ?_
       exact Jd H (xK ⟨[1,2,3],[4]⟩)
     ·rintro x17 H
      rw[XX]at H
      refine xS ?_
      obtain⟨r6,hr6,H⟩:=Je H
      have F:=Y
      refine xQ ?_
      refine xs 5 ?_
      refine xc ⟨[1],[]⟩ (tabG 4 (Jan q1 a0 (IntKind.i64.wrap (x9+1)) x17 a3 x10 x11 x12 x13 r6 hr6)) ?_
      refine xs 6 ?_
      refine xl ?_
      refine xS ?_
      refine xr ?_
      refine xr ?_
      exact JJ (J3 H hF1) (xK ⟨[1,2,3],[0]⟩)
   ·obtain⟨F,G,hq2⟩:=xH Y G hp2
    replace H:=Jq H hF1
    refine xE ?_
    exact Jd H (xK ⟨[1,2,3],[4]⟩)
  ·rintro ⟨x1,x2,x3,x4,x5,x6,x7,x8⟩ H
   rw[Jai]at H
   refine xS ?_
   refine xr ?_
   replace H:=Option.some.inj H
   refine xr ?_
   subst H
   refine xrD [] ?_
   exact xO ⟨[1],[4]⟩
noncomputable def ZQ:(Int×Int×Int×Int×Int×Int×Int×(List Node))→Option (Int×Int×(List Node)×Int×Int×Int×Int×Int)
 | (x1,x2,x3,x4,x5,x6,x7,x8)=>some (x6,x7,x8,x1,x2,x3,x4,IntKind.i64.wrap (x5-1))
noncomputable def Jak(q1:EB→Int→Int→(List Token)→Int→Int→Int→Int→Option (Int×Int×(List Node)×Int×Int×Int×Int×Int))(q2:EB→Int→(List Token)→Int→Int→Int→Int→Option (Int×Int×(List Node)×Int×Int×Int×Int×Int))(q3:EB→Int→(List Token)→Int→Int→Int→Int→Option (Int×Int×(List Node)×Int×Int×Int×Int×Int))(a0:EB)(a1:Int)(a2:List Token)(a3:Int)(a4:Int)(a5:Int)(a6:Int):Option (Int×Int×(List Node)×Int×Int×Int×Int×Int) :=
 (KK a1 a2 a3 a4 a5 a6).bind fun r1=>if(!r1.1)=true then some (0,0,([]:List Node),a1,r1.2.1,r1.2.2.1,r1.2.2.2.1,r1.2.2.2.2) else(Jz a1 a2 r1.2.1 r1.2.2.1 r1.2.2.2.1 r1.2.2.2.2).bind fun r2=>(ZH [[45],[43],[33],[126],[42],[38],[43,43],[45,45]] r2).bind fun r3=>if r3=true then(q2 a0 (IntKind.i64.wrap (a1+1)) a2 r1.2.1 r1.2.2.1 r1.2.2.2.1 r1.2.2.2.2).bind fun r4=>ZQ (r4.2.2.2.1,r4.2.2.2.2.1,r4.2.2.2.2.2.1,r4.2.2.2.2.2.2.1,r4.2.2.2.2.2.2.2,12,a1,[(⟨r4.1,r4.2.1,r4.2.2.1⟩:Node)]) else(q3 a0 a1 a2 r1.2.1 r1.2.2.1 r1.2.2.2.1 r1.2.2.2.2).bind fun r5=>ZQ (r5.2.2.2.1,r5.2.2.2.2.1,r5.2.2.2.2.2.1,r5.2.2.2.2.2.2.1,r5.2.2.2.2.2.2.2,r5.1,r5.2.1,r5.2.2.1)
theorem Jhr(q1:EB→Int→Int→(List Token)→Int→Int→Int→Int→Option (Int×Int×(List Node)×Int×Int×Int×Int×Int))(q2:EB→Int→(List Token)→Int→Int→Int→Int→Option (Int×Int×(List Node)×Int×Int×Int×Int×Int))(q3:EB→Int→(List Token)→Int→Int→Int→Int→Option (Int×Int×(List Node)×Int×Int×Int×Int×Int))(kq1:Kok Try.prog 59 true (Vh q1))(kq2:Kok Try.prog 78 true (Vx q2))(kq3:Kok Try.prog 85 true (Xg q3)):∀ g,Vx (Jak q1 q2 q3) g→Jx Try.prog 78 g:=by
 rintro _ ⟨a0,a1,a2,a3,a4,a5,a6,r,H,rfl⟩
 refine xGn mixed [(26,Jaz)] [(61,true,VM),(31,true,J6),(78,true,(Vx q2)),(85,true,(Xg q3))] [] ⟨⟨JiI,JcV⟩,trivial⟩ ⟨JbA,Ks,kq2,kq3,trivial⟩ trivial Try.func78 _ ?_
 have G:=True.intro
 have Y:=xZ y_3 <| xZ y_9 <| xZ y_24 <| xZ y_26 <| xZ y_41 <| xZ y_50 <| xZ Try.results78 <| xZ J9.eq_1 <| xZ Jb.eq_1 <| xZ Vn <| xZ Kh.eq_1 <| xZ VJ.eq_1 <| xZ J5.eq_1 <| xZ X7.eq_1 <| xZ JaO.eq_1 <| X7.eq_1
 dsimp only[X7]
 simp only[Jak]at H
 refine xS ?_
 refine xr ?_
 obtain⟨r1,hr1,H⟩:=Je H
 have F:=Y
 refine xQ ?_
 refine xs 2 ?_
 refine xc ⟨[1],[]⟩ (tabG 0 (Jbu a1 a2 a3 a4 a5 a6 r1 hr1)) ?_
 refine xs 1 ?_
 refine xl ?_
 refine xS ?_
 rcases Jc H with⟨hp1,H⟩|⟨hp1,H⟩
 ·obtain⟨F,G,hq1⟩:=xH Y G hp1
  refine xT ?_
  replace H:=Option.some.inj H
  refine xr ?_
  subst H
  refine xrD [] ?_
  exact xO ⟨[1],[0]⟩
 ·obtain⟨F,G,hq1⟩:=xH Y G hp1
  refine xE ?_
  refine xr0 ?_
  refine Jn ?_
  refine JC ZQ (fun s=>[(0,.c (.pt 1 0)),(2,.c (.d (.v (.int .i64 s.1)))),(6,.c (.pt 2 0)),(8,.c (.pt 3 0))]) (fun s=>[[.d (.sl 11 (List.map Jb a2)),.d (.v (.int .i64 s.2.1)),.d (.v (.int .i64 s.2.2.1)),.d (.v (.int .i64 s.2.2.2.1)),.d (.v (.int .i64 s.2.2.2.2.1))],[.d (.v (.int .i64 0)),.d (.v (.int .i64 0)),.sl 3 [] 0],[.d (.v (.int .i64 s.2.2.2.2.2.1)),.d (.v (.int .i64 s.2.2.2.2.2.2.1)),.sl 3 (List.map Jp s.2.2.2.2.2.2.2) 4]]) [26] r ?_ ?_
  ·refine xS ?_
   obtain⟨r2,hr2,H⟩:=Je H
   have F:=Y
   obtain⟨r3,hr3,H⟩:=Je H
   have F:=xCf F (Jdm [[45],[43],[33],[126],[42],[38],[43,43],[45,45]] r2 r3 hr3)
   refine xQ ?_
   refine xs 3 ?_
   refine xc ⟨[1],[]⟩ (tabG 1 (JB a1 a2 r1.2.1 r1.2.2.1 r1.2.2.2.1 r1.2.2.2.2 r2 hr2)) ?_
   refine xs 1 ?_
   refine xl ?_
   refine xS ?_
   rcases Jc H with⟨hp2,H⟩|⟨hp2,H⟩
   ·obtain⟨F,G,hq2⟩:=xH Y G hp2
    refine xT ?_
    obtain⟨r4,hr4,H⟩:=Je H
    have F:=Y
    refine xQ ?_
    refine xs 4 ?_
    refine xc ⟨[1],[]⟩ (tabG 2 (JeJ q2 a0 (IntKind.i64.wrap (a1+1)) a2 r1.2.1 r1.2.2.1 r1.2.2.2.1 r1.2.2.2.2 r4 hr4)) ?_
    refine xs 6 ?_
    refine xl ?_
    refine xS ?_
    refine xr ?_
    exact Jd H (xK ⟨[1,2,4],[0]⟩)
   ·obtain⟨F,G,hq2⟩:=xH Y G hp2
    refine xE ?_
    obtain⟨r5,hr5,H⟩:=Je H
    have F:=Y
    refine xQ ?_
    refine xs 3 ?_
    refine xc ⟨[1],[]⟩ (tabG 3 (JiO q3 a0 a1 a2 r1.2.1 r1.2.2.1 r1.2.2.2.1 r1.2.2.2.2 r5 hr5)) ?_
    refine xs 5 ?_
    refine xl ?_
    refine xS ?_
    exact Jd H (xK ⟨[1,2,4],[7]⟩)
  ·rintro ⟨x1,x2,x3,x4,x5,x6,x7,x8⟩ H
   rw[ZQ]at H
   refine xS ?_
   refine xr ?_
   replace H:=Option.some.inj H
   refine xr ?_
   subst H
   refine xrD [] ?_
   exact xO ⟨[1],[4]⟩
noncomputable def Xo(q1:EB→Int→Int→(List Token)→Int→Int→Int→Int→Option (Int×Int×(List Node)×Int×Int×Int×Int×Int))(a0:EB)(a2:List Token)(x21:Int)(x22:List Node):(Int×Int×Int×Int)→Option ((Int×Int×Int×Int×Int×(List Node)) ⊕ ((Int×Int×Int×Int×Int×Int×Int×(List Node)) ⊕ (Int×Int×(List Node)×Int×Int×Int×Int×Int)))
 | (x24,x25,x26,x27)=>(JO a2 x25 x26 x27 x21).bind fun r3=>if r3=true then(q1 a0 x24 1 a2 x25 x26 x27 x21).bind fun r4=>if(x22.length + [(⟨r4.1,r4.2.1,r4.2.2.1⟩:Node)].length) * 40≤140737488355328 then some (.inl (r4.2.2.2.1,r4.2.2.2.2.1,r4.2.2.2.2.2.1,r4.2.2.2.2.2.2.1,r4.2.2.2.2.2.2.2,x22++[(⟨r4.1,r4.2.1,r4.2.2.1⟩:Node)])) else none else some (.inl (x24,x25,x26,x27,x21,x22))
noncomputable def X8(q1:EB→Int→Int→(List Token)→Int→Int→Int→Int→Option (Int×Int×(List Node)×Int×Int×Int×Int×Int))(a0:EB)(a2:List Token)(x17:Int)(x18:Int)(x19:Int)(x20:Int)(x21:Int)(x22:List Node):Bool→Option ((Int×Int×Int×Int×Int×(List Node)) ⊕ ((Int×Int×Int×Int×Int×Int×Int×(List Node)) ⊕ (Int×Int×(List Node)×Int×Int×Int×Int×Int)))
 | x23=>if x23=true then if(ltI 1 (x22.length:Int))=true then(JM x17 [44] a2 x18 x19 x20 x21).bind fun r5=>Xo q1 a0 a2 x21 x22 (r5.1,r5.2.1,r5.2.2.1,r5.2.2.2) else Xo q1 a0 a2 x21 x22 (x17,x18,x19,x20) else inrO (some (.inl (IntKind.i64.wrap (x17+1),x18,x19,x20,x21,14,(-1),x22)))
noncomputable def Jbx(q1:EB→Int→Int→(List Token)→Int→Int→Int→Int→Option (Int×Int×(List Node)×Int×Int×Int×Int×Int))(a0:EB)(a2:List Token):(Int×Int×Int×Int×Int×(List Node))→Option ((Int×Int×Int×Int×Int×(List Node)) ⊕ ((Int×Int×Int×Int×Int×Int×Int×(List Node)) ⊕ (Int×Int×(List Node)×Int×Int×Int×Int×Int)))
 | (x17,x18,x19,x20,x21,x22)=>(JO a2 x18 x19 x20 x21).bind fun r6=>if r6=true then(Jz x17 a2 x18 x19 x20 x21).bind fun r7=>X8 q1 a0 a2 x17 x18 x19 x20 x21 x22 (!eqS r7 [41]) else X8 q1 a0 a2 x17 x18 x19 x20 x21 x22 false
noncomputable def Jag(q1:EB→Int→Int→(List Token)→Int→Int→Int→Int→Option (Int×Int×(List Node)×Int×Int×Int×Int×Int))(a0:EB)(a2:List Token):(Int×Int×Int×Int×Int×Int×Int×(List Node))→Option ((Int×Int×Int×Int×Int×Int×Int×(List Node)) ⊕ (Int×Int×(List Node)×Int×Int×Int×Int×Int))
 | (x9,x10,x11,x12,x13,x14,x15,x16)=>(JO a2 x10 x11 x12 x13).bind fun r1=>if r1=true then(Jz x9 a2 x10 x11 x12 x13).bind fun r2=>if(eqS r2 [40])=true then Jv (Jbx q1 a0 a2) (IntKind.i64.wrap (x9+1),x10,x11,x12,x13,[(⟨x14,x15,x16⟩:Node)]) else if(eqS r2 [91])=true then(q1 a0 (IntKind.i64.wrap (x9+1)) 0 a2 x10 x11 x12 x13).bind fun r8=>(JM r8.2.2.2.1 [93] a2 r8.2.2.2.2.1 r8.2.2.2.2.2.1 r8.2.2.2.2.2.2.1 r8.2.2.2.2.2.2.2).bind fun r9=>some (.inl (r9.1,r9.2.1,r9.2.2.1,r9.2.2.2,r8.2.2.2.2.2.2.2,15,(-1),[(⟨x14,x15,x16⟩:Node),(⟨r8.1,r8.2.1,r8.2.2.1⟩:Node)])) else inrO (some (x14,x15,x16,x9,x10,x11,x12,x13)) else inrO (some (x14,x15,x16,x9,x10,x11,x12,x13))
noncomputable def X0(q1:EB→Int→Int→(List Token)→Int→Int→Int→Int→Option (Int×Int×(List Node)×Int×Int×Int×Int×Int))(a0:EB)(a2:List Token):(Int×Int×Int×Int×Int×Int×Int×(List Node))→Option (Int×Int×(List Node)×Int×Int×Int×Int×Int)
 | (x1,x2,x3,x4,x5,x6,x7,x8)=>Jv (Jag q1 a0 a2) (x1,x2,x3,x4,x5,x6,x7,x8)
noncomputable def VK(q1:EB→Int→Int→(List Token)→Int→Int→Int→Int→Option (Int×Int×(List Node)×Int×Int×Int×Int×Int))(a0:EB)(a1:Int)(a2:List Token)(a3:Int)(a4:Int)(a5:Int)(a6:Int):Bool→Option (Int×Int×(List Node)×Int×Int×Int×Int×Int)
 | x28=>if x28=true then X0 q1 a0 a2 (IntKind.i64.wrap (a1+1),a3,a4,a5,a6,11,a1,([]:List Node)) else(Vr a1 a2 a3 a4 a5 a6).bind fun r14=>X0 q1 a0 a2 (IntKind.i64.wrap (a1+1),r14.1,r14.2.1,r14.2.2,a6,10,a1,([]:List Node))
noncomputable def JaE(q1:EB→Int→Int→(List Token)→Int→Int→Int→Int→Option (Int×Int×(List Node)×Int×Int×Int×Int×Int))(q2:EB→Int→(List Token)→Int→Int→Int→Int→Option (Int×Int×(List Node)×Int×Int×Int×Int×Int))(q3:EB→Int→(List Token)→Int→Int→Int→Int→Option (Int×Int×(List Node)×Int×Int×Int×Int×Int))(a0:EB)(a1:Int)(a2:List Token)(a3:Int)(a4:Int)(a5:Int)(a6:Int):Option (Int×Int×(List Node)×Int×Int×Int×Int×Int) :=
 if(leI (a2.length:Int) a1)=true then(Vm a1 9 a2 a3 a4 a5 a6).bind fun r10=>some (0,0,([]:List Node),a1,r10.1,r10.2.1,r10.2.2,a6) else(Jz a1 a2 a3 a4 a5 a6).bind fun r11=>if(eqS r11 [40])=true then(q1 a0 (IntKind.i64.wrap (a1+1)) 0 a2 a3 a4 a5 a6).bind fun r12=>(JM r12.2.2.2.1 [41] a2 r12.2.2.2.2.1 r12.2.2.2.2.2.1 r12.2.2.2.2.2.2.1 r12.2.2.2.2.2.2.2).bind fun r13=>X0 q1 a0 a2 (r13.1,r13.2.1,r13.2.2.1,r13.2.2.2,r12.2.2.2.2.2.2.2,r12.1,r12.2.1,r12.2.2.1) else if(0:Int)≤a1∧a1.toNat<a2.length then if(eqI ((a2.getD a1.toNat default).Kind) 2)=true then VK q1 a0 a1 a2 a3 a4 a5 a6 true else if(0:Int)≤a1∧a1.toNat<a2.length then if(eqI ((a2.getD a1.toNat default).Kind) 3)=true then VK q1 a0 a1 a2 a3 a4 a5 a6 true else if(0:Int)≤a1∧a1.toNat<a2.length then VK q1 a0 a1 a2 a3 a4 a5 a6 (eqI ((a2.getD a1.toNat default).Kind) 4) else none else none else none
theorem JhD(q1:EB→Int→Int→(List Token)→Int→Int→Int→Int→Option (Int×Int×(List Node)×Int×Int×Int×Int×Int))(q2:EB→Int→(List Token)→Int→Int→Int→Int→Option (Int×Int×(List Node)×Int×Int×Int×Int×Int))(q3:EB→Int→(List Token)→Int→Int→Int→Int→Option (Int×Int×(List Node)×Int×Int×Int×Int×Int))(kq1:Kok Try.prog 59 true (Vh q1))(kq2:Kok Try.prog 78 true (Vx q2))(kq3:Kok Try.prog 85 true (Xg q3)):∀ g,Xg (JaE q1 q2 q3) g→Jx Try.prog 85 g:=by
 rintro _ ⟨a0,a1,a2,a3,a4,a5,a6,r,H,rfl⟩
 refine xGn mixed [] [(16,true,KE),(31,true,J6),(59,true,(Vh q1)),(36,true,Vb),(57,true,Vc),(58,true,X4)] [] trivial ⟨KB,Ks,kq1,V1,Zo,JcZ,trivial⟩ trivial Try.func85 _ ?_
 have G:=True.intro
 have Y:=xZ y_3 <| xZ y_22 <| xZ y_24 <| xZ y_26 <| xZ y_44 <| xZ y_50 <| xZ Try.results85 <| xZ J9.eq_1 <| xZ Jb.eq_1 <| xZ Vn <| xZ Kh.eq_1 <| xZ KC.eq_1 <| xZ J5.eq_1 <| xZ Vd.eq_1 <| xZ K9.eq_1 <| xZ Vg.eq_1 <| xZ Zc.eq_1 <| JaO.eq_1
 dsimp only[JaO]
 simp only[JaE]at H
 refine xS ?_
 refine xr ?_
 refine xr0 ?_
 refine Jn ?_
 refine JC (X0 q1 a0 a2) (fun s=>[(0,.c (.pt 1 0)),(1,.c (.fm (EM Try.prog 52 (cvK a0)))),(2,.c (.d (.v (.int .i64 s.1)))),(6,.c (.pt 2 0)),(8,.c (.pt 3 0))]) (fun s=>[[.d (.sl 11 (List.map Jb a2)),.d (.v (.int .i64 s.2.1)),.d (.v (.int .i64 s.2.2.1)),.d (.v (.int .i64 s.2.2.2.1)),.d (.v (.int .i64 s.2.2.2.2.1))],[.d (.v (.int .i64 0)),.d (.v (.int .i64 0)),.sl 3 [] 0],[.d (.v (.int .i64 s.2.2.2.2.2.1)),.d (.v (.int .i64 s.2.2.2.2.2.2.1)),.sl 3 (List.map Jp s.2.2.2.2.2.2.2) 4]]) [26] r ?_ ?_
 ·refine xS ?_
  refine xr ?_
  rcases Jc H with⟨hp8,H⟩|⟨hp8,H⟩
  ·obtain⟨F,G,hq8⟩:=xH Y G hp8
   refine xT ?_
   obtain⟨r10,hr10,H⟩:=Je H
   have F:=Y
   refine xQ ?_
   refine xs 2 ?_
   refine xc ⟨[1],[]⟩ (tabG 4 (Zp a1 9 a2 a3 a4 a5 a6 r10 hr10)) ?_
   refine xl ?_
   refine xS ?_
   replace H:=Option.some.inj H
   refine xr ?_
   subst H
   refine xrD [] ?_
   exact xO ⟨[1],[0]⟩
  ·obtain⟨F,G,hq8⟩:=xH Y G hp8
   refine xE ?_
   obtain⟨r11,hr11,H⟩:=Je H
   have F:=Y
   refine xQ ?_
   refine xs 2 ?_
   refine xc ⟨[1],[]⟩ (tabG 1 (JB a1 a2 a3 a4 a5 a6 r11 hr11)) ?_
   refine xs 2 ?_
   refine xl ?_
   refine xS ?_
   rcases Jc H with⟨hp9,H⟩|⟨hp9,H⟩
   ·obtain⟨F,G,hq9⟩:=xH Y G hp9
    refine xT ?_
    obtain⟨r12,hr12,H⟩:=Je H
    have F:=Y
    refine xQ ?_
    refine xs 4 ?_
    refine xc ⟨[1],[]⟩ (tabG 2 (Jan q1 a0 (IntKind.i64.wrap (a1+1)) 0 a2 a3 a4 a5 a6 r12 hr12)) ?_
    refine xs 5 ?_
    refine xl ?_
    refine xS ?_
    obtain⟨r13,hr13,H⟩:=Je H
    have F:=Y
    refine xQ ?_
    refine xs 2 ?_
    refine xc ⟨[1],[]⟩ (tabG 3 (KO r12.2.2.2.1 [41] a2 r12.2.2.2.2.1 r12.2.2.2.2.2.1 r12.2.2.2.2.2.2.1 r12.2.2.2.2.2.2.2 r13 hr13)) ?_
    refine xs 1 ?_
    refine xl ?_
    refine xS ?_
    exact Jd H (xK ⟨[1,2,3],[6]⟩)
   ·obtain⟨F,G,hq9⟩:=xH Y G hp9
    refine xE0 ?_
    refine JC (VK q1 a0 a1 a2 a3 a4 a5 a6) (fun s=>[(0,.c (.pt 1 0)),(1,.c (.fm (EM Try.prog 52 (cvK a0)))),(2,.c (.d (.v (.int .i64 a1)))),(6,.c (.pt 2 0)),(8,.c (.pt 3 0)),(49,.c (.d (.v (.bool s))))]) (fun s=>[[.d (.sl 11 (List.map Jb a2)),.d (.v (.int .i64 a3)),.d (.v (.int .i64 a4)),.d (.v (.int .i64 a5)),.d (.v (.int .i64 a6))],[.d (.v (.int .i64 0)),.d (.v (.int .i64 0)),.sl 3 [] 0],[.d (.v (.int .i64 0)),.d (.v (.int .i64 0)),.sl 3 [] 0]]) [] r ?_ ?_
    ·obtain⟨hg2,H⟩:=Jg H
     have F:=xZ Y (Jt Jb a2 a1.toNat default default (by omega))
     rcases Jc H with⟨hp11,H⟩|⟨hp11,H⟩
     ·obtain⟨F,G,hq11⟩:=xH F G hp11
      refine xR ?_
      exact Jd H (xK ⟨[1,2,3],[]⟩)
     ·obtain⟨F,G,hq11⟩:=xH F G hp11
      obtain⟨hg3,H⟩:=Jg H
      have F:=xZ F (Jt Jb a2 a1.toNat default default (by omega))
      rcases Jc H with⟨hp12,H⟩|⟨hp12,H⟩
      ·obtain⟨F,G,hq12⟩:=xH F G hp12
       refine xR ?_
       exact Jd H (xK ⟨[1,2,3],[]⟩)
      ·obtain⟨F,G,hq12⟩:=xH F G hp12
       obtain⟨hg4,H⟩:=Jg H
       have F:=xZ F (Jt Jb a2 a1.toNat default default (by omega))
       refine xR ?_
       exact Jd H (xK ⟨[1,2,3],[]⟩)
    ·rintro x28 H
     rw[VK]at H
     rcases Jc H with⟨hp10,H⟩|⟨hp10,H⟩
     ·obtain⟨F,G,hq10⟩:=xH Y G hp10
      refine xT ?_
      refine xr ?_
      refine xr ?_
      exact Jd H (xK ⟨[1,2,3],[0]⟩)
     ·obtain⟨F,G,hq10⟩:=xH Y G hp10
      refine xE ?_
      obtain⟨r14,hr14,H⟩:=Je H
      have F:=Y
      refine xQ ?_
      refine xs 2 ?_
      refine xc ⟨[1],[]⟩ (tabG 5 (Je4 a1 a2 a3 a4 a5 a6 r14 hr14)) ?_
      refine xl ?_
      refine xS ?_
      refine xr ?_
      refine xr ?_
      exact Jd H (xK ⟨[1,2,3],[0]⟩)
 ·rintro ⟨x1,x2,x3,x4,x5,x6,x7,x8⟩ H
  rw[X0]at H
  refine xS ?_
  refine KI (Jag q1 a0 a2) (fun s=>[(0,.c (.pt 1 0)),(1,.c (.fm (EM Try.prog 52 (cvK a0)))),(2,.c (.d (.v (.int .i64 s.1)))),(6,.c (.pt 2 0)),(8,.c (.pt 3 0))]) (fun s=>[[.d (.sl 11 (List.map Jb a2)),.d (.v (.int .i64 s.2.1)),.d (.v (.int .i64 s.2.2.1)),.d (.v (.int .i64 s.2.2.2.1)),.d (.v (.int .i64 s.2.2.2.2.1))],[.d (.v (.int .i64 0)),.d (.v (.int .i64 0)),.sl 3 [] 0],[.d (.v (.int .i64 s.2.2.2.2.2.1)),.d (.v (.int .i64 s.2.2.2.2.2.2.1)),.sl 3 (List.map Jp s.2.2.2.2.2.2.2) 4]]) [26] H (xK ⟨[1,2,3],[4]⟩) ?_
  rintro n1 ⟨x9,x10,x11,x12,x13,x14,x15,x16⟩ o1 H hF1
  rw[Jag]at H
  refine xS ?_
  obtain⟨r1,hr1,H⟩:=Je H
  have F:=Y
  refine xQ ?_
  refine xs 1 ?_
  refine xc ⟨[1],[]⟩ (tabG 0 (JE a2 x10 x11 x12 x13 r1 hr1)) ?_
  refine xl ?_
  refine xS ?_
  rcases Jc H with⟨hp1,H⟩|⟨hp1,H⟩
  ·obtain⟨F,G,hq1⟩:=xH Y G hp1
   refine xT ?_
   obtain⟨r2,hr2,H⟩:=Je H
   have F:=Y
   refine xQ ?_
   refine xs 2 ?_
   refine xc ⟨[1],[]⟩ (tabG 1 (JB x9 a2 x10 x11 x12 x13 r2 hr2)) ?_
   refine xl ?_
   refine xS ?_
   refine xr ?_
   rcases Jc H with⟨hp2,H⟩|⟨hp2,H⟩
   ·obtain⟨F,G,hq2⟩:=xH Y G hp2
    refine xT ?_
    refine xr ?_
    refine xr ?_
    refine KI (Jbx q1 a0 a2) (fun s=>[(0,.c (.pt 1 0)),(1,.c (.fm (EM Try.prog 52 (cvK a0)))),(2,.c (.d (.v (.int .i64 s.1)))),(6,.c (.pt 2 0)),(8,.c (.pt 3 0))]) (fun s=>[[.d (.sl 11 (List.map Jb a2)),.d (.v (.int .i64 s.2.1)),.d (.v (.int .i64 s.2.2.1)),.d (.v (.int .i64 s.2.2.2.1)),.d (.v (.int .i64 s.2.2.2.2.1))],[.d (.v (.int .i64 0)),.d (.v (.int .i64 0)),.sl 3 [] 0],[.d (.v (.int .i64 14)),.d (.v (.int .i64 (-1))),.sl 3 (List.map Jp s.2.2.2.2.2) 4]]) [26] H (xK ⟨[1,2,3],[0]⟩) ?_
    rintro n2 ⟨x17,x18,x19,x20,x21,x22⟩ o2 H hF2
    rw[Jbx]at H
    refine XS ?_
    refine JC (X8 q1 a0 a2 x17 x18 x19 x20 x21 x22) (fun s=>[(0,.c (.pt 1 0)),(1,.c (.fm (EM Try.prog 52 (cvK a0)))),(2,.c (.d (.v (.int .i64 x17)))),(6,.c (.pt 2 0)),(8,.c (.pt 3 0)),(106,.c (.d (.v (.bool s))))]) (fun s=>[[.d (.sl 11 (List.map Jb a2)),.d (.v (.int .i64 x18)),.d (.v (.int .i64 x19)),.d (.v (.int .i64 x20)),.d (.v (.int .i64 x21))],[.d (.v (.int .i64 0)),.d (.v (.int .i64 0)),.sl 3 [] 0],[.d (.v (.int .i64 14)),.d (.v (.int .i64 (-1))),.sl 3 (List.map Jp x22) 4]]) [26] o2 ?_ ?_
    ·obtain⟨r6,hr6,H⟩:=Je H
     have F:=Y
     rcases Jc H with⟨hp6,H⟩|⟨hp6,H⟩
     ·obtain⟨F,G,hq6⟩:=xH F G hp6
      obtain⟨r7,hr7,H⟩:=Je H
      have F:=F
      refine xQ ?_
      refine xs 1 ?_
      refine xc ⟨[1],[]⟩ (tabG 0 (JE a2 x18 x19 x20 x21 r6 hr6)) ?_
      refine xs 3 ?_
      refine xc ⟨[1],[]⟩ (tabG 1 (JB x17 a2 x18 x19 x20 x21 r7 hr7)) ?_
      refine xs 2 ?_
      refine xl ?_
      refine xS ?_
      exact Jd H (xK ⟨[1,2,3],[4]⟩)
     ·obtain⟨F,G,hq6⟩:=xH F G hp6
      refine xQ ?_
      refine xs 1 ?_
      refine xc ⟨[1],[]⟩ (tabG 0 (JE a2 x18 x19 x20 x21 r6 hr6)) ?_
      refine xs 6 ?_
      refine xl ?_
      refine xS ?_
      exact Jd H (xK ⟨[1,2,3],[4]⟩)
    ·rintro x23 H
     rw[X8]at H
     rcases Jc H with⟨hp3,H⟩|⟨hp3,H⟩
     ·obtain⟨F,G,hq3⟩:=xH Y G hp3
      refine xT0 ?_
      refine JbN ?_
      refine Jn ?_
      refine Jfh ?_
      refine JC (Xo q1 a0 a2 x21 x22) (fun s=>[(0,.c (.pt 1 0)),(1,.c (.fm (EM Try.prog 52 (cvK a0)))),(2,.c (.d (.v (.int .i64 s.1)))),(6,.c (.pt 2 0)),(8,.c (.pt 3 0))]) (fun s=>[[.d (.sl 11 (List.map Jb a2)),.d (.v (.int .i64 s.2.1)),.d (.v (.int .i64 s.2.2.1)),.d (.v (.int .i64 s.2.2.2)),.d (.v (.int .i64 x21))],[.d (.v (.int .i64 0)),.d (.v (.int .i64 0)),.sl 3 [] 0],[.d (.v (.int .i64 14)),.d (.v (.int .i64 (-1))),.sl 3 (List.map Jp x22) 4]]) [26] o2 ?_ ?_
      ·refine xS ?_
       refine xr ?_
       rcases Jc H with⟨hp5,H⟩|⟨hp5,H⟩
       ·obtain⟨F,G,hq5⟩:=xH Y G hp5
        refine xT ?_
        obtain⟨r5,hr5,H⟩:=Je H
        have F:=Y
        refine xQ ?_
        refine xs 2 ?_
        refine xc ⟨[1],[]⟩ (tabG 3 (KO x17 [44] a2 x18 x19 x20 x21 r5 hr5)) ?_
        refine xs 1 ?_
        refine xl ?_
        refine xS ?_
        exact Jd H (xK ⟨[1,2,3],[4]⟩)
       ·obtain⟨F,G,hq5⟩:=xH Y G hp5
        refine xE ?_
        exact Jd H (xK ⟨[1,2,3],[4]⟩)
      ·rintro ⟨x24,x25,x26,x27⟩ H
       rw[Xo]at H
       refine xS ?_
       obtain⟨r3,hr3,H⟩:=Je H
       have F:=Y
       refine xQ ?_
       refine xs 1 ?_
       refine xc ⟨[1],[]⟩ (tabG 0 (JE a2 x25 x26 x27 x21 r3 hr3)) ?_
       refine xl ?_
       refine xS ?_
       rcases Jc H with⟨hp4,H⟩|⟨hp4,H⟩
       ·obtain⟨F,G,hq4⟩:=xH Y G hp4
        refine xT ?_
        obtain⟨r4,hr4,H⟩:=Je H
        have F:=Y
        refine xQ ?_
        refine xs 3 ?_
        refine xc ⟨[1],[]⟩ (tabG 2 (Jan q1 a0 x24 1 a2 x25 x26 x27 x21 r4 hr4)) ?_
        refine xs 6 ?_
        refine xl ?_
        refine xS ?_
        obtain⟨hg1,H⟩:=Jg H
        have F:=xZ Y (XN Z4 [(⟨r4.1,r4.2.1,r4.2.2.1⟩:Node)])
        refine xR ?_
        refine xr ?_
        exact JJ (J3 H hF2) (xK ⟨[1,2,3],[9]⟩)
       ·obtain⟨F,G,hq4⟩:=xH Y G hp4
        refine xE ?_
        exact JJ (J3 H hF2) (xK ⟨[1,2,3],[4]⟩)
     ·obtain⟨F,G,hq3⟩:=xH Y G hp3
      replace H:=Jq H hF2
      refine xE ?_
      refine xr ?_
      exact JJ (J3 H hF1) (xK ⟨[1,2,3],[4]⟩)
   ·obtain⟨F,G,hq2⟩:=xH Y G hp2
    refine xE ?_
    refine xr ?_
    rcases Jc H with⟨hp7,H⟩|⟨hp7,H⟩
    ·obtain⟨F,G,hq7⟩:=xH Y G hp7
     refine xT ?_
     obtain⟨r8,hr8,H⟩:=Je H
     have F:=Y
     refine xQ ?_
     refine xs 4 ?_
     refine xc ⟨[1],[]⟩ (tabG 2 (Jan q1 a0 (IntKind.i64.wrap (x9+1)) 0 a2 x10 x11 x12 x13 r8 hr8)) ?_
     refine xs 6 ?_
     refine xl ?_
     refine xS ?_
     refine xr ?_
     obtain⟨r9,hr9,H⟩:=Je H
     have F:=Y
     refine xQ ?_
     refine xs 2 ?_
     refine xc ⟨[1],[]⟩ (tabG 3 (KO r8.2.2.2.1 [93] a2 r8.2.2.2.2.1 r8.2.2.2.2.2.1 r8.2.2.2.2.2.2.1 r8.2.2.2.2.2.2.2 r9 hr9)) ?_
     refine xs 1 ?_
     refine xl ?_
     refine xS ?_
     exact JJ (J3 H hF1) (xK ⟨[1,2,3],[0]⟩)
    ·obtain⟨F,G,hq7⟩:=xH Y G hp7
     refine xE ?_
     replace H:=Jq H hF1
     replace H:=Option.some.inj H
     refine xr ?_
     subst H
     refine xrD [] ?_
     exact xO ⟨[1],[4]⟩
  ·obtain⟨F,G,hq1⟩:=xH Y G hp1
   replace H:=Jq H hF1
   refine xE ?_
   replace H:=Option.some.inj H
   refine xr ?_
   subst H
   refine xrD [] ?_
   exact xO ⟨[1],[4]⟩
noncomputable def Js:Nat→(EB→Int→Int→(List Token)→Int→Int→Int→Int→Option (Int×Int×(List Node)×Int×Int×Int×Int×Int))×(EB→Int→(List Token)→Int→Int→Int→Int→Option (Int×Int×(List Node)×Int×Int×Int×Int×Int))×(EB→Int→(List Token)→Int→Int→Int→Int→Option (Int×Int×(List Node)×Int×Int×Int×Int×Int))
 | 0=>(fun _ _ _ _ _ _ _ _=>none,fun _ _ _ _ _ _ _=>none,fun _ _ _ _ _ _ _=>none)
 | n+1=>(Xw ((Js n).1) ((Js n).2.1) ((Js n).2.2),Jak ((Js n).1) ((Js n).2.1) ((Js n).2.2),JaE ((Js n).1) ((Js n).2.1) ((Js n).2.2))
theorem Jeb:∀ n,Kok Try.prog 59 true (Vh (Js n).1)∧Kok Try.prog 78 true (Vx (Js n).2.1)∧Kok Try.prog 85 true (Xg (Js n).2.2)
 | 0=>⟨⟨JpC,(by rintro _ ⟨_,_,_,_,_,_,_,_,_,H,_⟩; cases H),fun _=>by rintro _ ⟨_,_,_,_,_,_,_,_,_,_,rfl⟩; exact⟨_,_,_,rfl⟩⟩,⟨Jp5,(by rintro _ ⟨_,_,_,_,_,_,_,_,H,_⟩; cases H),fun _=>by rintro _ ⟨_,_,_,_,_,_,_,_,_,rfl⟩; exact⟨_,_,_,rfl⟩⟩,⟨Jp9,(by rintro _ ⟨_,_,_,_,_,_,_,_,H,_⟩; cases H),fun _=>by rintro _ ⟨_,_,_,_,_,_,_,_,_,rfl⟩; exact⟨_,_,_,rfl⟩⟩⟩
 | n+1=>have h:=Jeb n; ⟨⟨JpC,JhX _ _ _ h.1 h.2.1 h.2.2,fun _=>by rintro _ ⟨_,_,_,_,_,_,_,_,_,_,rfl⟩; exact⟨_,_,_,rfl⟩⟩,⟨Jp5,Jhr _ _ _ h.1 h.2.1 h.2.2,fun _=>by rintro _ ⟨_,_,_,_,_,_,_,_,_,rfl⟩; exact⟨_,_,_,rfl⟩⟩,⟨Jp9,JhD _ _ _ h.1 h.2.1 h.2.2,fun _=>by rintro _ ⟨_,_,_,_,_,_,_,_,_,rfl⟩; exact⟨_,_,_,rfl⟩⟩⟩
noncomputable def K3:EB→Int→Int→(List Token)→Int→Int→Int→Int→Option (Int×Int×(List Node)×Int×Int×Int×Int×Int):=(Js bigF).1
def JaG:GI→Prop:=Vh K3
theorem JaD(a0:EB)(a1:Int)(a2:Int)(a3:List Token)(a4:Int)(a5:Int)(a6:Int)(a7:Int)(r:(Int×Int×(List Node)×Int×Int×Int×Int×Int))(H:K3 a0 a1 a2 a3 a4 a5 a6 a7=some r):JaG (Vd a0 a1 a2 a3 a4 a5 a6 a7 r):=Jan K3 a0 a1 a2 a3 a4 a5 a6 a7 r H
theorem JaP:Kok Try.prog 59 true JaG:=(Jeb bigF).1
noncomputable def Vy(a0:EB)(a2:Bool)(x1:Int):(Int×(List UInt8)×Int×Int×Int×Int×(List Node))→Option (Int×(List Node)×Int×EB×Int×Int×Int×Int)
 | (x2,x3,x4,x5,x6,x7,x8)=>(Zr a0 x3 a2).bind fun r4=>some (x1,x8,x2,((x3,a2)::a0),x4,x5,x6,x7)
noncomputable def Xe(a0:EB)(a2:Bool)(a3:List Token)(a4:Int)(a5:Int)(a6:Int)(a7:Int):Int→Option (Int ⊕ (Int×(List Node)×Int×EB×Int×Int×Int×Int))
 | x1=>(Jz x1 a3 a4 a5 a6 a7).bind fun r1=>if(eqS r1 [42])=true then some (.inl (IntKind.i64.wrap (x1+1))) else inrO ((Vr x1 a3 a4 a5 a6 a7).bind fun r2=>(JO a3 r2.1 r2.2.1 r2.2.2 a7).bind fun r3=>if(!r3)=true then some (x1,([]:List Node),x1,a0,r2.1,r2.2.1,r2.2.2,a7) else if(0:Int)≤x1∧x1.toNat<a3.length then(Jz (IntKind.i64.wrap (x1+1)) a3 r2.1 r2.2.1 r2.2.2 a7).bind fun r5=>if(eqS r5 [91])=true then(K3 a0 (IntKind.i64.wrap ((IntKind.i64.wrap (x1+1))+1)) 0 a3 r2.1 r2.2.1 r2.2.2 a7).bind fun r6=>if(([]:List Node).length + [(⟨r6.1,r6.2.1,r6.2.2.1⟩:Node)].length) * 40≤140737488355328 then(JM r6.2.2.2.1 [93] a3 r6.2.2.2.2.1 r6.2.2.2.2.2.1 r6.2.2.2.2.2.2.1 r6.2.2.2.2.2.2.2).bind fun r7=>Vy a0 a2 x1 (r7.1,(a3.getD x1.toNat default).Text,r7.2.1,r7.2.2.1,r7.2.2.2,r6.2.2.2.2.2.2.2,([]:List Node)++[(⟨r6.1,r6.2.1,r6.2.2.1⟩:Node)]) else none else Vy a0 a2 x1 (IntKind.i64.wrap (x1+1),(a3.getD x1.toNat default).Text,r2.1,r2.2.1,r2.2.2,a7,([]:List Node)) else none)
noncomputable def KJ(a0:EB)(a1:Int)(a2:Bool)(a3:List Token)(a4:Int)(a5:Int)(a6:Int)(a7:Int):Option (Int×(List Node)×Int×EB×Int×Int×Int×Int) :=
 Jv (Xe a0 a2 a3 a4 a5 a6 a7) a1
noncomputable def Vf(a0:EB)(a1:Int)(a2:Bool)(a3:List Token)(a4:Int)(a5:Int)(a6:Int)(a7:Int)(r:(Int×(List Node)×Int×EB×Int×Int×Int×Int)):GI :=
 ⟨[.c (.pt 1 0),.c (.fm (EM Try.prog 52 (cvK a0))),.c (.d (.v (.int .i64 a1))),.c (.d (.v (.bool a2)))],[[.d (.sl 11 (List.map Jb a3)),.d (.v (.int .i64 a4)),.d (.v (.int .i64 a5)),.d (.v (.int .i64 a6)),.d (.v (.int .i64 a7))]],[],.ret (.tu [(true,[.d (.v (.int .i64 4)),.d (.v (.int .i64 r.1)),.sl 3 (List.map Jp r.2.1) 2]),(false,[.d (.v (.int .i64 r.2.2.1))]),(false,[.fm (EM Try.prog 52 (cvK r.2.2.2.1))])]) [[.d (.sl 11 (List.map Jb a3)),.d (.v (.int .i64 r.2.2.2.2.1)),.d (.v (.int .i64 r.2.2.2.2.2.1)),.d (.v (.int .i64 r.2.2.2.2.2.2.1)),.d (.v (.int .i64 r.2.2.2.2.2.2.2))]] [26]⟩
def Va:GI→Prop:=fun g=>∃ (a0:EB) (a1:Int) (a2:Bool) (a3:List Token) (a4:Int) (a5:Int) (a6:Int) (a7:Int) (r:(Int×(List Node)×Int×EB×Int×Int×Int×Int)),KJ a0 a1 a2 a3 a4 a5 a6 a7=some r∧g=Vf a0 a1 a2 a3 a4 a5 a6 a7 r
theorem ZJ(a0:EB)(a1:Int)(a2:Bool)(a3:List Token)(a4:Int)(a5:Int)(a6:Int)(a7:Int)(r:(Int×(List Node)×Int×EB×Int×Int×Int×Int))(H:KJ a0 a1 a2 a3 a4 a5 a6 a7=some r):Va (Vf a0 a1 a2 a3 a4 a5 a6 a7 r):=⟨a0,a1,a2,a3,a4,a5,a6,a7,r,H,rfl⟩
theorem JfM:∀ g,Va g→Jx Try.prog 34 g:=by
 rintro _ ⟨a0,a1,a2,a3,a4,a5,a6,a7,r,H,rfl⟩
 refine xGnl mixed [13] [] [(31,true,J6),(58,true,X4),(16,true,KE),(60,true,ZR),(59,true,JaG),(36,true,Vb)] [] trivial ⟨Ks,JcZ,KB,JeH,JaP,V1,trivial⟩ trivial Try.func34 _ ?_
 have G:=True.intro
 have Y:=xZ y_3 <| xZ y_9 <| xZ y_22 <| xZ y_24 <| xZ y_26 <| xZ y_44 <| xZ y_50 <| xZ Try.results34 <| xZ J9.eq_1 <| xZ Jb.eq_1 <| xZ Vn <| xZ Kh.eq_1 <| xZ J5.eq_1 <| xZ Zc.eq_1 <| xZ KC.eq_1 <| xZ ZP.eq_1 <| xZ Vd.eq_1 <| xZ K9.eq_1 <| Vf.eq_1
 dsimp only[Vf]
 simp only[KJ]at H
 refine xS ?_
 refine xr ?_
 refine KI (Xe a0 a2 a3 a4 a5 a6 a7) (fun s=>[(0,.c (.pt 1 0)),(1,.c (.fm (EM Try.prog 52 (cvK a0)))),(2,.c (.d (.v (.int .i64 s)))),(3,.c (.d (.v (.bool a2)))),(8,.c (.pt 2 0))]) (fun s=>[[.d (.sl 11 (List.map Jb a3)),.d (.v (.int .i64 a4)),.d (.v (.int .i64 a5)),.d (.v (.int .i64 a6)),.d (.v (.int .i64 a7))],[.d (.v (.int .i64 0)),.d (.v (.int .i64 0)),.sl 3 [] 0]]) [] H (xK ⟨[1,2],[]⟩) ?_
 rintro n1 x1 o1 H hF1
 rw[Xe]at H
 refine xS ?_
 obtain⟨r1,hr1,H⟩:=Je H
 have F:=Y
 refine xQ ?_
 refine xs 2 ?_
 refine xc ⟨[1],[]⟩ (tabG 0 (JB x1 a3 a4 a5 a6 a7 r1 hr1)) ?_
 refine xs 1 ?_
 refine xl ?_
 refine xS ?_
 rcases Jc H with⟨hp1,H⟩|⟨hp1,H⟩
 ·obtain⟨F,G,hq1⟩:=xH Y G hp1
  refine xT ?_
  refine xr ?_
  exact JJ (J3 H hF1) (xK ⟨[1,2],[]⟩)
 ·obtain⟨F,G,hq1⟩:=xH Y G hp1
  replace H:=Jq H hF1
  refine xE ?_
  refine xr ?_
  obtain⟨r2,hr2,H⟩:=Je H
  have F:=Y
  refine xQ ?_
  refine xs 2 ?_
  refine xc ⟨[1],[]⟩ (tabG 1 (Je4 x1 a3 a4 a5 a6 a7 r2 hr2)) ?_
  refine xl ?_
  refine xS ?_
  obtain⟨r3,hr3,H⟩:=Je H
  have F:=Y
  refine xQ ?_
  refine xs 1 ?_
  refine xc ⟨[1],[]⟩ (tabG 2 (JE a3 r2.1 r2.2.1 r2.2.2 a7 r3 hr3)) ?_
  refine xs 1 ?_
  refine xl ?_
  refine xS ?_
  rcases Jc H with⟨hp2,H⟩|⟨hp2,H⟩
  ·obtain⟨F,G,hq2⟩:=xH Y G hp2
   refine xT ?_
   replace H:=Option.some.inj H
   refine xr ?_
   subst H
   refine xrD [] ?_
   exact xO ⟨[1],[0]⟩
  ·obtain⟨F,G,hq2⟩:=xH Y G hp2
   refine xE ?_
   obtain⟨hg1,H⟩:=Jg H
   have F:=xZ Y (Jt Jb a3 x1.toNat default default (by omega))
   refine xR ?_
   refine xr0 ?_
   refine Jn ?_
   refine JC (Vy a0 a2 x1) (fun s=>[(1,.c (.fm (EM Try.prog 52 (cvK a0)))),(2,.c (.d (.v (.int .i64 s.1)))),(3,.c (.d (.v (.bool a2)))),(8,.c (.pt 2 0)),(11,.c (.pt 3 0)),(12,.c (.d (.v (str s.2.1))))]) (fun s=>[[.d (.sl 11 (List.map Jb a3)),.d (.v (.int .i64 s.2.2.1)),.d (.v (.int .i64 s.2.2.2.1)),.d (.v (.int .i64 s.2.2.2.2.1)),.d (.v (.int .i64 s.2.2.2.2.2.1))],[.d (.v (.int .i64 0)),.d (.v (.int .i64 0)),.sl 3 [] 0],[.d (.v (.int .i64 4)),.d (.v (.int .i64 x1)),.sl 3 (List.map Jp s.2.2.2.2.2.2) 4]]) [26] r ?_ ?_
   ·refine xS ?_
    obtain⟨r5,hr5,H⟩:=Je H
    have F:=Y
    refine xQ ?_
    refine xs 2 ?_
    refine xc ⟨[1],[]⟩ (tabG 0 (JB (IntKind.i64.wrap (x1+1)) a3 r2.1 r2.2.1 r2.2.2 a7 r5 hr5)) ?_
    refine xs 1 ?_
    refine xl ?_
    refine xS ?_
    rcases Jc H with⟨hp3,H⟩|⟨hp3,H⟩
    ·obtain⟨F,G,hq3⟩:=xH Y G hp3
     refine xT ?_
     obtain⟨r6,hr6,H⟩:=Je H
     have F:=Y
     refine xQ ?_
     refine xs 4 ?_
     refine xc ⟨[1],[]⟩ (tabG 4 (JaD a0 (IntKind.i64.wrap ((IntKind.i64.wrap (x1+1))+1)) 0 a3 r2.1 r2.2.1 r2.2.2 a7 r6 hr6)) ?_
     refine xs 6 ?_
     refine xl ?_
     refine xS ?_
     obtain⟨hg2,H⟩:=Jg H
     have F:=xZ Y (XN Z4 [(⟨r6.1,r6.2.1,r6.2.2.1⟩:Node)])
     refine xR ?_
     obtain⟨r7,hr7,H⟩:=Je H
     have F:=Y
     refine xQ ?_
     refine xs 2 ?_
     refine xc ⟨[1],[]⟩ (tabG 5 (KO r6.2.2.2.1 [93] a3 r6.2.2.2.2.1 r6.2.2.2.2.2.1 r6.2.2.2.2.2.2.1 r6.2.2.2.2.2.2.2 r7 hr7)) ?_
     refine xs 1 ?_
     refine xl ?_
     refine xS ?_
     exact Jd H (xK ⟨[1,2,4],[11]⟩)
    ·obtain⟨F,G,hq3⟩:=xH Y G hp3
     refine xE ?_
     exact Jd H (xK ⟨[1,2,4],[0]⟩)
   ·rintro ⟨x2,x3,x4,x5,x6,x7,x8⟩ H
    rw[Vy]at H
    refine xS ?_
    obtain⟨r4,hr4,H⟩:=Je H
    have F:=Y
    refine xP [0,1,2,3,4,5,6,7,8] [63,888888] ⟨Ks,JcZ,KB,JeH,JaP,V1,trivial⟩ ?_
    refine xaX ?_
    refine xsX 4 ?_
    refine xcX ⟨[],[]⟩ (tabG 3 (Jib a0 x3 a2 r4 hr4)) ?_
    refine xsX 3 ?_
    refine xlX ?_
    replace H:=Option.some.inj H
    refine xS ?_
    subst H
    refine xrD [] ?_
    exact xO ⟨[1],[4]⟩
theorem ZK:Jf Try.prog 34∧(∀ g,Va g→Jx Try.prog 34 g)∧(true=true→∀ g,Va g→∃ val bs ts,g.out=.ret val bs ts) :=
 ⟨Jug,JfM,fun _=>by rintro _ ⟨_,_,_,_,_,_,_,_,_,_,rfl⟩; exact⟨_,_,_,rfl⟩⟩
noncomputable def X2(a9:List Token):(EB×Int×Int×Int×Int×Int×(List Node))→Option ((List Node)×Int×EB×Int×Int×Int×Int)
 | (x1,x2,x3,x4,x5,x6,x7)=>(JM x2 [59] a9 x3 x4 x5 x6).bind fun r1=>some (x7,r1.1,x1,r1.2.1,r1.2.2.1,r1.2.2.2,x6)
noncomputable def X3(a8:Bool)(a9:List Token)(x8:EB)(x14:List Node)(x15:Int)(x16:Int):(Int×Int×Int×Int×Int×(List Node))→Option ((EB×Int×Int×Int×Int×Int×(List Node)×Int×Int×(List Node)) ⊕ ((List Node)×Int×EB×Int×Int×Int×Int))
 | (x18,x19,x20,x21,x22,x23)=>if(x14.length + [(⟨x15,x16,x23⟩:Node)].length) * 40≤140737488355328 then(Jz x18 a9 x19 x20 x21 x22).bind fun r3=>if(!eqS r3 [44])=true then inrO (X2 a9 (x8,x18,x19,x20,x21,x22,x14++[(⟨x15,x16,x23⟩:Node)])) else(KJ x8 (IntKind.i64.wrap (x18+1)) a8 a9 x19 x20 x21 x22).bind fun r4=>some (.inl (r4.2.2.2.1,r4.2.2.1,r4.2.2.2.2.1,r4.2.2.2.2.2.1,r4.2.2.2.2.2.2.1,r4.2.2.2.2.2.2.2,x14++[(⟨x15,x16,x23⟩:Node)],4,r4.1,r4.2.1)) else none
noncomputable def X1(a8:Bool)(a9:List Token)(x8:EB)(x9:Int)(x10:Int)(x11:Int)(x12:Int)(x13:Int)(x14:List Node)(x15:Int)(x16:Int)(x17:List Node):Bool→Option ((EB×Int×Int×Int×Int×Int×(List Node)×Int×Int×(List Node)) ⊕ ((List Node)×Int×EB×Int×Int×Int×Int))
 | x24=>if x24=true then(K3 x8 (IntKind.i64.wrap (x9+1)) 1 a9 x10 x11 x12 x13).bind fun r5=>if(x17.length + [(⟨r5.1,r5.2.1,r5.2.2.1⟩:Node)].length) * 40≤140737488355328 then X3 a8 a9 x8 x14 x15 x16 (r5.2.2.2.1,r5.2.2.2.2.1,r5.2.2.2.2.2.1,r5.2.2.2.2.2.2.1,r5.2.2.2.2.2.2.2,x17++[(⟨r5.1,r5.2.1,r5.2.2.1⟩:Node)]) else none else X3 a8 a9 x8 x14 x15 x16 (x9,x10,x11,x12,x13,x17)
noncomputable def Jab(a8:Bool)(a9:List Token):(EB×Int×Int×Int×Int×Int×(List Node)×Int×Int×(List Node))→Option ((EB×Int×Int×Int×Int×Int×(List Node)×Int×Int×(List Node)) ⊕ ((List Node)×Int×EB×Int×Int×Int×Int))
 | (x8,x9,x10,x11,x12,x13,x14,x15,x16,x17)=>(JO a9 x10 x11 x12 x13).bind fun r2=>if r2=true then if(!a8)=true then(Jz x9 a9 x10 x11 x12 x13).bind fun r6=>X1 a8 a9 x8 x9 x10 x11 x12 x13 x14 x15 x16 x17 (eqS r6 [61]) else X1 a8 a9 x8 x9 x10 x11 x12 x13 x14 x15 x16 x17 false else inrO (X2 a9 (x8,x9,x10,x11,x12,x13,x14))
noncomputable def JbD(a0:EB)(a1:Int)(a2:Int)(a3:Int)(a4:List Node)(a5:Int)(a6:Int)(a7:List Node)(a8:Bool)(a9:List Token)(a10:Int)(a11:Int)(a12:Int)(a13:Int):Option ((List Node)×Int×EB×Int×Int×Int×Int) :=
 Jv (Jab a8 a9) (a0,a1,a10,a11,a12,a13,a4,a5,a6,a7)
noncomputable def Zy(a0:EB)(a1:Int)(a2:Int)(a3:Int)(a4:List Node)(a5:Int)(a6:Int)(a7:List Node)(a8:Bool)(a9:List Token)(a10:Int)(a11:Int)(a12:Int)(a13:Int)(r:((List Node)×Int×EB×Int×Int×Int×Int)):GI :=
 ⟨[.c (.pt 1 0),.c (.fm (EM Try.prog 52 (cvK a0))),.c (.d (.v (.int .i64 a1))),.ag [.d (.v (.int .i64 a2)),.d (.v (.int .i64 a3)),.sl 3 (List.map Jp a4) 2],.ag [.d (.v (.int .i64 a5)),.d (.v (.int .i64 a6)),.sl 3 (List.map Jp a7) 3],.c (.d (.v (.bool a8)))],[[.d (.sl 11 (List.map Jb a9)),.d (.v (.int .i64 a10)),.d (.v (.int .i64 a11)),.d (.v (.int .i64 a12)),.d (.v (.int .i64 a13))]],[26,26],.ret (.tu [(true,[.d (.v (.int .i64 a2)),.d (.v (.int .i64 a3)),.sl 3 (List.map Jp r.1) 2]),(false,[.d (.v (.int .i64 r.2.1))]),(false,[.fm (EM Try.prog 52 (cvK r.2.2.1))])]) [[.d (.sl 11 (List.map Jb a9)),.d (.v (.int .i64 r.2.2.2.1)),.d (.v (.int .i64 r.2.2.2.2.1)),.d (.v (.int .i64 r.2.2.2.2.2.1)),.d (.v (.int .i64 r.2.2.2.2.2.2))]] [26]⟩
def ZE:GI→Prop:=fun g=>∃ (a0:EB) (a1:Int) (a2:Int) (a3:Int) (a4:List Node) (a5:Int) (a6:Int) (a7:List Node) (a8:Bool) (a9:List Token) (a10:Int) (a11:Int) (a12:Int) (a13:Int) (r:((List Node)×Int×EB×Int×Int×Int×Int)),JbD a0 a1 a2 a3 a4 a5 a6 a7 a8 a9 a10 a11 a12 a13=some r∧g=Zy a0 a1 a2 a3 a4 a5 a6 a7 a8 a9 a10 a11 a12 a13 r
theorem JfK(a0:EB)(a1:Int)(a2:Int)(a3:Int)(a4:List Node)(a5:Int)(a6:Int)(a7:List Node)(a8:Bool)(a9:List Token)(a10:Int)(a11:Int)(a12:Int)(a13:Int)(r:((List Node)×Int×EB×Int×Int×Int×Int))(H:JbD a0 a1 a2 a3 a4 a5 a6 a7 a8 a9 a10 a11 a12 a13=some r):ZE (Zy a0 a1 a2 a3 a4 a5 a6 a7 a8 a9 a10 a11 a12 a13 r):=⟨a0,a1,a2,a3,a4,a5,a6,a7,a8,a9,a10,a11,a12,a13,r,H,rfl⟩
theorem JiS:∀ g,ZE g→Jx Try.prog 35 g:=by
 rintro _ ⟨a0,a1,a2,a3,a4,a5,a6,a7,a8,a9,a10,a11,a12,a13,r,H,rfl⟩
 refine xGnl mixed [9] [] [(36,true,Vb),(16,true,KE),(31,true,J6),(34,true,Va),(59,true,JaG)] [] trivial ⟨V1,KB,Ks,ZK,JaP,trivial⟩ trivial Try.func35 _ ?_
 have G:=True.intro
 have Y:=xZ y_24 <| xZ y_26 <| xZ Try.results35 <| xZ J9.eq_1 <| xZ Jb.eq_1 <| xZ Vn <| xZ Kh.eq_1 <| xZ K9.eq_1 <| xZ KC.eq_1 <| xZ J5.eq_1 <| xZ Vf.eq_1 <| xZ Vd.eq_1 <| Zy.eq_1
 dsimp only[Zy]
 simp only[JbD]at H
 refine xS ?_
 refine xr0 ?_
 refine Jn ?_
 refine JC (X2 a9) (fun s=>[(0,.c (.pt 1 0)),(1,.c (.fm (EM Try.prog 52 (cvK s.1)))),(2,.c (.d (.v (.int .i64 s.2.1)))),(9,.c (.pt 2 0)),(12,.c (.pt 3 0))]) (fun s=>[[.d (.sl 11 (List.map Jb a9)),.d (.v (.int .i64 s.2.2.1)),.d (.v (.int .i64 s.2.2.2.1)),.d (.v (.int .i64 s.2.2.2.2.1)),.d (.v (.int .i64 s.2.2.2.2.2.1))],[.d (.v (.int .i64 a2)),.d (.v (.int .i64 a3)),.sl 3 (List.map Jp s.2.2.2.2.2.2) 4],[.d (.v (.int .i64 0)),.d (.v (.int .i64 0)),.sl 3 [] 0]]) [26] r ?_ ?_
 ·refine xS ?_
  refine KI (Jab a8 a9) (fun s=>[(0,.c (.pt 1 0)),(1,.c (.fm (EM Try.prog 52 (cvK s.1)))),(2,.c (.d (.v (.int .i64 s.2.1)))),(5,.c (.d (.v (.bool a8)))),(9,.c (.pt 2 0)),(10,.c (.pt 3 0)),(12,.c (.pt 4 0))]) (fun s=>[[.d (.sl 11 (List.map Jb a9)),.d (.v (.int .i64 s.2.2.1)),.d (.v (.int .i64 s.2.2.2.1)),.d (.v (.int .i64 s.2.2.2.2.1)),.d (.v (.int .i64 s.2.2.2.2.2.1))],[.d (.v (.int .i64 a2)),.d (.v (.int .i64 a3)),.sl 3 (List.map Jp s.2.2.2.2.2.2.1) 5],[.d (.v (.int .i64 s.2.2.2.2.2.2.2.1)),.d (.v (.int .i64 s.2.2.2.2.2.2.2.2.1)),.sl 3 (List.map Jp s.2.2.2.2.2.2.2.2.2) 6],[.d (.v (.int .i64 0)),.d (.v (.int .i64 0)),.sl 3 [] 0]]) [26,26] H (xK ⟨[1,4,5,6],[2,3]⟩) ?_
  rintro n1 ⟨x8,x9,x10,x11,x12,x13,x14,x15,x16,x17⟩ o1 H hF1
  rw[Jab]at H
  refine xS ?_
  obtain⟨r2,hr2,H⟩:=Je H
  have F:=Y
  refine xQ ?_
  refine xs 1 ?_
  refine xc ⟨[1],[]⟩ (tabG 1 (JE a9 x10 x11 x12 x13 r2 hr2)) ?_
  refine xl ?_
  refine xS ?_
  rcases Jc H with⟨hp1,H⟩|⟨hp1,H⟩
  ·obtain⟨F,G,hq1⟩:=xH Y G hp1
   refine xT0 ?_
   refine JbN ?_
   refine Jn ?_
   refine Jfh ?_
   refine JC (X3 a8 a9 x8 x14 x15 x16) (fun s=>[(0,.c (.pt 1 0)),(1,.c (.fm (EM Try.prog 52 (cvK x8)))),(2,.c (.d (.v (.int .i64 s.1)))),(5,.c (.d (.v (.bool a8)))),(9,.c (.pt 2 0)),(10,.c (.pt 3 0)),(12,.c (.pt 4 0))]) (fun s=>[[.d (.sl 11 (List.map Jb a9)),.d (.v (.int .i64 s.2.1)),.d (.v (.int .i64 s.2.2.1)),.d (.v (.int .i64 s.2.2.2.1)),.d (.v (.int .i64 s.2.2.2.2.1))],[.d (.v (.int .i64 a2)),.d (.v (.int .i64 a3)),.sl 3 (List.map Jp x14) 5],[.d (.v (.int .i64 x15)),.d (.v (.int .i64 x16)),.sl 3 (List.map Jp s.2.2.2.2.2) 6],[.d (.v (.int .i64 0)),.d (.v (.int .i64 0)),.sl 3 [] 0]]) [26,26] o1 ?_ ?_
   ·refine JC (X1 a8 a9 x8 x9 x10 x11 x12 x13 x14 x15 x16 x17) (fun s=>[(0,.c (.pt 1 0)),(1,.c (.fm (EM Try.prog 52 (cvK x8)))),(2,.c (.d (.v (.int .i64 x9)))),(5,.c (.d (.v (.bool a8)))),(9,.c (.pt 2 0)),(10,.c (.pt 3 0)),(12,.c (.pt 4 0)),(26,.c (.d (.v (.bool s))))]) (fun s=>[[.d (.sl 11 (List.map Jb a9)),.d (.v (.int .i64 x10)),.d (.v (.int .i64 x11)),.d (.v (.int .i64 x12)),.d (.v (.int .i64 x13))],[.d (.v (.int .i64 a2)),.d (.v (.int .i64 a3)),.sl 3 (List.map Jp x14) 5],[.d (.v (.int .i64 x15)),.d (.v (.int .i64 x16)),.sl 3 (List.map Jp x17) 6],[.d (.v (.int .i64 0)),.d (.v (.int .i64 0)),.sl 3 [] 0]]) [26,26] o1 ?_ ?_
    ·rcases Jc H with⟨hp4,H⟩|⟨hp4,H⟩
     ·obtain⟨F,G,hq4⟩:=xH Y G hp4
      obtain⟨r6,hr6,H⟩:=Je H
      have F:=F
      refine xQ ?_
      refine xs 5 ?_
      refine xc ⟨[1],[]⟩ (tabG 2 (JB x9 a9 x10 x11 x12 x13 r6 hr6)) ?_
      refine xs 2 ?_
      refine xl ?_
      refine xS ?_
      exact Jd H (xK ⟨[1,2,3,4],[5,6]⟩)
     ·obtain⟨F,G,hq4⟩:=xH Y G hp4
      refine xR ?_
      exact Jd H (xK ⟨[1,2,3,4],[5,6]⟩)
    ·rintro x24 H
     rw[X1]at H
     rcases Jc H with⟨hp3,H⟩|⟨hp3,H⟩
     ·obtain⟨F,G,hq3⟩:=xH Y G hp3
      refine xT ?_
      obtain⟨r5,hr5,H⟩:=Je H
      have F:=Y
      refine xQ ?_
      refine xs 4 ?_
      refine xc ⟨[1],[]⟩ (tabG 4 (JaD x8 (IntKind.i64.wrap (x9+1)) 1 a9 x10 x11 x12 x13 r5 hr5)) ?_
      refine xs 6 ?_
      refine xl ?_
      refine xS ?_
      obtain⟨hg2,H⟩:=Jg H
      have F:=xZ Y (XN Z4 [(⟨r5.1,r5.2.1,r5.2.2.1⟩:Node)])
      refine xR ?_
      refine xr ?_
      exact Jd H (xK ⟨[1,2,3,4],[5,10]⟩)
     ·obtain⟨F,G,hq3⟩:=xH Y G hp3
      refine xE ?_
      exact Jd H (xK ⟨[1,2,3,4],[5,6]⟩)
   ·rintro ⟨x18,x19,x20,x21,x22,x23⟩ H
    rw[X3]at H
    refine xS ?_
    obtain⟨hg1,H⟩:=Jg H
    have F:=xZ Y (XN Z4 [(⟨x15,x16,x23⟩:Node)])
    refine xR ?_
    obtain⟨r3,hr3,H⟩:=Je H
    have F:=Y
    refine xQ ?_
    refine xs 2 ?_
    refine xc ⟨[1],[]⟩ (tabG 2 (JB x18 a9 x19 x20 x21 x22 r3 hr3)) ?_
    refine xs 1 ?_
    refine xl ?_
    refine xS ?_
    rcases Jc H with⟨hp2,H⟩|⟨hp2,H⟩
    ·obtain⟨F,G,hq2⟩:=xH Y G hp2
     replace H:=Jq H hF1
     refine xT ?_
     exact Jd H (xK ⟨[1,2,4],[7]⟩)
    ·obtain⟨F,G,hq2⟩:=xH Y G hp2
     refine xE ?_
     obtain⟨r4,hr4,H⟩:=Je H
     have F:=Y
     refine xQ ?_
     refine xs 5 ?_
     refine xc ⟨[1],[]⟩ (tabG 3 (ZJ x8 (IntKind.i64.wrap (x18+1)) a8 a9 x19 x20 x21 x22 r4 hr4)) ?_
     refine xs 7 ?_
     refine xl ?_
     refine xS ?_
     exact JJ (J3 H hF1) (xK ⟨[1,2,3,4],[7,10]⟩)
  ·obtain⟨F,G,hq1⟩:=xH Y G hp1
   replace H:=Jq H hF1
   refine xE ?_
   exact Jd H (xK ⟨[1,2,4],[5]⟩)
 ·rintro ⟨x1,x2,x3,x4,x5,x6,x7⟩ H
  rw[X2]at H
  refine xS ?_
  obtain⟨r1,hr1,H⟩:=Je H
  have F:=Y
  refine xP [0,1,2,4,3,5,6,7] [62,888888] ⟨V1,KB,Ks,ZK,JaP,trivial⟩ ?_
  refine xaX ?_
  refine xsX 3 ?_
  refine xcX ⟨[1],[]⟩ (tabG 0 (KO x2 [59] a9 x3 x4 x5 x6 r1 hr1)) ?_
  refine xsX 3 ?_
  refine xlX ?_
  replace H:=Option.some.inj H
  refine xS ?_
  subst H
  refine xrD [] ?_
  exact xO ⟨[1],[4]⟩
theorem Jfz:Jf Try.prog 35∧(∀ g,ZE g→Jx Try.prog 35 g)∧(true=true→∀ g,ZE g→∃ val bs ts,g.out=.ret val bs ts) :=
 ⟨JtZ,JiS,fun _=>by rintro _ ⟨_,_,_,_,_,_,_,_,_,_,_,_,_,_,_,_,rfl⟩; exact⟨_,_,_,rfl⟩⟩
noncomputable def XZ(a0:EB)(a2:List Token)(a3:Int)(a4:Int)(a5:Int)(a6:Int):(Int×Bool)→Option (Int×Int×(List Node)×Int×EB×Int×Int×Int×Int)
 | (x1,x2)=>(Xd a0 x1 a2 a3 a4 a5 a6).bind fun r2=>(JO a2 r2.2.1 r2.2.2.1 r2.2.2.2 a6).bind fun r3=>if(!r3)=true then some (16,x1,([]:List Node),r2.1,a0,r2.2.1,r2.2.2.1,r2.2.2.2,a6) else(KJ a0 r2.1 x2 a2 r2.2.1 r2.2.2.1 r2.2.2.2 a6).bind fun r4=>(JbD r4.2.2.2.1 r4.2.2.1 2 (-1) [(⟨16,x1,([]:List Node)⟩:Node)] 4 r4.1 r4.2.1 x2 a2 r4.2.2.2.2.1 r4.2.2.2.2.2.1 r4.2.2.2.2.2.2.1 r4.2.2.2.2.2.2.2).bind fun r5=>some (2,(-1),r5.1,r5.2.1,r5.2.2.1,r5.2.2.2.1,r5.2.2.2.2.1,r5.2.2.2.2.2.1,r5.2.2.2.2.2.2)
noncomputable def ZC(a0:EB)(a1:Int)(a2:List Token)(a3:Int)(a4:Int)(a5:Int)(a6:Int):Option (Int×Int×(List Node)×Int×EB×Int×Int×Int×Int) :=
 (Jz a1 a2 a3 a4 a5 a6).bind fun r1=>if(eqS r1 [116,121,112,101,100,101,102])=true then XZ a0 a2 a3 a4 a5 a6 (IntKind.i64.wrap (a1+1),true) else XZ a0 a2 a3 a4 a5 a6 (a1,false)
noncomputable def Zu(a0:EB)(a1:Int)(a2:List Token)(a3:Int)(a4:Int)(a5:Int)(a6:Int)(r:(Int×Int×(List Node)×Int×EB×Int×Int×Int×Int)):GI :=
 ⟨[.c (.pt 1 0),.c (.fm (EM Try.prog 52 (cvK a0))),.c (.d (.v (.int .i64 a1)))],[[.d (.sl 11 (List.map Jb a2)),.d (.v (.int .i64 a3)),.d (.v (.int .i64 a4)),.d (.v (.int .i64 a5)),.d (.v (.int .i64 a6))]],[],.ret (.tu [(true,[.d (.v (.int .i64 r.1)),.d (.v (.int .i64 r.2.1)),.sl 3 (List.map Jp r.2.2.1) 2]),(false,[.d (.v (.int .i64 r.2.2.2.1))]),(false,[.fm (EM Try.prog 52 (cvK r.2.2.2.2.1))])]) [[.d (.sl 11 (List.map Jb a2)),.d (.v (.int .i64 r.2.2.2.2.2.1)),.d (.v (.int .i64 r.2.2.2.2.2.2.1)),.d (.v (.int .i64 r.2.2.2.2.2.2.2.1)),.d (.v (.int .i64 r.2.2.2.2.2.2.2.2))]] [26]⟩
def Zz:GI→Prop:=fun g=>∃ (a0:EB) (a1:Int) (a2:List Token) (a3:Int) (a4:Int) (a5:Int) (a6:Int) (r:(Int×Int×(List Node)×Int×EB×Int×Int×Int×Int)),ZC a0 a1 a2 a3 a4 a5 a6=some r∧g=Zu a0 a1 a2 a3 a4 a5 a6 r
theorem Jfx(a0:EB)(a1:Int)(a2:List Token)(a3:Int)(a4:Int)(a5:Int)(a6:Int)(r:(Int×Int×(List Node)×Int×EB×Int×Int×Int×Int))(H:ZC a0 a1 a2 a3 a4 a5 a6=some r):Zz (Zu a0 a1 a2 a3 a4 a5 a6 r):=⟨a0,a1,a2,a3,a4,a5,a6,r,H,rfl⟩
theorem JiV:∀ g,Zz g→Jx Try.prog 32 g:=by
 rintro _ ⟨a0,a1,a2,a3,a4,a5,a6,r,H,rfl⟩
 refine xGn mixed [] [(31,true,J6),(33,true,ZG),(16,true,KE),(34,true,Va),(35,true,ZE)] [] trivial ⟨Ks,Jfj,KB,ZK,Jfz,trivial⟩ trivial Try.func32 _ ?_
 have G:=True.intro
 have Y:=xZ y_3 <| xZ y_24 <| xZ y_26 <| xZ Try.results32 <| xZ J9.eq_1 <| xZ Jb.eq_1 <| xZ Vn <| xZ Kh.eq_1 <| xZ J5.eq_1 <| xZ ZF.eq_1 <| xZ KC.eq_1 <| xZ Vf.eq_1 <| xZ Zy.eq_1 <| Zu.eq_1
 dsimp only[Zu]
 simp only[ZC]at H
 refine xS ?_
 refine xr ?_
 obtain⟨r1,hr1,H⟩:=Je H
 have F:=Y
 refine xQ ?_
 refine xs 2 ?_
 refine xc ⟨[1],[]⟩ (tabG 0 (JB a1 a2 a3 a4 a5 a6 r1 hr1)) ?_
 refine xs 2 ?_
 refine xl ?_
 refine  ?_
 refine Jn ?_
 refine JC (XZ a0 a2 a3 a4 a5 a6) (fun s=>[(0,.c (.pt 1 0)),(1,.c (.fm (EM Try.prog 52 (cvK a0)))),(2,.c (.d (.v (.int .i64 s.1)))),(6,.c (.pt 2 0)),(9,.c (.d (.v (.bool s.2))))]) (fun s=>[[.d (.sl 11 (List.map Jb a2)),.d (.v (.int .i64 a3)),.d (.v (.int .i64 a4)),.d (.v (.int .i64 a5)),.d (.v (.int .i64 a6))],[.d (.v (.int .i64 0)),.d (.v (.int .i64 0)),.sl 3 [] 0]]) [] r ?_ ?_
 ·refine xS ?_
  refine xr ?_
  rcases Jc H with⟨hp2,H⟩|⟨hp2,H⟩
  ·obtain⟨F,G,hq2⟩:=xH Y G hp2
   refine xT ?_
   refine xr ?_
   exact Jd H (xK ⟨[1,2],[]⟩)
  ·obtain⟨F,G,hq2⟩:=xH Y G hp2
   refine xE ?_
   exact Jd H (xK ⟨[1,2],[]⟩)
 ·rintro ⟨x1,x2⟩ H
  rw[XZ]at H
  refine xS ?_
  obtain⟨r2,hr2,H⟩:=Je H
  have F:=Y
  refine xQ ?_
  refine xs 3 ?_
  refine xc ⟨[1],[]⟩ (tabG 1 (Jdp a0 x1 a2 a3 a4 a5 a6 r2 hr2)) ?_
  refine xs 6 ?_
  refine xl ?_
  refine xS ?_
  obtain⟨r3,hr3,H⟩:=Je H
  have F:=Y
  refine xQ ?_
  refine xs 1 ?_
  refine xc ⟨[1],[]⟩ (tabG 2 (JE a2 r2.2.1 r2.2.2.1 r2.2.2.2 a6 r3 hr3)) ?_
  refine xs 1 ?_
  refine xl ?_
  refine xS ?_
  rcases Jc H with⟨hp1,H⟩|⟨hp1,H⟩
  ·obtain⟨F,G,hq1⟩:=xH Y G hp1
   refine xT ?_
   replace H:=Option.some.inj H
   refine xr ?_
   subst H
   refine xrD [] ?_
   exact xO ⟨[1],[0]⟩
  ·obtain⟨F,G,hq1⟩:=xH Y G hp1
   refine xE ?_
   obtain⟨r4,hr4,H⟩:=Je H
   have F:=Y
   refine xQ ?_
   refine xs 4 ?_
   refine xc ⟨[1],[]⟩ (tabG 3 (ZJ a0 r2.1 x2 a2 r2.2.1 r2.2.2.1 r2.2.2.2 a6 r4 hr4)) ?_
   refine xs 8 ?_
   refine xl ?_
   refine xS ?_
   obtain⟨r5,hr5,H⟩:=Je H
   have F:=Y
   refine xQ ?_
   refine xs 8 ?_
   refine xc ⟨[1],[0,7]⟩ (tabG 4 (JfK r4.2.2.2.1 r4.2.2.1 2 (-1) [(⟨16,x1,([]:List Node)⟩:Node)] 4 r4.1 r4.2.1 x2 a2 r4.2.2.2.2.1 r4.2.2.2.2.2.1 r4.2.2.2.2.2.2.1 r4.2.2.2.2.2.2.2 r5 hr5)) ?_
   refine xs 6 ?_
   refine xl ?_
   replace H:=Option.some.inj H
   refine xS ?_
   subst H
   refine xrD [] ?_
   exact xO ⟨[1],[10]⟩
theorem Jfm:Jf Try.prog 32∧(∀ g,Zz g→Jx Try.prog 32 g)∧(true=true→∀ g,Zz g→∃ val bs ts,g.out=.ret val bs ts) :=
 ⟨JtO,JiV,fun _=>by rintro _ ⟨_,_,_,_,_,_,_,_,_,rfl⟩; exact⟨_,_,_,rfl⟩⟩
noncomputable def Xm(a0:EB)(a1:Int)(a2:List Token)(a3:Int)(a4:Int)(a5:Int)(a6:Int)(r:((List Node)×Int×Int×Int×Int×Int)):GI :=
 ⟨[.c (.pt 1 0),.c (.fm (EM Try.prog 52 (cvK a0))),.c (.d (.v (.int .i64 a1)))],[[.d (.sl 11 (List.map Jb a2)),.d (.v (.int .i64 a3)),.d (.v (.int .i64 a4)),.d (.v (.int .i64 a5)),.d (.v (.int .i64 a6))]],[],.ret (.tu [(true,[.d (.v (.int .i64 5)),.d (.v (.int .i64 (-1))),.sl 3 (List.map Jp r.1) 2]),(false,[.d (.v (.int .i64 r.2.1))])]) [[.d (.sl 11 (List.map Jb a2)),.d (.v (.int .i64 r.2.2.1)),.d (.v (.int .i64 r.2.2.2.1)),.d (.v (.int .i64 r.2.2.2.2.1)),.d (.v (.int .i64 r.2.2.2.2.2))]] [26]⟩
def V3(q:EB→Int→(List Token)→Int→Int→Int→Int→Option ((List Node)×Int×Int×Int×Int×Int)):GI→Prop:=fun g=>∃ (a0:EB) (a1:Int) (a2:List Token) (a3:Int) (a4:Int) (a5:Int) (a6:Int) (r:((List Node)×Int×Int×Int×Int×Int)),q a0 a1 a2 a3 a4 a5 a6=some r∧g=Xm a0 a1 a2 a3 a4 a5 a6 r
theorem JeO(q:EB→Int→(List Token)→Int→Int→Int→Int→Option ((List Node)×Int×Int×Int×Int×Int))(a0:EB)(a1:Int)(a2:List Token)(a3:Int)(a4:Int)(a5:Int)(a6:Int)(r:((List Node)×Int×Int×Int×Int×Int))(H:q a0 a1 a2 a3 a4 a5 a6=some r):V3 q (Xm a0 a1 a2 a3 a4 a5 a6 r):=⟨a0,a1,a2,a3,a4,a5,a6,r,H,rfl⟩
noncomputable def Zq(a0:EB)(a1:Int)(a2:List Token)(a3:Int)(a4:Int)(a5:Int)(a6:Int)(r:(Int×Int×(List Node)×Int×EB×Int×Int×Int×Int)):GI :=
 ⟨[.c (.pt 1 0),.c (.fm (EM Try.prog 52 (cvK a0))),.c (.d (.v (.int .i64 a1)))],[[.d (.sl 11 (List.map Jb a2)),.d (.v (.int .i64 a3)),.d (.v (.int .i64 a4)),.d (.v (.int .i64 a5)),.d (.v (.int .i64 a6))]],[],.ret (.tu [(true,[.d (.v (.int .i64 r.1)),.d (.v (.int .i64 r.2.1)),.sl 3 (List.map Jp r.2.2.1) 2]),(false,[.d (.v (.int .i64 r.2.2.2.1))]),(false,[.fm (EM Try.prog 52 (cvK r.2.2.2.2.1))])]) [[.d (.sl 11 (List.map Jb a2)),.d (.v (.int .i64 r.2.2.2.2.2.1)),.d (.v (.int .i64 r.2.2.2.2.2.2.1)),.d (.v (.int .i64 r.2.2.2.2.2.2.2.1)),.d (.v (.int .i64 r.2.2.2.2.2.2.2.2))]] [26]⟩
def Xl(q:EB→Int→(List Token)→Int→Int→Int→Int→Option (Int×Int×(List Node)×Int×EB×Int×Int×Int×Int)):GI→Prop:=fun g=>∃ (a0:EB) (a1:Int) (a2:List Token) (a3:Int) (a4:Int) (a5:Int) (a6:Int) (r:(Int×Int×(List Node)×Int×EB×Int×Int×Int×Int)),q a0 a1 a2 a3 a4 a5 a6=some r∧g=Zq a0 a1 a2 a3 a4 a5 a6 r
theorem Je0(q:EB→Int→(List Token)→Int→Int→Int→Int→Option (Int×Int×(List Node)×Int×EB×Int×Int×Int×Int))(a0:EB)(a1:Int)(a2:List Token)(a3:Int)(a4:Int)(a5:Int)(a6:Int)(r:(Int×Int×(List Node)×Int×EB×Int×Int×Int×Int))(H:q a0 a1 a2 a3 a4 a5 a6=some r):Xl q (Zq a0 a1 a2 a3 a4 a5 a6 r):=⟨a0,a1,a2,a3,a4,a5,a6,r,H,rfl⟩
noncomputable def VV:(Int×Int×Int×Int×Int×(List Node))→Option ((List Node)×Int×Int×Int×Int×Int)
 | (x1,x2,x3,x4,x5,x6)=>some (x6,IntKind.i64.wrap (x1+1),x2,x3,x4,IntKind.i64.wrap (x5-1))
noncomputable def XH(q2:EB→Int→(List Token)→Int→Int→Int→Int→Option (Int×Int×(List Node)×Int×EB×Int×Int×Int×Int))(a2:List Token)(x7:EB)(x8:Int)(x9:Int)(x10:Int)(x11:Int)(x12:Int)(x13:List Node):Bool→Option ((EB×Int×Int×Int×Int×Int×(List Node)) ⊕ ((List Node)×Int×Int×Int×Int×Int))
 | x14=>if x14=true then if(leI (a2.length:Int) x8)=true then(Vm x8 9 a2 x9 x10 x11 x12).bind fun r3=>inrO (VV (x8,r3.1,r3.2.1,r3.2.2,x12,x13)) else(q2 x7 x8 a2 x9 x10 x11 x12).bind fun r4=>if(x13.length + [(⟨r4.1,r4.2.1,r4.2.2.1⟩:Node)].length) * 40≤140737488355328 then some (.inl (r4.2.2.2.2.1,r4.2.2.2.1,r4.2.2.2.2.2.1,r4.2.2.2.2.2.2.1,r4.2.2.2.2.2.2.2.1,r4.2.2.2.2.2.2.2.2,x13++[(⟨r4.1,r4.2.1,r4.2.2.1⟩:Node)])) else none else inrO (VV (x8,x9,x10,x11,x12,x13))
noncomputable def ZN(q2:EB→Int→(List Token)→Int→Int→Int→Int→Option (Int×Int×(List Node)×Int×EB×Int×Int×Int×Int))(a2:List Token):(EB×Int×Int×Int×Int×Int×(List Node))→Option ((EB×Int×Int×Int×Int×Int×(List Node)) ⊕ ((List Node)×Int×Int×Int×Int×Int))
 | (x7,x8,x9,x10,x11,x12,x13)=>(JO a2 x9 x10 x11 x12).bind fun r5=>if r5=true then(Jz x8 a2 x9 x10 x11 x12).bind fun r6=>XH q2 a2 x7 x8 x9 x10 x11 x12 x13 (!eqS r6 [125]) else XH q2 a2 x7 x8 x9 x10 x11 x12 x13 false
noncomputable def Jae(q1:EB→Int→(List Token)→Int→Int→Int→Int→Option ((List Node)×Int×Int×Int×Int×Int))(q2:EB→Int→(List Token)→Int→Int→Int→Int→Option (Int×Int×(List Node)×Int×EB×Int×Int×Int×Int))(a0:EB)(a1:Int)(a2:List Token)(a3:Int)(a4:Int)(a5:Int)(a6:Int):Option ((List Node)×Int×Int×Int×Int×Int) :=
 (KK a1 a2 a3 a4 a5 a6).bind fun r1=>if(!r1.1)=true then some (([]:List Node),a1,r1.2.1,r1.2.2.1,r1.2.2.2.1,r1.2.2.2.2) else(JM a1 [123] a2 r1.2.1 r1.2.2.1 r1.2.2.2.1 r1.2.2.2.2).bind fun r2=>Jv (ZN q2 a2) (a0,r2.1,r2.2.1,r2.2.2.1,r2.2.2.2,r1.2.2.2.2,([]:List Node))
theorem Jhs(q1:EB→Int→(List Token)→Int→Int→Int→Int→Option ((List Node)×Int×Int×Int×Int×Int))(q2:EB→Int→(List Token)→Int→Int→Int→Int→Option (Int×Int×(List Node)×Int×EB×Int×Int×Int×Int))(kq1:Kok Try.prog 37 true (V3 q1))(kq2:Kok Try.prog 62 true (Xl q2)):∀ g,V3 (Jae q1 q2) g→Jx Try.prog 37 g:=by
 rintro _ ⟨a0,a1,a2,a3,a4,a5,a6,r,H,rfl⟩
 refine xGn mixed [] [(61,true,VM),(36,true,Vb),(57,true,Vc),(62,true,(Xl q2)),(16,true,KE),(31,true,J6)] [] trivial ⟨JbA,V1,Zo,kq2,KB,Ks,trivial⟩ trivial Try.func37 _ ?_
 have G:=True.intro
 have Y:=xZ y_3 <| xZ y_22 <| xZ y_24 <| xZ y_26 <| xZ y_44 <| xZ y_50 <| xZ Try.results37 <| xZ J9.eq_1 <| xZ Jb.eq_1 <| xZ Vn <| xZ Kh.eq_1 <| xZ VJ.eq_1 <| xZ K9.eq_1 <| xZ Vg.eq_1 <| xZ Zq.eq_1 <| xZ KC.eq_1 <| xZ J5.eq_1 <| Xm.eq_1
 dsimp only[Xm]
 simp only[Jae]at H
 refine xS ?_
 refine xr ?_
 refine xr ?_
 obtain⟨r1,hr1,H⟩:=Je H
 have F:=Y
 refine xQ ?_
 refine xs 2 ?_
 refine xc ⟨[1],[]⟩ (tabG 0 (Jbu a1 a2 a3 a4 a5 a6 r1 hr1)) ?_
 refine xs 1 ?_
 refine xl ?_
 refine xS ?_
 rcases Jc H with⟨hp1,H⟩|⟨hp1,H⟩
 ·obtain⟨F,G,hq1⟩:=xH Y G hp1
  refine xT ?_
  replace H:=Option.some.inj H
  refine xr ?_
  subst H
  refine xrD [] ?_
  exact xO ⟨[1],[0]⟩
 ·obtain⟨F,G,hq1⟩:=xH Y G hp1
  refine xE ?_
  obtain⟨r2,hr2,H⟩:=Je H
  have F:=Y
  refine xQ ?_
  refine xs 2 ?_
  refine xc ⟨[1],[]⟩ (tabG 1 (KO a1 [123] a2 r1.2.1 r1.2.2.1 r1.2.2.2.1 r1.2.2.2.2 r2 hr2)) ?_
  refine xs 1 ?_
  refine xl ?_
  refine  ?_
  refine Jn ?_
  refine JC VV (fun s=>[(0,.c (.pt 1 0)),(2,.c (.d (.v (.int .i64 s.1)))),(6,.c (.pt 2 0)),(8,.c (.pt 3 0))]) (fun s=>[[.d (.sl 11 (List.map Jb a2)),.d (.v (.int .i64 s.2.1)),.d (.v (.int .i64 s.2.2.1)),.d (.v (.int .i64 s.2.2.2.1)),.d (.v (.int .i64 s.2.2.2.2.1))],[.d (.v (.int .i64 0)),.d (.v (.int .i64 0)),.sl 3 [] 0],[.d (.v (.int .i64 5)),.d (.v (.int .i64 (-1))),.sl 3 (List.map Jp s.2.2.2.2.2) 4]]) [26] r ?_ ?_
  ·refine xS ?_
   refine KI (ZN q2 a2) (fun s=>[(0,.c (.pt 1 0)),(1,.c (.fm (EM Try.prog 52 (cvK s.1)))),(2,.c (.d (.v (.int .i64 s.2.1)))),(6,.c (.pt 2 0)),(8,.c (.pt 3 0))]) (fun s=>[[.d (.sl 11 (List.map Jb a2)),.d (.v (.int .i64 s.2.2.1)),.d (.v (.int .i64 s.2.2.2.1)),.d (.v (.int .i64 s.2.2.2.2.1)),.d (.v (.int .i64 s.2.2.2.2.2.1))],[.d (.v (.int .i64 0)),.d (.v (.int .i64 0)),.sl 3 [] 0],[.d (.v (.int .i64 5)),.d (.v (.int .i64 (-1))),.sl 3 (List.map Jp s.2.2.2.2.2.2) 4]]) [26] H (xK ⟨[1,2,3],[0]⟩) ?_
   rintro n1 ⟨x7,x8,x9,x10,x11,x12,x13⟩ o1 H hF1
   rw[ZN]at H
   refine XS ?_
   refine JC (XH q2 a2 x7 x8 x9 x10 x11 x12 x13) (fun s=>[(0,.c (.pt 1 0)),(1,.c (.fm (EM Try.prog 52 (cvK x7)))),(2,.c (.d (.v (.int .i64 x8)))),(6,.c (.pt 2 0)),(8,.c (.pt 3 0)),(29,.c (.d (.v (.bool s))))]) (fun s=>[[.d (.sl 11 (List.map Jb a2)),.d (.v (.int .i64 x9)),.d (.v (.int .i64 x10)),.d (.v (.int .i64 x11)),.d (.v (.int .i64 x12))],[.d (.v (.int .i64 0)),.d (.v (.int .i64 0)),.sl 3 [] 0],[.d (.v (.int .i64 5)),.d (.v (.int .i64 (-1))),.sl 3 (List.map Jp x13) 4]]) [26] o1 ?_ ?_
   ·obtain⟨r5,hr5,H⟩:=Je H
    have F:=Y
    rcases Jc H with⟨hp4,H⟩|⟨hp4,H⟩
    ·obtain⟨F,G,hq4⟩:=xH F G hp4
     obtain⟨r6,hr6,H⟩:=Je H
     have F:=F
     refine xQ ?_
     refine xs 1 ?_
     refine xc ⟨[1],[]⟩ (tabG 4 (JE a2 x9 x10 x11 x12 r5 hr5)) ?_
     refine xs 3 ?_
     refine xc ⟨[1],[]⟩ (tabG 5 (JB x8 a2 x9 x10 x11 x12 r6 hr6)) ?_
     refine xs 2 ?_
     refine xl ?_
     refine xS ?_
     exact Jd H (xK ⟨[1,2,3],[4]⟩)
    ·obtain⟨F,G,hq4⟩:=xH F G hp4
     refine xQ ?_
     refine xs 1 ?_
     refine xc ⟨[1],[]⟩ (tabG 4 (JE a2 x9 x10 x11 x12 r5 hr5)) ?_
     refine xs 6 ?_
     refine xl ?_
     refine xS ?_
     exact Jd H (xK ⟨[1,2,3],[4]⟩)
   ·rintro x14 H
    rw[XH]at H
    rcases Jc H with⟨hp2,H⟩|⟨hp2,H⟩
    ·obtain⟨F,G,hq2⟩:=xH Y G hp2
     refine xT ?_
     refine xr ?_
     rcases Jc H with⟨hp3,H⟩|⟨hp3,H⟩
     ·obtain⟨F,G,hq3⟩:=xH Y G hp3
      refine xT ?_
      obtain⟨r3,hr3,H⟩:=Je H
      have F:=Y
      refine xQ ?_
      refine xs 2 ?_
      refine xc ⟨[1],[]⟩ (tabG 2 (Zp x8 9 a2 x9 x10 x11 x12 r3 hr3)) ?_
      refine xl ?_
      replace H:=Jq H hF1
      refine xS ?_
      exact Jd H (xK ⟨[1,2,3],[4]⟩)
     ·obtain⟨F,G,hq3⟩:=xH Y G hp3
      refine xE ?_
      obtain⟨r4,hr4,H⟩:=Je H
      have F:=Y
      refine xQ ?_
      refine xs 3 ?_
      refine xc ⟨[1],[]⟩ (tabG 3 (Je0 q2 x7 x8 a2 x9 x10 x11 x12 r4 hr4)) ?_
      refine xs 8 ?_
      refine xl ?_
      refine xS ?_
      obtain⟨hg1,H⟩:=Jg H
      have F:=xZ Y (XN Z4 [(⟨r4.1,r4.2.1,r4.2.2.1⟩:Node)])
      refine xR ?_
      refine xr ?_
      exact JJ (J3 H hF1) (xK ⟨[1,2,3],[8]⟩)
    ·obtain⟨F,G,hq2⟩:=xH Y G hp2
     replace H:=Jq H hF1
     refine xE ?_
     exact Jd H (xK ⟨[1,2,3],[4]⟩)
  ·rintro ⟨x1,x2,x3,x4,x5,x6⟩ H
   rw[VV]at H
   refine xS ?_
   refine xr ?_
   replace H:=Option.some.inj H
   refine xr ?_
   subst H
   refine xrD [] ?_
   exact xO ⟨[1],[4]⟩
noncomputable def Kg:(EB×Int×Int×Int×Int×Int×Int×Int×(List Node))→Option (Int×Int×(List Node)×Int×EB×Int×Int×Int×Int)
 | (x1,x2,x3,x4,x5,x6,x7,x8,x9)=>some (x7,x8,x9,x2,x1,x3,x4,x5,IntKind.i64.wrap (x6-1))
noncomputable def VH(a0:EB)(x16:Int)(x17:Int)(r8:(Int×Int×(List Node)×Int×EB×Int×Int×Int×Int)):(Bool×(List Node))→Option ((Int×Int×Int×Int×Int×Int×Int×(List Node)) ⊕ (Int×Int×(List Node)×Int×EB×Int×Int×Int×Int))
 | (x19,x20)=>if x19=true then inrO (Kg (a0,r8.2.2.2.1,r8.2.2.2.2.2.1,r8.2.2.2.2.2.2.1,r8.2.2.2.2.2.2.2.1,r8.2.2.2.2.2.2.2.2,x16,x17,x20)) else some (.inl (IntKind.i64.wrap (r8.2.2.2.1+1),r8.2.2.2.2.2.1,r8.2.2.2.2.2.2.1,r8.2.2.2.2.2.2.2.1,r8.2.2.2.2.2.2.2.2,x16,x17,x20))
noncomputable def Zb(q2:EB→Int→(List Token)→Int→Int→Int→Int→Option (Int×Int×(List Node)×Int×EB×Int×Int×Int×Int))(a0:EB)(a2:List Token)(r2:(List UInt8)):(Int×Int×Int×Int×Int×Int×Int×(List Node))→Option ((Int×Int×Int×Int×Int×Int×Int×(List Node)) ⊕ (Int×Int×(List Node)×Int×EB×Int×Int×Int×Int))
 | (x11,x12,x13,x14,x15,x16,x17,x18)=>(JO a2 x12 x13 x14 x15).bind fun r7=>if r7=true then(q2 a0 x11 a2 x12 x13 x14 x15).bind fun r8=>if(x18.length + [(⟨r8.1,r8.2.1,r8.2.2.1⟩:Node)].length) * 40≤140737488355328 then if(eqS r2 [119,104,105,108,101])=true then VH a0 x16 x17 r8 (true,x18++[(⟨r8.1,r8.2.1,r8.2.2.1⟩:Node)]) else if(ltI 2 ((x18++[(⟨r8.1,r8.2.1,r8.2.2.1⟩:Node)]).length:Int))=true then VH a0 x16 x17 r8 (true,x18++[(⟨r8.1,r8.2.1,r8.2.2.1⟩:Node)]) else(Jz r8.2.2.2.1 a2 r8.2.2.2.2.2.1 r8.2.2.2.2.2.2.1 r8.2.2.2.2.2.2.2.1 r8.2.2.2.2.2.2.2.2).bind fun r9=>VH a0 x16 x17 r8 (!eqS r9 [101,108,115,101],x18++[(⟨r8.1,r8.2.1,r8.2.2.1⟩:Node)]) else none else inrO (Kg (a0,x11,x12,x13,x14,x15,x16,x17,x18))
noncomputable def Jah(a0:EB)(a2:List Token):(Int×Int×Int×Int×Int×(List Node))→Option (Int×Int×(List Node)×Int×EB×Int×Int×Int×Int)
 | (x21,x22,x23,x24,x25,x26)=>(JM x21 [59] a2 x22 x23 x24 x25).bind fun r10=>Kg (a0,r10.1,r10.2.1,r10.2.2.1,r10.2.2.2,x25,8,(-1),x26)
noncomputable def Jam(a0:EB)(a2:List Token):(Int×Int×Int×Int×Int×(List Node))→Option (Int×Int×(List Node)×Int×EB×Int×Int×Int×Int)
 | (x28,x29,x30,x31,x32,x33)=>(JM x28 [59] a2 x29 x30 x31 x32).bind fun r14=>Kg (a0,r14.1,r14.2.1,r14.2.2.1,r14.2.2.2,x32,9,(-1),x33)
noncomputable def Xi(a0:EB)(a1:Int)(a2:List Token)(r1:(Bool×Int×Int×Int×Int))(r2:(List UInt8)):Bool→Option (Int×Int×(List Node)×Int×EB×Int×Int×Int×Int)
 | x27=>if x27=true then(ZC a0 a1 a2 r1.2.1 r1.2.2.1 r1.2.2.2.1 r1.2.2.2.2).bind fun r13=>Kg (r13.2.2.2.2.1,r13.2.2.2.1,r13.2.2.2.2.2.1,r13.2.2.2.2.2.2.1,r13.2.2.2.2.2.2.2.1,r13.2.2.2.2.2.2.2.2,r13.1,r13.2.1,r13.2.2.1) else if(!eqS r2 [59])=true then(K3 a0 a1 0 a2 r1.2.1 r1.2.2.1 r1.2.2.2.1 r1.2.2.2.2).bind fun r15=>if(([]:List Node).length + [(⟨r15.1,r15.2.1,r15.2.2.1⟩:Node)].length) * 40≤140737488355328 then Jam a0 a2 (r15.2.2.2.1,r15.2.2.2.2.1,r15.2.2.2.2.2.1,r15.2.2.2.2.2.2.1,r15.2.2.2.2.2.2.2,([]:List Node)++[(⟨r15.1,r15.2.1,r15.2.2.1⟩:Node)]) else none else Jam a0 a2 (a1,r1.2.1,r1.2.2.1,r1.2.2.2.1,r1.2.2.2.2,([]:List Node))
noncomputable def Xj(q2:EB→Int→(List Token)→Int→Int→Int→Int→Option (Int×Int×(List Node)×Int×EB×Int×Int×Int×Int))(a0:EB)(a1:Int)(a2:List Token)(r1:(Bool×Int×Int×Int×Int))(r2:(List UInt8)):Bool→Option (Int×Int×(List Node)×Int×EB×Int×Int×Int×Int)
 | x10=>if x10=true then if r2.length≤9223372036854775807 then(JM (IntKind.i64.wrap (a1+1)) [40] a2 r1.2.1 r1.2.2.1 r1.2.2.2.1 r1.2.2.2.2).bind fun r4=>(K3 a0 r4.1 0 a2 r4.2.1 r4.2.2.1 r4.2.2.2 r1.2.2.2.2).bind fun r5=>(JM r5.2.2.2.1 [41] a2 r5.2.2.2.2.1 r5.2.2.2.2.2.1 r5.2.2.2.2.2.2.1 r5.2.2.2.2.2.2.2).bind fun r6=>if(([]:List Node).length + [(⟨r5.1,r5.2.1,r5.2.2.1⟩:Node)].length) * 40≤140737488355328 then Jv (Zb q2 a0 a2 r2) (r6.1,r6.2.1,r6.2.2.1,r6.2.2.2,r5.2.2.2.2.2.2.2,ifK r2,(-1),([]:List Node)++[(⟨r5.1,r5.2.1,r5.2.2.1⟩:Node)]) else none else none else if(eqS r2 [114,101,116,117,114,110])=true then(Jz (IntKind.i64.wrap (a1+1)) a2 r1.2.1 r1.2.2.1 r1.2.2.2.1 r1.2.2.2.2).bind fun r11=>if(!eqS r11 [59])=true then(K3 a0 (IntKind.i64.wrap (a1+1)) 0 a2 r1.2.1 r1.2.2.1 r1.2.2.2.1 r1.2.2.2.2).bind fun r12=>if(([]:List Node).length + [(⟨r12.1,r12.2.1,r12.2.2.1⟩:Node)].length) * 40≤140737488355328 then Jah a0 a2 (r12.2.2.2.1,r12.2.2.2.2.1,r12.2.2.2.2.2.1,r12.2.2.2.2.2.2.1,r12.2.2.2.2.2.2.2,([]:List Node)++[(⟨r12.1,r12.2.1,r12.2.2.1⟩:Node)]) else none else Jah a0 a2 (IntKind.i64.wrap (a1+1),r1.2.1,r1.2.2.1,r1.2.2.2.1,r1.2.2.2.2,([]:List Node)) else if(eqS r2 [116,121,112,101,100,101,102])=true then Xi a0 a1 a2 r1 r2 true else(Xx a0 a1 a2 r1.2.1 r1.2.2.1 r1.2.2.2.1 r1.2.2.2.2).bind fun r16=>Xi a0 a1 a2 r1 r2 r16
noncomputable def JaK(q1:EB→Int→(List Token)→Int→Int→Int→Int→Option ((List Node)×Int×Int×Int×Int×Int))(q2:EB→Int→(List Token)→Int→Int→Int→Int→Option (Int×Int×(List Node)×Int×EB×Int×Int×Int×Int))(a0:EB)(a1:Int)(a2:List Token)(a3:Int)(a4:Int)(a5:Int)(a6:Int):Option (Int×Int×(List Node)×Int×EB×Int×Int×Int×Int) :=
 (KK a1 a2 a3 a4 a5 a6).bind fun r1=>if(!r1.1)=true then some (0,0,([]:List Node),a1,a0,r1.2.1,r1.2.2.1,r1.2.2.2.1,r1.2.2.2.2) else(Jz a1 a2 r1.2.1 r1.2.2.1 r1.2.2.2.1 r1.2.2.2.2).bind fun r2=>if(eqS r2 [123])=true then(q1 a0 a1 a2 r1.2.1 r1.2.2.1 r1.2.2.2.1 r1.2.2.2.2).bind fun r3=>Kg (a0,r3.2.1,r3.2.2.1,r3.2.2.2.1,r3.2.2.2.2.1,r3.2.2.2.2.2,5,(-1),r3.1) else if(eqS r2 [105,102])=true then Xj q2 a0 a1 a2 r1 r2 true else Xj q2 a0 a1 a2 r1 r2 (eqS r2 [119,104,105,108,101])
theorem Jio(q1:EB→Int→(List Token)→Int→Int→Int→Int→Option ((List Node)×Int×Int×Int×Int×Int))(q2:EB→Int→(List Token)→Int→Int→Int→Int→Option (Int×Int×(List Node)×Int×EB×Int×Int×Int×Int))(kq1:Kok Try.prog 37 true (V3 q1))(kq2:Kok Try.prog 62 true (Xl q2)):∀ g,Xl (JaK q1 q2) g→Jx Try.prog 62 g:=by
 rintro _ ⟨a0,a1,a2,a3,a4,a5,a6,r,H,rfl⟩
 refine xGnl mixed [1000179] [] [(61,true,VM),(31,true,J6),(37,true,(V3 q1)),(36,true,Vb),(59,true,JaG),(16,true,KE),(62,true,(Xl q2)),(32,true,Zz),(56,true,Xz)] [] trivial ⟨JbA,Ks,kq1,V1,JaP,KB,kq2,Jfm,JeN,trivial⟩ trivial Try.func62 _ ?_
 have G:=True.intro
 have Y:=xZ y_3 <| xZ y_24 <| xZ y_26 <| xZ y_50 <| xZ Try.results62 <| xZ J9.eq_1 <| xZ Jb.eq_1 <| xZ Vn <| xZ Kh.eq_1 <| xZ VJ.eq_1 <| xZ J5.eq_1 <| xZ Xm.eq_1 <| xZ K9.eq_1 <| xZ Vd.eq_1 <| xZ KC.eq_1 <| xZ Zq.eq_1 <| xZ Zu.eq_1 <| xZ XP.eq_1 <| xZ Zq.eq_1 <| xZ Jdy <| xZ JcI <| xZ JcK <| xZ Jdx <| xZ JdE <| xZ Jcx <| xZ Jcz <| JdK
 dsimp only[Zq]
 simp only[JaK]at H
 refine xS ?_
 refine xr ?_
 obtain⟨r1,hr1,H⟩:=Je H
 have F:=Y
 refine xQ ?_
 refine xs 2 ?_
 refine xc ⟨[1],[]⟩ (tabG 0 (Jbu a1 a2 a3 a4 a5 a6 r1 hr1)) ?_
 refine xs 1 ?_
 refine xl ?_
 refine xS ?_
 rcases Jc H with⟨hp1,H⟩|⟨hp1,H⟩
 ·obtain⟨F,G,hq1⟩:=xH Y G hp1
  refine xT ?_
  replace H:=Option.some.inj H
  refine xr ?_
  subst H
  refine xrD [] ?_
  exact xO ⟨[1],[0]⟩
 ·obtain⟨F,G,hq1⟩:=xH Y G hp1
  refine xE ?_
  obtain⟨r2,hr2,H⟩:=Je H
  have F:=Y
  refine xQ ?_
  refine xs 2 ?_
  refine xc ⟨[1],[]⟩ (tabG 1 (JB a1 a2 r1.2.1 r1.2.2.1 r1.2.2.2.1 r1.2.2.2.2 r2 hr2)) ?_
  refine xs 1 ?_
  refine xl ?_
  refine xS ?_
  refine xr0 ?_
  refine Jn ?_
  refine JC Kg (fun s=>[(0,.c (.pt 1 0)),(1,.c (.fm (EM Try.prog 52 (cvK s.1)))),(2,.c (.d (.v (.int .i64 s.2.1)))),(6,.c (.pt 2 0)),(10,.c (.pt 3 0))]) (fun s=>[[.d (.sl 11 (List.map Jb a2)),.d (.v (.int .i64 s.2.2.1)),.d (.v (.int .i64 s.2.2.2.1)),.d (.v (.int .i64 s.2.2.2.2.1)),.d (.v (.int .i64 s.2.2.2.2.2.1))],[.d (.v (.int .i64 0)),.d (.v (.int .i64 0)),.sl 3 [] 0],[.d (.v (.int .i64 s.2.2.2.2.2.2.1)),.d (.v (.int .i64 s.2.2.2.2.2.2.2.1)),.sl 3 (List.map Jp s.2.2.2.2.2.2.2.2) 4]]) [26] r ?_ ?_
  ·refine xS ?_
   refine xr ?_
   rcases Jc H with⟨hp2,H⟩|⟨hp2,H⟩
   ·obtain⟨F,G,hq2⟩:=xH Y G hp2
    refine xT ?_
    obtain⟨r3,hr3,H⟩:=Je H
    have F:=Y
    refine xQ ?_
    refine xs 3 ?_
    refine xc ⟨[1],[]⟩ (tabG 2 (JeO q1 a0 a1 a2 r1.2.1 r1.2.2.1 r1.2.2.2.1 r1.2.2.2.2 r3 hr3)) ?_
    refine xs 5 ?_
    refine xl ?_
    refine xS ?_
    exact Jd H (xK ⟨[1,2,5],[7]⟩)
   ·obtain⟨F,G,hq2⟩:=xH Y G hp2
    refine xE0 ?_
    refine JC (Xj q2 a0 a1 a2 r1 r2) (fun s=>[(0,.c (.pt 1 0)),(1,.c (.fm (EM Try.prog 52 (cvK a0)))),(2,.c (.d (.v (.int .i64 a1)))),(6,.c (.pt 2 0)),(9,.c (.d (.v (str r2)))),(10,.c (.pt 3 0)),(60,.c (.d (.v (.bool s))))]) (fun s=>[[.d (.sl 11 (List.map Jb a2)),.d (.v (.int .i64 r1.2.1)),.d (.v (.int .i64 r1.2.2.1)),.d (.v (.int .i64 r1.2.2.2.1)),.d (.v (.int .i64 r1.2.2.2.2))],[.d (.v (.int .i64 0)),.d (.v (.int .i64 0)),.sl 3 [] 0],[.d (.v (.int .i64 0)),.d (.v (.int .i64 0)),.sl 3 [] 0]]) [] r ?_ ?_
    ·rcases Jc H with⟨hp13,H⟩|⟨hp13,H⟩
     ·obtain⟨F,G,hq13⟩:=xH Y G hp13
      refine xR ?_
      exact Jd H (xK ⟨[1,2,5],[]⟩)
     ·obtain⟨F,G,hq13⟩:=xH Y G hp13
      refine xR ?_
      exact Jd H (xK ⟨[1,2,5],[]⟩)
    ·rintro x10 H
     rw[Xj]at H
     rcases Jc H with⟨hp3,H⟩|⟨hp3,H⟩
     ·obtain⟨F,G,hq3⟩:=xH Y G hp3
      refine xT ?_
      obtain⟨hgh,H⟩:=Jg H
      refine hIfK r2 hgh ?_
      refine xS ?_
      obtain⟨r4,hr4,H⟩:=Je H
      have F:=Y
      refine xQ ?_
      refine xs 3 ?_
      refine xc ⟨[1],[]⟩ (tabG 3 (KO (IntKind.i64.wrap (a1+1)) [40] a2 r1.2.1 r1.2.2.1 r1.2.2.2.1 r1.2.2.2.2 r4 hr4)) ?_
      refine xs 1 ?_
      refine xl ?_
      refine xS ?_
      obtain⟨r5,hr5,H⟩:=Je H
      have F:=Y
      refine xQ ?_
      refine xs 3 ?_
      refine xc ⟨[1],[]⟩ (tabG 4 (JaD a0 r4.1 0 a2 r4.2.1 r4.2.2.1 r4.2.2.2 r1.2.2.2.2 r5 hr5)) ?_
      refine xs 6 ?_
      refine xl ?_
      refine xS ?_
      obtain⟨r6,hr6,H⟩:=Je H
      have F:=Y
      refine xQ ?_
      refine xs 2 ?_
      refine xc ⟨[1],[]⟩ (tabG 3 (KO r5.2.2.2.1 [41] a2 r5.2.2.2.2.1 r5.2.2.2.2.2.1 r5.2.2.2.2.2.2.1 r5.2.2.2.2.2.2.2 r6 hr6)) ?_
      refine xs 1 ?_
      refine xl ?_
      refine xS ?_
      obtain⟨hg1,H⟩:=Jg H
      have F:=xZ Y (XN Z4 [(⟨r5.1,r5.2.1,r5.2.2.1⟩:Node)])
      refine xR ?_
      refine KI (Zb q2 a0 a2 r2) (fun s=>[(0,.c (.pt 1 0)),(1,.c (.fm (EM Try.prog 52 (cvK a0)))),(2,.c (.d (.v (.int .i64 s.1)))),(6,.c (.pt 2 0)),(9,.c (.d (.v (str r2)))),(10,.c (.pt 3 0))]) (fun s=>[[.d (.sl 11 (List.map Jb a2)),.d (.v (.int .i64 s.2.1)),.d (.v (.int .i64 s.2.2.1)),.d (.v (.int .i64 s.2.2.2.1)),.d (.v (.int .i64 s.2.2.2.2.1))],[.d (.v (.int .i64 0)),.d (.v (.int .i64 0)),.sl 3 [] 0],[.d (.v (.int .i64 s.2.2.2.2.2.1)),.d (.v (.int .i64 s.2.2.2.2.2.2.1)),.sl 3 (List.map Jp s.2.2.2.2.2.2.2) 4]]) [26] H (xK ⟨[1,2,3],[9]⟩) ?_
      rintro n1 ⟨x11,x12,x13,x14,x15,x16,x17,x18⟩ o1 H hF1
      rw[Zb]at H
      refine xS ?_
      obtain⟨r7,hr7,H⟩:=Je H
      have F:=Y
      refine xQ ?_
      refine xs 1 ?_
      refine xc ⟨[1],[]⟩ (tabG 5 (JE a2 x12 x13 x14 x15 r7 hr7)) ?_
      refine xl ?_
      refine xS ?_
      rcases Jc H with⟨hp4,H⟩|⟨hp4,H⟩
      ·obtain⟨F,G,hq4⟩:=xH Y G hp4
       refine xT ?_
       obtain⟨r8,hr8,H⟩:=Je H
       have F:=Y
       refine xQ ?_
       refine xs 3 ?_
       refine xc ⟨[1],[]⟩ (tabG 6 (Je0 q2 a0 x11 a2 x12 x13 x14 x15 r8 hr8)) ?_
       refine xs 8 ?_
       refine xl ?_
       refine xS ?_
       obtain⟨hg2,H⟩:=Jg H
       have F:=xZ Y (XN Z4 [(⟨r8.1,r8.2.1,r8.2.2.1⟩:Node)])
       refine xR ?_
       refine xr0 ?_
       refine Jn ?_
       refine XS ?_
       refine JC (VH a0 x16 x17 r8) (fun s=>[(0,.c (.pt 1 0)),(1,.c (.fm (EM Try.prog 52 (cvK a0)))),(2,.c (.d (.v (.int .i64 r8.2.2.2.1)))),(6,.c (.pt 2 0)),(9,.c (.d (.v (str r2)))),(10,.c (.pt 3 0)),(122,.c (.d (.v (.bool s.1))))]) (fun s=>[[.d (.sl 11 (List.map Jb a2)),.d (.v (.int .i64 r8.2.2.2.2.2.1)),.d (.v (.int .i64 r8.2.2.2.2.2.2.1)),.d (.v (.int .i64 r8.2.2.2.2.2.2.2.1)),.d (.v (.int .i64 r8.2.2.2.2.2.2.2.2))],[.d (.v (.int .i64 0)),.d (.v (.int .i64 0)),.sl 3 [] 0],[.d (.v (.int .i64 x16)),.d (.v (.int .i64 x17)),.sl 3 (List.map Jp s.2) 4]]) [26] o1 ?_ ?_
       ·rcases Jc H with⟨hp6,H⟩|⟨hp6,H⟩
        ·obtain⟨F,G,hq6⟩:=xH Y G hp6
         refine xR ?_
         exact Jd H (xK ⟨[1,2,3],[9]⟩)
        ·obtain⟨F,G,hq6⟩:=xH Y G hp6
         rcases Jc H with⟨hp7,H⟩|⟨hp7,H⟩
         ·obtain⟨F,G,hq7⟩:=xH F G hp7
          refine xR ?_
          exact Jd H (xK ⟨[1,2,3],[9]⟩)
         ·obtain⟨F,G,hq7⟩:=xH F G hp7
          obtain⟨r9,hr9,H⟩:=Je H
          have F:=F
          refine xQ ?_
          refine xs 11 ?_
          refine xc ⟨[1],[]⟩ (tabG 1 (JB r8.2.2.2.1 a2 r8.2.2.2.2.2.1 r8.2.2.2.2.2.2.1 r8.2.2.2.2.2.2.2.1 r8.2.2.2.2.2.2.2.2 r9 hr9)) ?_
          refine xs 2 ?_
          refine xl ?_
          refine xS ?_
          exact Jd H (xK ⟨[1,2,3],[9]⟩)
       ·rintro ⟨x19,x20⟩ H
        rw[VH]at H
        rcases Jc H with⟨hp5,H⟩|⟨hp5,H⟩
        ·obtain⟨F,G,hq5⟩:=xH Y G hp5
         replace H:=Jq H hF1
         refine xT ?_
         exact Jd H (xK ⟨[1,2,3],[4]⟩)
        ·obtain⟨F,G,hq5⟩:=xH Y G hp5
         refine xE ?_
         refine xr ?_
         exact JJ (J3 H hF1) (xK ⟨[1,2,3],[4]⟩)
      ·obtain⟨F,G,hq4⟩:=xH Y G hp4
       replace H:=Jq H hF1
       refine xE ?_
       exact Jd H (xK ⟨[1,2,3],[4]⟩)
     ·obtain⟨F,G,hq3⟩:=xH Y G hp3
      refine xE ?_
      refine xr ?_
      rcases Jc H with⟨hp8,H⟩|⟨hp8,H⟩
      ·obtain⟨F,G,hq8⟩:=xH Y G hp8
       refine xT ?_
       refine xr ?_
       refine xr0 ?_
       refine Jn ?_
       refine JC (Jah a0 a2) (fun s=>[(0,.c (.pt 1 0)),(1,.c (.fm (EM Try.prog 52 (cvK a0)))),(2,.c (.d (.v (.int .i64 s.1)))),(6,.c (.pt 2 0)),(10,.c (.pt 3 0))]) (fun s=>[[.d (.sl 11 (List.map Jb a2)),.d (.v (.int .i64 s.2.1)),.d (.v (.int .i64 s.2.2.1)),.d (.v (.int .i64 s.2.2.2.1)),.d (.v (.int .i64 s.2.2.2.2.1))],[.d (.v (.int .i64 0)),.d (.v (.int .i64 0)),.sl 3 [] 0],[.d (.v (.int .i64 8)),.d (.v (.int .i64 (-1))),.sl 3 (List.map Jp s.2.2.2.2.2) 4]]) [26] r ?_ ?_
       ·refine xS ?_
        obtain⟨r11,hr11,H⟩:=Je H
        have F:=Y
        refine xQ ?_
        refine xs 2 ?_
        refine xc ⟨[1],[]⟩ (tabG 1 (JB (IntKind.i64.wrap (a1+1)) a2 r1.2.1 r1.2.2.1 r1.2.2.2.1 r1.2.2.2.2 r11 hr11)) ?_
        refine xs 1 ?_
        refine xl ?_
        refine xS ?_
        rcases Jc H with⟨hp9,H⟩|⟨hp9,H⟩
        ·obtain⟨F,G,hq9⟩:=xH Y G hp9
         refine xT ?_
         obtain⟨r12,hr12,H⟩:=Je H
         have F:=Y
         refine xQ ?_
         refine xs 3 ?_
         refine xc ⟨[1],[]⟩ (tabG 4 (JaD a0 (IntKind.i64.wrap (a1+1)) 0 a2 r1.2.1 r1.2.2.1 r1.2.2.2.1 r1.2.2.2.2 r12 hr12)) ?_
         refine xs 6 ?_
         refine xl ?_
         refine xS ?_
         obtain⟨hg3,H⟩:=Jg H
         have F:=xZ Y (XN Z4 [(⟨r12.1,r12.2.1,r12.2.2.1⟩:Node)])
         refine xR ?_
         refine xr ?_
         exact Jd H (xK ⟨[1,2,3],[8]⟩)
        ·obtain⟨F,G,hq9⟩:=xH Y G hp9
         refine xE ?_
         exact Jd H (xK ⟨[1,2,3],[0]⟩)
       ·rintro ⟨x21,x22,x23,x24,x25,x26⟩ H
        rw[Jah]at H
        obtain⟨r10,hr10,H⟩:=Je H
        have F:=Y
        refine xQ ?_
        refine xs 2 ?_
        refine xc ⟨[1],[]⟩ (tabG 3 (KO x21 [59] a2 x22 x23 x24 x25 r10 hr10)) ?_
        refine xs 1 ?_
        refine xl ?_
        refine xS ?_
        exact Jd H (xK ⟨[1,2,3],[4]⟩)
      ·obtain⟨F,G,hq8⟩:=xH Y G hp8
       refine xE0 ?_
       refine JC (Xi a0 a1 a2 r1 r2) (fun s=>[(0,.c (.pt 1 0)),(1,.c (.fm (EM Try.prog 52 (cvK a0)))),(2,.c (.d (.v (.int .i64 a1)))),(6,.c (.pt 2 0)),(9,.c (.d (.v (str r2)))),(10,.c (.pt 3 0)),(152,.c (.d (.v (.bool s))))]) (fun s=>[[.d (.sl 11 (List.map Jb a2)),.d (.v (.int .i64 r1.2.1)),.d (.v (.int .i64 r1.2.2.1)),.d (.v (.int .i64 r1.2.2.2.1)),.d (.v (.int .i64 r1.2.2.2.2))],[.d (.v (.int .i64 0)),.d (.v (.int .i64 0)),.sl 3 [] 0],[.d (.v (.int .i64 0)),.d (.v (.int .i64 0)),.sl 3 [] 0]]) [] r ?_ ?_
       ·rcases Jc H with⟨hp12,H⟩|⟨hp12,H⟩
        ·obtain⟨F,G,hq12⟩:=xH Y G hp12
         refine xR ?_
         exact Jd H (xK ⟨[1,2,3],[]⟩)
        ·obtain⟨F,G,hq12⟩:=xH Y G hp12
         obtain⟨r16,hr16,H⟩:=Je H
         have F:=F
         refine xQ ?_
         refine xs 6 ?_
         refine xc ⟨[1],[]⟩ (tabG 8 (JeG a0 a1 a2 r1.2.1 r1.2.2.1 r1.2.2.2.1 r1.2.2.2.2 r16 hr16)) ?_
         refine xs 2 ?_
         refine xl ?_
         refine xS ?_
         exact Jd H (xK ⟨[1,2,3],[]⟩)
       ·rintro x27 H
        rw[Xi]at H
        rcases Jc H with⟨hp10,H⟩|⟨hp10,H⟩
        ·obtain⟨F,G,hq10⟩:=xH Y G hp10
         refine xT ?_
         obtain⟨r13,hr13,H⟩:=Je H
         have F:=Y
         refine xQ ?_
         refine xs 3 ?_
         refine xc ⟨[1],[]⟩ (tabG 7 (Jfx a0 a1 a2 r1.2.1 r1.2.2.1 r1.2.2.2.1 r1.2.2.2.2 r13 hr13)) ?_
         refine xs 7 ?_
         refine xl ?_
         refine xS ?_
         exact Jd H (xK ⟨[1,2,3],[5]⟩)
        ·obtain⟨F,G,hq10⟩:=xH Y G hp10
         refine xE ?_
         refine xr0 ?_
         refine Jn ?_
         refine JC (Jam a0 a2) (fun s=>[(0,.c (.pt 1 0)),(1,.c (.fm (EM Try.prog 52 (cvK a0)))),(2,.c (.d (.v (.int .i64 s.1)))),(6,.c (.pt 2 0)),(10,.c (.pt 3 0))]) (fun s=>[[.d (.sl 11 (List.map Jb a2)),.d (.v (.int .i64 s.2.1)),.d (.v (.int .i64 s.2.2.1)),.d (.v (.int .i64 s.2.2.2.1)),.d (.v (.int .i64 s.2.2.2.2.1))],[.d (.v (.int .i64 0)),.d (.v (.int .i64 0)),.sl 3 [] 0],[.d (.v (.int .i64 9)),.d (.v (.int .i64 (-1))),.sl 3 (List.map Jp s.2.2.2.2.2) 4]]) [26] r ?_ ?_
         ·refine xS ?_
          refine xr ?_
          rcases Jc H with⟨hp11,H⟩|⟨hp11,H⟩
          ·obtain⟨F,G,hq11⟩:=xH Y G hp11
           refine xT ?_
           obtain⟨r15,hr15,H⟩:=Je H
           have F:=Y
           refine xQ ?_
           refine xs 3 ?_
           refine xc ⟨[1],[]⟩ (tabG 4 (JaD a0 a1 0 a2 r1.2.1 r1.2.2.1 r1.2.2.2.1 r1.2.2.2.2 r15 hr15)) ?_
           refine xs 6 ?_
           refine xl ?_
           refine xS ?_
           obtain⟨hg4,H⟩:=Jg H
           have F:=xZ Y (XN Z4 [(⟨r15.1,r15.2.1,r15.2.2.1⟩:Node)])
           refine xR ?_
           refine xr ?_
           exact Jd H (xK ⟨[1,2,3],[7]⟩)
          ·obtain⟨F,G,hq11⟩:=xH Y G hp11
           refine xE ?_
           exact Jd H (xK ⟨[1,2,3],[0]⟩)
         ·rintro ⟨x28,x29,x30,x31,x32,x33⟩ H
          rw[Jam]at H
          obtain⟨r14,hr14,H⟩:=Je H
          have F:=Y
          refine xQ ?_
          refine xs 2 ?_
          refine xc ⟨[1],[]⟩ (tabG 3 (KO x28 [59] a2 x29 x30 x31 x32 r14 hr14)) ?_
          refine xs 1 ?_
          refine xl ?_
          refine xS ?_
          exact Jd H (xK ⟨[1,2,3],[4]⟩)
  ·rintro ⟨x1,x2,x3,x4,x5,x6,x7,x8,x9⟩ H
   rw[Kg]at H
   refine xS ?_
   refine xr ?_
   replace H:=Option.some.inj H
   refine xr ?_
   subst H
   refine xrD [] ?_
   exact xO ⟨[1],[4]⟩
noncomputable def KG:Nat→(EB→Int→(List Token)→Int→Int→Int→Int→Option ((List Node)×Int×Int×Int×Int×Int))×(EB→Int→(List Token)→Int→Int→Int→Int→Option (Int×Int×(List Node)×Int×EB×Int×Int×Int×Int))
 | 0=>(fun _ _ _ _ _ _ _=>none,fun _ _ _ _ _ _ _=>none)
 | n+1=>(Jae ((KG n).1) ((KG n).2),JaK ((KG n).1) ((KG n).2))
theorem JdC:∀ n,Kok Try.prog 37 true (V3 (KG n).1)∧Kok Try.prog 62 true (Xl (KG n).2)
 | 0=>⟨⟨JpH,(by rintro _ ⟨_,_,_,_,_,_,_,_,H,_⟩; cases H),fun _=>by rintro _ ⟨_,_,_,_,_,_,_,_,_,rfl⟩; exact⟨_,_,_,rfl⟩⟩,⟨Jpu,(by rintro _ ⟨_,_,_,_,_,_,_,_,H,_⟩; cases H),fun _=>by rintro _ ⟨_,_,_,_,_,_,_,_,_,rfl⟩; exact⟨_,_,_,rfl⟩⟩⟩
 | n+1=>have h:=JdC n; ⟨⟨JpH,Jhs _ _ h.1 h.2,fun _=>by rintro _ ⟨_,_,_,_,_,_,_,_,_,rfl⟩; exact⟨_,_,_,rfl⟩⟩,⟨Jpu,Jio _ _ h.1 h.2,fun _=>by rintro _ ⟨_,_,_,_,_,_,_,_,_,rfl⟩; exact⟨_,_,_,rfl⟩⟩⟩
noncomputable def Jbc:EB→Int→(List Token)→Int→Int→Int→Int→Option ((List Node)×Int×Int×Int×Int×Int):=(KG bigF).1
def Jc2:GI→Prop:=V3 Jbc
theorem JiU(a0:EB)(a1:Int)(a2:List Token)(a3:Int)(a4:Int)(a5:Int)(a6:Int)(r:((List Node)×Int×Int×Int×Int×Int))(H:Jbc a0 a1 a2 a3 a4 a5 a6=some r):Jc2 (Xm a0 a1 a2 a3 a4 a5 a6 r):=JeO Jbc a0 a1 a2 a3 a4 a5 a6 r H
theorem JiR:Kok Try.prog 37 true Jc2:=(JdC bigF).1
noncomputable def Vu(a2:List Token)(r5:(Int×(List Node)×Int×EB×Int×Int×Int×Int)):(Int×EB×Int×Int×Int×Int×(List Node))→Option (Int×Int×(List Node)×Int×EB×Int×Int×Int×Int)
 | (x2,x3,x4,x5,x6,x7,x8)=>(JO a2 x4 x5 x6 x7).bind fun r7=>if(!r7)=true then some (3,(-1),x8,x2,r5.2.2.2.1,x4,x5,x6,x7) else(Jbc x3 (IntKind.i64.wrap (x2+1)) a2 x4 x5 x6 x7).bind fun r8=>if(x8.length + [(⟨5,(-1),r8.1⟩:Node)].length) * 40≤140737488355328 then some (3,(-1),x8++[(⟨5,(-1),r8.1⟩:Node)],r8.2.1,r5.2.2.2.1,r8.2.2.1,r8.2.2.2.1,r8.2.2.2.2.1,r8.2.2.2.2.2) else none
noncomputable def VU(a2:List Token)(r5:(Int×(List Node)×Int×EB×Int×Int×Int×Int))(x10:EB)(x14:Int)(x15:List Node):(Int×Int×Int×Int)→Option ((Int×EB×Int×Int×Int×Int×(List Node)) ⊕ (Int×Int×(List Node)×Int×EB×Int×Int×Int×Int))
 | (x17,x18,x19,x20)=>(JO a2 x18 x19 x20 x14).bind fun r9=>if(!r9)=true then inrO (Vu a2 r5 (x17,x10,x18,x19,x20,x14,x15)) else(Xd x10 x17 a2 x18 x19 x20 x14).bind fun r10=>(JO a2 r10.2.1 r10.2.2.1 r10.2.2.2 x14).bind fun r11=>if(!r11)=true then inrO (Vu a2 r5 (x17,x10,r10.2.1,r10.2.2.1,r10.2.2.2,x14,x15)) else(KJ x10 r10.1 false a2 r10.2.1 r10.2.2.1 r10.2.2.2 x14).bind fun r12=>if(x15.length + [(⟨2,(-1),[(⟨16,x17,([]:List Node)⟩:Node),(⟨4,r12.1,r12.2.1⟩:Node)]⟩:Node)].length) * 40≤140737488355328 then some (.inl (r12.2.2.1,r12.2.2.2.1,r12.2.2.2.2.1,r12.2.2.2.2.2.1,r12.2.2.2.2.2.2.1,r12.2.2.2.2.2.2.2,x15++[(⟨2,(-1),[(⟨16,x17,([]:List Node)⟩:Node),(⟨4,r12.1,r12.2.1⟩:Node)]⟩:Node)])) else none
noncomputable def XB(a2:List Token)(r5:(Int×(List Node)×Int×EB×Int×Int×Int×Int))(x9:Int)(x10:EB)(x11:Int)(x12:Int)(x13:Int)(x14:Int)(x15:List Node):Bool→Option ((Int×EB×Int×Int×Int×Int×(List Node)) ⊕ (Int×Int×(List Node)×Int×EB×Int×Int×Int×Int))
 | x16=>if x16=true then if(ltI 2 (x15.length:Int))=true then(JM x9 [44] a2 x11 x12 x13 x14).bind fun r13=>VU a2 r5 x10 x14 x15 (r13.1,r13.2.1,r13.2.2.1,r13.2.2.2) else VU a2 r5 x10 x14 x15 (x9,x11,x12,x13) else inrO (Vu a2 r5 (x9,x10,x11,x12,x13,x14,x15))
noncomputable def Ja1(a2:List Token)(r5:(Int×(List Node)×Int×EB×Int×Int×Int×Int)):(Int×EB×Int×Int×Int×Int×(List Node))→Option ((Int×EB×Int×Int×Int×Int×(List Node)) ⊕ (Int×Int×(List Node)×Int×EB×Int×Int×Int×Int))
 | (x9,x10,x11,x12,x13,x14,x15)=>(JO a2 x11 x12 x13 x14).bind fun r14=>if r14=true then(Jz x9 a2 x11 x12 x13 x14).bind fun r15=>XB a2 r5 x9 x10 x11 x12 x13 x14 x15 (!eqS r15 [41]) else XB a2 r5 x9 x10 x11 x12 x13 x14 x15 false
noncomputable def Vv(a1:Int)(a2:List Token)(r5:(Int×(List Node)×Int×EB×Int×Int×Int×Int)):Bool→Option (Int×Int×(List Node)×Int×EB×Int×Int×Int×Int)
 | x1=>if x1=true then(JbD r5.2.2.2.1 r5.2.2.1 2 (-1) [(⟨16,a1,([]:List Node)⟩:Node)] 4 r5.1 r5.2.1 false a2 r5.2.2.2.2.1 r5.2.2.2.2.2.1 r5.2.2.2.2.2.2.1 r5.2.2.2.2.2.2.2).bind fun r6=>some (2,(-1),r6.1,r6.2.1,r6.2.2.1,r6.2.2.2.1,r6.2.2.2.2.1,r6.2.2.2.2.2.1,r6.2.2.2.2.2.2) else Jv (Ja1 a2 r5) (IntKind.i64.wrap (r5.2.2.1+1),r5.2.2.2.1,r5.2.2.2.2.1,r5.2.2.2.2.2.1,r5.2.2.2.2.2.2.1,r5.2.2.2.2.2.2.2,[(⟨16,a1,([]:List Node)⟩:Node),(⟨4,r5.1,r5.2.1⟩:Node)])
noncomputable def ZX(a0:EB)(a1:Int)(a2:List Token)(a3:Int)(a4:Int)(a5:Int)(a6:Int):Option (Int×Int×(List Node)×Int×EB×Int×Int×Int×Int) :=
 (Jz a1 a2 a3 a4 a5 a6).bind fun r1=>if(eqS r1 [116,121,112,101,100,101,102])=true then(ZC a0 a1 a2 a3 a4 a5 a6).bind fun r2=>some (r2.1,r2.2.1,r2.2.2.1,r2.2.2.2.1,r2.2.2.2.2.1,r2.2.2.2.2.2.1,r2.2.2.2.2.2.2.1,r2.2.2.2.2.2.2.2.1,r2.2.2.2.2.2.2.2.2) else(Xd a0 a1 a2 a3 a4 a5 a6).bind fun r3=>(JO a2 r3.2.1 r3.2.2.1 r3.2.2.2 a6).bind fun r4=>if(!r4)=true then some (16,a1,([]:List Node),r3.1,a0,r3.2.1,r3.2.2.1,r3.2.2.2,a6) else(KJ a0 r3.1 false a2 r3.2.1 r3.2.2.1 r3.2.2.2 a6).bind fun r5=>(JO a2 r5.2.2.2.2.1 r5.2.2.2.2.2.1 r5.2.2.2.2.2.2.1 r5.2.2.2.2.2.2.2).bind fun r16=>if(!r16)=true then Vv a1 a2 r5 true else if(ltI 0 (r5.2.1.length:Int))=true then Vv a1 a2 r5 true else(Jz r5.2.2.1 a2 r5.2.2.2.2.1 r5.2.2.2.2.2.1 r5.2.2.2.2.2.2.1 r5.2.2.2.2.2.2.2).bind fun r17=>Vv a1 a2 r5 (!eqS r17 [40])
noncomputable def Jad(a0:EB)(a1:Int)(a2:List Token)(a3:Int)(a4:Int)(a5:Int)(a6:Int)(r:(Int×Int×(List Node)×Int×EB×Int×Int×Int×Int)):GI :=
 ⟨[.c (.pt 1 0),.c (.fm (EM Try.prog 52 (cvK a0))),.c (.d (.v (.int .i64 a1)))],[[.d (.sl 11 (List.map Jb a2)),.d (.v (.int .i64 a3)),.d (.v (.int .i64 a4)),.d (.v (.int .i64 a5)),.d (.v (.int .i64 a6))]],[],.ret (.tu [(true,[.d (.v (.int .i64 r.1)),.d (.v (.int .i64 r.2.1)),.sl 3 (List.map Jp r.2.2.1) 2]),(false,[.d (.v (.int .i64 r.2.2.2.1))]),(false,[.fm (EM Try.prog 52 (cvK r.2.2.2.2.1))])]) [[.d (.sl 11 (List.map Jb a2)),.d (.v (.int .i64 r.2.2.2.2.2.1)),.d (.v (.int .i64 r.2.2.2.2.2.2.1)),.d (.v (.int .i64 r.2.2.2.2.2.2.2.1)),.d (.v (.int .i64 r.2.2.2.2.2.2.2.2))]] [26]⟩
def Z8:GI→Prop:=fun g=>∃ (a0:EB) (a1:Int) (a2:List Token) (a3:Int) (a4:Int) (a5:Int) (a6:Int) (r:(Int×Int×(List Node)×Int×EB×Int×Int×Int×Int)),ZX a0 a1 a2 a3 a4 a5 a6=some r∧g=Jad a0 a1 a2 a3 a4 a5 a6 r
theorem JiQ(a0:EB)(a1:Int)(a2:List Token)(a3:Int)(a4:Int)(a5:Int)(a6:Int)(r:(Int×Int×(List Node)×Int×EB×Int×Int×Int×Int))(H:ZX a0 a1 a2 a3 a4 a5 a6=some r):Z8 (Jad a0 a1 a2 a3 a4 a5 a6 r):=⟨a0,a1,a2,a3,a4,a5,a6,r,H,rfl⟩
theorem Jh8:∀ g,Z8 g→Jx Try.prog 17 g:=by
 rintro _ ⟨a0,a1,a2,a3,a4,a5,a6,r,H,rfl⟩
 refine xGn mixed [] [(31,true,J6),(32,true,Zz),(33,true,ZG),(16,true,KE),(34,true,Va),(35,true,ZE),(37,true,Jc2),(36,true,Vb)] [] trivial ⟨Ks,Jfm,Jfj,KB,ZK,Jfz,JiR,V1,trivial⟩ trivial Try.func17 _ ?_
 have G:=True.intro
 have Y:=xZ y_3 <| xZ y_24 <| xZ y_26 <| xZ Try.results17 <| xZ J9.eq_1 <| xZ Jb.eq_1 <| xZ Vn <| xZ Kh.eq_1 <| xZ J5.eq_1 <| xZ Zu.eq_1 <| xZ ZF.eq_1 <| xZ KC.eq_1 <| xZ Vf.eq_1 <| xZ Zy.eq_1 <| xZ Xm.eq_1 <| xZ K9.eq_1 <| Jad.eq_1
 dsimp only[Jad]
 simp only[ZX]at H
 refine xS ?_
 refine xr ?_
 obtain⟨r1,hr1,H⟩:=Je H
 have F:=Y
 refine xQ ?_
 refine xs 2 ?_
 refine xc ⟨[1],[]⟩ (tabG 0 (JB a1 a2 a3 a4 a5 a6 r1 hr1)) ?_
 refine xs 1 ?_
 refine xl ?_
 refine xS ?_
 rcases Jc H with⟨hp1,H⟩|⟨hp1,H⟩
 ·obtain⟨F,G,hq1⟩:=xH Y G hp1
  refine xT ?_
  obtain⟨r2,hr2,H⟩:=Je H
  have F:=Y
  refine xQ ?_
  refine xs 3 ?_
  refine xc ⟨[1],[]⟩ (tabG 1 (Jfx a0 a1 a2 a3 a4 a5 a6 r2 hr2)) ?_
  refine xs 6 ?_
  refine xl ?_
  replace H:=Option.some.inj H
  refine xS ?_
  subst H
  refine xrD [] ?_
  exact xO ⟨[1],[5]⟩
 ·obtain⟨F,G,hq1⟩:=xH Y G hp1
  refine xE ?_
  obtain⟨r3,hr3,H⟩:=Je H
  have F:=Y
  refine xQ ?_
  refine xs 3 ?_
  refine xc ⟨[1],[]⟩ (tabG 2 (Jdp a0 a1 a2 a3 a4 a5 a6 r3 hr3)) ?_
  refine xs 6 ?_
  refine xl ?_
  refine xS ?_
  obtain⟨r4,hr4,H⟩:=Je H
  have F:=Y
  refine xQ ?_
  refine xs 1 ?_
  refine xc ⟨[1],[]⟩ (tabG 3 (JE a2 r3.2.1 r3.2.2.1 r3.2.2.2 a6 r4 hr4)) ?_
  refine xs 1 ?_
  refine xl ?_
  refine xS ?_
  rcases Jc H with⟨hp2,H⟩|⟨hp2,H⟩
  ·obtain⟨F,G,hq2⟩:=xH Y G hp2
   refine xT ?_
   replace H:=Option.some.inj H
   refine xr ?_
   subst H
   refine xrD [] ?_
   exact xO ⟨[1],[0]⟩
  ·obtain⟨F,G,hq2⟩:=xH Y G hp2
   refine xE ?_
   obtain⟨r5,hr5,H⟩:=Je H
   have F:=Y
   refine xQ ?_
   refine xs 3 ?_
   refine xc ⟨[1],[]⟩ (tabG 4 (ZJ a0 r3.1 false a2 r3.2.1 r3.2.2.1 r3.2.2.2 a6 r5 hr5)) ?_
   refine xs 8 ?_
   refine xl ?_
   refine  ?_
   refine Jn ?_
   refine XS ?_
   refine JC (Vv a1 a2 r5) (fun s=>[(0,.c (.pt 1 0)),(1,.c (.fm (EM Try.prog 52 (cvK r5.2.2.2.1)))),(2,.c (.d (.v (.int .i64 r5.2.2.1)))),(6,.c (.pt 2 0)),(9,.c (.pt 3 0)),(10,.c (.pt 4 0)),(64,.c (.d (.v (.bool s))))]) (fun s=>[[.d (.sl 11 (List.map Jb a2)),.d (.v (.int .i64 r5.2.2.2.2.1)),.d (.v (.int .i64 r5.2.2.2.2.2.1)),.d (.v (.int .i64 r5.2.2.2.2.2.2.1)),.d (.v (.int .i64 r5.2.2.2.2.2.2.2))],[.d (.v (.int .i64 0)),.d (.v (.int .i64 0)),.sl 3 [] 0],[.d (.v (.int .i64 16)),.d (.v (.int .i64 a1)),.sl 3 [] 0],[.d (.v (.int .i64 4)),.d (.v (.int .i64 r5.1)),.sl 3 (List.map Jp r5.2.1) 5]]) [26] r ?_ ?_
   ·obtain⟨r16,hr16,H⟩:=Je H
    have F:=Y
    rcases Jc H with⟨hp10,H⟩|⟨hp10,H⟩
    ·obtain⟨F,G,hq10⟩:=xH F G hp10
     refine xQ ?_
     refine xs 1 ?_
     refine xc ⟨[1],[]⟩ (tabG 3 (JE a2 r5.2.2.2.2.1 r5.2.2.2.2.2.1 r5.2.2.2.2.2.2.1 r5.2.2.2.2.2.2.2 r16 hr16)) ?_
     refine xs 13 ?_
     refine xl ?_
     refine xS ?_
     exact Jd H (xK ⟨[1,2,5,9],[8]⟩)
    ·obtain⟨F,G,hq10⟩:=xH F G hp10
     rcases Jc H with⟨hp11,H⟩|⟨hp11,H⟩
     ·obtain⟨F,G,hq11⟩:=xH F G hp11
      refine xQ ?_
      refine xs 1 ?_
      refine xc ⟨[1],[]⟩ (tabG 3 (JE a2 r5.2.2.2.2.1 r5.2.2.2.2.2.1 r5.2.2.2.2.2.2.1 r5.2.2.2.2.2.2.2 r16 hr16)) ?_
      refine xs 13 ?_
      refine xl ?_
      refine xS ?_
      exact Jd H (xK ⟨[1,2,5,9],[8]⟩)
     ·obtain⟨F,G,hq11⟩:=xH F G hp11
      obtain⟨r17,hr17,H⟩:=Je H
      have F:=F
      refine xQ ?_
      refine xs 1 ?_
      refine xc ⟨[1],[]⟩ (tabG 3 (JE a2 r5.2.2.2.2.1 r5.2.2.2.2.2.1 r5.2.2.2.2.2.2.1 r5.2.2.2.2.2.2.2 r16 hr16)) ?_
      refine xs 10 ?_
      refine xc ⟨[1],[]⟩ (tabG 0 (JB r5.2.2.1 a2 r5.2.2.2.2.1 r5.2.2.2.2.2.1 r5.2.2.2.2.2.2.1 r5.2.2.2.2.2.2.2 r17 hr17)) ?_
      refine xs 2 ?_
      refine xl ?_
      refine xS ?_
      exact Jd H (xK ⟨[1,2,5,9],[8]⟩)
   ·rintro x1 H
    rw[Vv]at H
    rcases Jc H with⟨hp3,H⟩|⟨hp3,H⟩
    ·obtain⟨F,G,hq3⟩:=xH Y G hp3
     refine xT ?_
     obtain⟨r6,hr6,H⟩:=Je H
     have F:=Y
     refine xQ ?_
     refine xs 7 ?_
     refine xc ⟨[1],[0,5]⟩ (tabG 5 (JfK r5.2.2.2.1 r5.2.2.1 2 (-1) [(⟨16,a1,([]:List Node)⟩:Node)] 4 r5.1 r5.2.1 false a2 r5.2.2.2.2.1 r5.2.2.2.2.2.1 r5.2.2.2.2.2.2.1 r5.2.2.2.2.2.2.2 r6 hr6)) ?_
     refine xs 6 ?_
     refine xl ?_
     replace H:=Option.some.inj H
     refine xS ?_
     subst H
     refine xrD [] ?_
     exact xO ⟨[1],[7]⟩
    ·obtain⟨F,G,hq3⟩:=xH Y G hp3
     refine xE ?_
     refine xr ?_
     refine xr ?_
     refine xr0 ?_
     refine Jn ?_
     refine JC (Vu a2 r5) (fun s=>[(0,.c (.pt 1 0)),(1,.c (.fm (EM Try.prog 52 (cvK r5.2.2.2.1)))),(2,.c (.d (.v (.int .i64 s.1)))),(6,.c (.pt 2 0)),(11,.c (.pt 3 0)),(12,.c (.fm (EM Try.prog 52 (cvK s.2.1))))]) (fun s=>[[.d (.sl 11 (List.map Jb a2)),.d (.v (.int .i64 s.2.2.1)),.d (.v (.int .i64 s.2.2.2.1)),.d (.v (.int .i64 s.2.2.2.2.1)),.d (.v (.int .i64 s.2.2.2.2.2.1))],[.d (.v (.int .i64 0)),.d (.v (.int .i64 0)),.sl 3 [] 0],[.d (.v (.int .i64 3)),.d (.v (.int .i64 (-1))),.sl 3 (List.map Jp s.2.2.2.2.2.2) 4]]) [26] r ?_ ?_
     ·refine xS ?_
      refine KI (Ja1 a2 r5) (fun s=>[(0,.c (.pt 1 0)),(1,.c (.fm (EM Try.prog 52 (cvK r5.2.2.2.1)))),(2,.c (.d (.v (.int .i64 s.1)))),(6,.c (.pt 2 0)),(11,.c (.pt 3 0)),(12,.c (.fm (EM Try.prog 52 (cvK s.2.1))))]) (fun s=>[[.d (.sl 11 (List.map Jb a2)),.d (.v (.int .i64 s.2.2.1)),.d (.v (.int .i64 s.2.2.2.1)),.d (.v (.int .i64 s.2.2.2.2.1)),.d (.v (.int .i64 s.2.2.2.2.2.1))],[.d (.v (.int .i64 0)),.d (.v (.int .i64 0)),.sl 3 [] 0],[.d (.v (.int .i64 3)),.d (.v (.int .i64 (-1))),.sl 3 (List.map Jp s.2.2.2.2.2.2) 4]]) [26] H (xK ⟨[1,2,6],[0]⟩) ?_
      rintro n1 ⟨x9,x10,x11,x12,x13,x14,x15⟩ o1 H hF1
      rw[Ja1]at H
      refine XS ?_
      refine JC (XB a2 r5 x9 x10 x11 x12 x13 x14 x15) (fun s=>[(0,.c (.pt 1 0)),(1,.c (.fm (EM Try.prog 52 (cvK r5.2.2.2.1)))),(2,.c (.d (.v (.int .i64 x9)))),(6,.c (.pt 2 0)),(11,.c (.pt 3 0)),(12,.c (.fm (EM Try.prog 52 (cvK x10)))),(90,.c (.d (.v (.bool s))))]) (fun s=>[[.d (.sl 11 (List.map Jb a2)),.d (.v (.int .i64 x11)),.d (.v (.int .i64 x12)),.d (.v (.int .i64 x13)),.d (.v (.int .i64 x14))],[.d (.v (.int .i64 0)),.d (.v (.int .i64 0)),.sl 3 [] 0],[.d (.v (.int .i64 3)),.d (.v (.int .i64 (-1))),.sl 3 (List.map Jp x15) 4]]) [26] o1 ?_ ?_
      ·obtain⟨r14,hr14,H⟩:=Je H
       have F:=Y
       rcases Jc H with⟨hp9,H⟩|⟨hp9,H⟩
       ·obtain⟨F,G,hq9⟩:=xH F G hp9
        obtain⟨r15,hr15,H⟩:=Je H
        have F:=F
        refine xQ ?_
        refine xs 1 ?_
        refine xc ⟨[1],[]⟩ (tabG 3 (JE a2 x11 x12 x13 x14 r14 hr14)) ?_
        refine xs 3 ?_
        refine xc ⟨[1],[]⟩ (tabG 0 (JB x9 a2 x11 x12 x13 x14 r15 hr15)) ?_
        refine xs 2 ?_
        refine xl ?_
        refine xS ?_
        exact Jd H (xK ⟨[1,2,3],[4]⟩)
       ·obtain⟨F,G,hq9⟩:=xH F G hp9
        refine xQ ?_
        refine xs 1 ?_
        refine xc ⟨[1],[]⟩ (tabG 3 (JE a2 x11 x12 x13 x14 r14 hr14)) ?_
        refine xs 6 ?_
        refine xl ?_
        refine xS ?_
        exact Jd H (xK ⟨[1,2,3],[4]⟩)
      ·rintro x16 H
       rw[XB]at H
       rcases Jc H with⟨hp5,H⟩|⟨hp5,H⟩
       ·obtain⟨F,G,hq5⟩:=xH Y G hp5
        refine xT0 ?_
        refine JbN ?_
        refine Jn ?_
        refine Jfh ?_
        refine JC (VU a2 r5 x10 x14 x15) (fun s=>[(0,.c (.pt 1 0)),(1,.c (.fm (EM Try.prog 52 (cvK r5.2.2.2.1)))),(2,.c (.d (.v (.int .i64 s.1)))),(6,.c (.pt 2 0)),(11,.c (.pt 3 0)),(12,.c (.fm (EM Try.prog 52 (cvK x10))))]) (fun s=>[[.d (.sl 11 (List.map Jb a2)),.d (.v (.int .i64 s.2.1)),.d (.v (.int .i64 s.2.2.1)),.d (.v (.int .i64 s.2.2.2)),.d (.v (.int .i64 x14))],[.d (.v (.int .i64 0)),.d (.v (.int .i64 0)),.sl 3 [] 0],[.d (.v (.int .i64 3)),.d (.v (.int .i64 (-1))),.sl 3 (List.map Jp x15) 4]]) [26] o1 ?_ ?_
        ·refine xS ?_
         refine xr ?_
         rcases Jc H with⟨hp8,H⟩|⟨hp8,H⟩
         ·obtain⟨F,G,hq8⟩:=xH Y G hp8
          refine xT ?_
          obtain⟨r13,hr13,H⟩:=Je H
          have F:=Y
          refine xQ ?_
          refine xs 2 ?_
          refine xc ⟨[1],[]⟩ (tabG 7 (KO x9 [44] a2 x11 x12 x13 x14 r13 hr13)) ?_
          refine xs 1 ?_
          refine xl ?_
          refine xS ?_
          exact Jd H (xK ⟨[1,2,3],[4]⟩)
         ·obtain⟨F,G,hq8⟩:=xH Y G hp8
          refine xE ?_
          exact Jd H (xK ⟨[1,2,3],[4]⟩)
        ·rintro ⟨x17,x18,x19,x20⟩ H
         rw[VU]at H
         refine xS ?_
         obtain⟨r9,hr9,H⟩:=Je H
         have F:=Y
         refine xQ ?_
         refine xs 1 ?_
         refine xc ⟨[1],[]⟩ (tabG 3 (JE a2 x18 x19 x20 x14 r9 hr9)) ?_
         refine xs 1 ?_
         refine xl ?_
         refine xS ?_
         rcases Jc H with⟨hp6,H⟩|⟨hp6,H⟩
         ·obtain⟨F,G,hq6⟩:=xH Y G hp6
          replace H:=Jq H hF1
          refine xT ?_
          exact Jd H (xK ⟨[1,2,3],[4]⟩)
         ·obtain⟨F,G,hq6⟩:=xH Y G hp6
          refine xE ?_
          obtain⟨r10,hr10,H⟩:=Je H
          have F:=Y
          refine xQ ?_
          refine xs 3 ?_
          refine xc ⟨[1],[]⟩ (tabG 2 (Jdp x10 x17 a2 x18 x19 x20 x14 r10 hr10)) ?_
          refine xs 6 ?_
          refine xl ?_
          refine xS ?_
          obtain⟨r11,hr11,H⟩:=Je H
          have F:=Y
          refine xQ ?_
          refine xs 1 ?_
          refine xc ⟨[1],[]⟩ (tabG 3 (JE a2 r10.2.1 r10.2.2.1 r10.2.2.2 x14 r11 hr11)) ?_
          refine xs 1 ?_
          refine xl ?_
          refine xS ?_
          rcases Jc H with⟨hp7,H⟩|⟨hp7,H⟩
          ·obtain⟨F,G,hq7⟩:=xH Y G hp7
           replace H:=Jq H hF1
           refine xT ?_
           exact Jd H (xK ⟨[1,2,3],[4]⟩)
          ·obtain⟨F,G,hq7⟩:=xH Y G hp7
           refine xE ?_
           obtain⟨r12,hr12,H⟩:=Je H
           have F:=Y
           refine xQ ?_
           refine xs 3 ?_
           refine xc ⟨[1],[]⟩ (tabG 4 (ZJ x10 r10.1 false a2 r10.2.1 r10.2.2.1 r10.2.2.2 x14 r12 hr12)) ?_
           refine xs 8 ?_
           refine xl ?_
           refine xS ?_
           obtain⟨hg2,H⟩:=Jg H
           have F:=xZ Y (XN Z4 [(⟨2,(-1),[(⟨16,x17,([]:List Node)⟩:Node),(⟨4,r12.1,r12.2.1⟩:Node)]⟩:Node)])
           refine xR ?_
           refine xr ?_
           exact JJ (J3 H hF1) (xK ⟨[1,2,3],[12]⟩)
       ·obtain⟨F,G,hq5⟩:=xH Y G hp5
        replace H:=Jq H hF1
        refine xE ?_
        exact Jd H (xK ⟨[1,2,3],[4]⟩)
     ·rintro ⟨x2,x3,x4,x5,x6,x7,x8⟩ H
      rw[Vu]at H
      refine xS ?_
      obtain⟨r7,hr7,H⟩:=Je H
      have F:=Y
      refine xQ ?_
      refine xs 1 ?_
      refine xc ⟨[1],[]⟩ (tabG 3 (JE a2 x4 x5 x6 x7 r7 hr7)) ?_
      refine xs 1 ?_
      refine xl ?_
      refine xS ?_
      rcases Jc H with⟨hp4,H⟩|⟨hp4,H⟩
      ·obtain⟨F,G,hq4⟩:=xH Y G hp4
       refine xT ?_
       replace H:=Option.some.inj H
       refine xr ?_
       subst H
       refine xrD [] ?_
       exact xO ⟨[1],[4]⟩
      ·obtain⟨F,G,hq4⟩:=xH Y G hp4
       refine xE ?_
       obtain⟨r8,hr8,H⟩:=Je H
       have F:=Y
       refine xQ ?_
       refine xs 4 ?_
       refine xc ⟨[1],[]⟩ (tabG 6 (JiU x3 (IntKind.i64.wrap (x2+1)) a2 x4 x5 x6 x7 r8 hr8)) ?_
       refine xs 6 ?_
       refine xl ?_
       refine xS ?_
       obtain⟨hg1,H⟩:=Jg H
       have F:=xZ Y (XN Z4 [(⟨5,(-1),r8.1⟩:Node)])
       refine xR ?_
       replace H:=Option.some.inj H
       refine xr ?_
       subst H
       refine xrD [] ?_
       exact xO ⟨[1],[9]⟩
theorem Jc0:Jf Try.prog 17∧(∀ g,Z8 g→Jx Try.prog 17 g)∧(true=true→∀ g,Z8 g→∃ val bs ts,g.out=.ret val bs ts) :=
 ⟨Juc,Jh8,fun _=>by rintro _ ⟨_,_,_,_,_,_,_,_,_,rfl⟩; exact⟨_,_,_,rfl⟩⟩
noncomputable def V7(a0:List Token)(x1:EB)(x2:Int)(x3:Int)(x4:Int)(x5:Int)(x6:Int)(x7:List Node):Bool→Option ((EB×Int×Int×Int×Int×Int×(List Node)) ⊕ (Node×Fault))
 | x8=>if x8=true then(ZX x1 x2 a0 x3 x4 x5 x6).bind fun r1=>if(x7.length + [(⟨r1.1,r1.2.1,r1.2.2.1⟩:Node)].length) * 40≤140737488355328 then some (.inl (r1.2.2.2.2.1,r1.2.2.2.1,r1.2.2.2.2.2.1,r1.2.2.2.2.2.2.1,r1.2.2.2.2.2.2.2.1,r1.2.2.2.2.2.2.2.2,x7++[(⟨r1.1,r1.2.1,r1.2.2.1⟩:Node)])) else none else inrO ((JO a0 x3 x4 x5 x6).bind fun r2=>if(!r2)=true then some ((⟨0,0,([]:List Node)⟩:Node),(⟨x3,x4,x5⟩:Fault)) else some ((⟨1,(-1),x7⟩:Node),(⟨x3,x4,x5⟩:Fault)))
noncomputable def JbU(a0:List Token):(EB×Int×Int×Int×Int×Int×(List Node))→Option ((EB×Int×Int×Int×Int×Int×(List Node)) ⊕ (Node×Fault))
 | (x1,x2,x3,x4,x5,x6,x7)=>if(ltI x2 (a0.length:Int))=true then(JO a0 x3 x4 x5 x6).bind fun r3=>V7 a0 x1 x2 x3 x4 x5 x6 x7 r3 else V7 a0 x1 x2 x3 x4 x5 x6 x7 false
noncomputable def Z7(a0:List Token):Option (Node×Fault) :=
 Jv (JbU a0) (([]:EB),0,0,(-1),0,0,([]:List Node))
noncomputable def JbT:PF:=PF.of (E1 (dL 11 Jb)) (fun a=>Z7 a) (T2 Jp Kh)
theorem JfJ:Kt Try.prog 7 JbT:=by
 refine xFl mixed [10,11] [] [(17,true,Z8),(16,true,KE)] trivial ⟨Jc0,KB,trivial⟩ Try.func7 ?_
 rintro a0 out H
 have G:=True.intro
 have Y:=xZ y_3 <| xZ y_22 <| xZ y_24 <| xZ y_26 <| xZ y_27 <| xZ y_29 <| xZ y_44 <| xZ y_50 <| xZ Try.results7 <| xZ J9.eq_1 <| xZ Jb.eq_1 <| xZ Vn <| xZ Kh.eq_1 <| xZ Jad.eq_1 <| xZ KC.eq_1 <| xZ Jdy <| xZ JcI <| xZ JcK <| xZ Jdx <| xZ JdE <| xZ Jcx <| xZ Jcz <| JdK
 simp only[Z7]at H
 refine xS ?_
 refine xr ?_
 refine xr ?_
 refine xr ?_
 refine xr ?_
 refine xr ?_
 refine KI (JbU a0) (fun s=>[(0,.c (.d (.sl 11 (List.map Jb a0)))),(2,.c (.pt 1 0)),(3,.c (.pt 2 0)),(4,.c (.pt 3 0)),(5,.c (.pt 4 0)),(6,.c (.fm (EM Try.prog 52 (cvK s.1)))),(7,.c (.d (.v (.int .i64 s.2.1))))]) (fun s=>[[.d (.v (.int .i64 0)),.d (.v (.int .i64 0)),.sl 3 [] 0],[.d (.v (.int .i64 0)),.d (.v (.int .i64 0)),.d (.v (.int .i64 0))],[.d (.sl 11 (List.map Jb a0)),.d (.v (.int .i64 s.2.2.1)),.d (.v (.int .i64 s.2.2.2.1)),.d (.v (.int .i64 s.2.2.2.2.1)),.d (.v (.int .i64 s.2.2.2.2.2.1))],[.d (.v (.int .i64 1)),.d (.v (.int .i64 (-1))),.sl 3 (List.map Jp s.2.2.2.2.2.2) 5]]) [26] H (xK ⟨[1,2,3,4],[0]⟩) ?_
 rintro n1 ⟨x1,x2,x3,x4,x5,x6,x7⟩ o1 H hF1
 rw[JbU]at H
 refine XS ?_
 refine JC (V7 a0 x1 x2 x3 x4 x5 x6 x7) (fun s=>[(0,.c (.d (.sl 11 (List.map Jb a0)))),(2,.c (.pt 1 0)),(3,.c (.pt 2 0)),(4,.c (.pt 3 0)),(5,.c (.pt 4 0)),(6,.c (.fm (EM Try.prog 52 (cvK x1)))),(7,.c (.d (.v (.int .i64 x2)))),(24,.c (.d (.v (.bool s))))]) (fun s=>[[.d (.v (.int .i64 0)),.d (.v (.int .i64 0)),.sl 3 [] 0],[.d (.v (.int .i64 0)),.d (.v (.int .i64 0)),.d (.v (.int .i64 0))],[.d (.sl 11 (List.map Jb a0)),.d (.v (.int .i64 x3)),.d (.v (.int .i64 x4)),.d (.v (.int .i64 x5)),.d (.v (.int .i64 x6))],[.d (.v (.int .i64 1)),.d (.v (.int .i64 (-1))),.sl 3 (List.map Jp x7) 5]]) [26] o1 ?_ ?_
 ·rcases Jc H with⟨hp3,H⟩|⟨hp3,H⟩
  ·obtain⟨F,G,hq3⟩:=xH Y G hp3
   obtain⟨r3,hr3,H⟩:=Je H
   have F:=F
   refine xQ ?_
   refine xs 6 ?_
   refine xc ⟨[3],[]⟩ (tabG 1 (JE a0 x3 x4 x5 x6 r3 hr3)) ?_
   refine xs 1 ?_
   refine xl ?_
   refine xS ?_
   exact Jd H (xK ⟨[1,2,3,4],[5]⟩)
  ·obtain⟨F,G,hq3⟩:=xH Y G hp3
   refine xR ?_
   exact Jd H (xK ⟨[1,2,3,4],[5]⟩)
 ·rintro x8 H
  rw[V7]at H
  rcases Jc H with⟨hp1,H⟩|⟨hp1,H⟩
  ·obtain⟨F,G,hq1⟩:=xH Y G hp1
   refine xT ?_
   obtain⟨r1,hr1,H⟩:=Je H
   have F:=Y
   refine xQ ?_
   refine xs 3 ?_
   refine xc ⟨[3],[]⟩ (tabG 0 (JiQ x1 x2 a0 x3 x4 x5 x6 r1 hr1)) ?_
   refine xs 8 ?_
   refine xl ?_
   refine xS ?_
   obtain⟨hg1,H⟩:=Jg H
   have F:=xZ Y (XN Z4 [(⟨r1.1,r1.2.1,r1.2.2.1⟩:Node)])
   refine xR ?_
   refine xr ?_
   exact JJ (J3 H hF1) (xK ⟨[1,2,3,4],[9]⟩)
  ·obtain⟨F,G,hq1⟩:=xH Y G hp1
   replace H:=Jq H hF1
   refine xE ?_
   obtain⟨r2,hr2,H⟩:=Je H
   have F:=Y
   refine xQ ?_
   refine xs 1 ?_
   refine xc ⟨[3],[]⟩ (tabG 1 (JE a0 x3 x4 x5 x6 r2 hr2)) ?_
   refine xs 1 ?_
   refine xl ?_
   refine xS ?_
   rcases Jc H with⟨hp2,H⟩|⟨hp2,H⟩
   ·obtain⟨F,G,hq2⟩:=xH Y G hp2
    refine xT ?_
    have F:=Y
    refine xP [0,1,2,3,4,5,6] [48] ⟨Jc0,KB,trivial⟩ ?_
    refine xsX 4 ?_
    refine xaX ?_
    refine xbX ?_
    refine xbX ?_
    refine xlX ?_
    replace H:=Option.some.inj H
    refine xS ?_
    subst H
    exact xN
   ·obtain⟨F,G,hq2⟩:=xH Y G hp2
    refine xE ?_
    have F:=Y
    refine xP [0,1,2,3,4,5,6] [53] ⟨Jc0,KB,trivial⟩ ?_
    refine xsX 4 ?_
    refine xaX ?_
    refine xbX ?_
    refine xbX ?_
    refine xlX ?_
    replace H:=Option.some.inj H
    refine xS ?_
    subst H
    exact xN
theorem JfQ(a0:List Token)(r:Node×Fault)(H:Z7 a0=some r):PC JbT [(dL 11 Jb) a0] (T2 Jp Kh r):=PF.c (a:=a0) H
end Go.Proofs.Ytaofbminodhcnaa
