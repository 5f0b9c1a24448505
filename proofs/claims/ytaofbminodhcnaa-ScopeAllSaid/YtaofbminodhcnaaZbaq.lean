/- Functions of data for functions of the program. Written by dec3.py. -/
import Derived.Test.YtaofbminodhcnaaZban
set_option linter.unusedVariables false
set_option linter.unusedSimpArgs false
set_option maxHeartbeats 4000000
set_option maxRecDepth 100000
namespace Go.Proofs.Ytaofbminodhcnaa
open Go.RowKit
noncomputable def JO(a0:List Token)(a1:Int)(a2:Int)(a3:Int)(a4:Int):Option Bool :=
 some (eqI a1 0)
noncomputable def KC(a0:List Token)(a1:Int)(a2:Int)(a3:Int)(a4:Int)(r:Bool):GI :=
 ⟨[.c (.pt 1 0)],[[.d (.sl 11 (List.map Jb a0)),.d (.v (.int .i64 a1)),.d (.v (.int .i64 a2)),.d (.v (.int .i64 a3)),.d (.v (.int .i64 a4))]],[],.ret (.c (.d (.v (.bool r)))) [[.d (.sl 11 (List.map Jb a0)),.d (.v (.int .i64 a1)),.d (.v (.int .i64 a2)),.d (.v (.int .i64 a3)),.d (.v (.int .i64 a4))]] []⟩
def KA:GI→Prop:=fun g=>∃ (a0:List Token) (a1:Int) (a2:Int) (a3:Int) (a4:Int) (r:Bool),JO a0 a1 a2 a3 a4=some r∧g=KC a0 a1 a2 a3 a4 r
theorem JE(a0:List Token)(a1:Int)(a2:Int)(a3:Int)(a4:Int)(r:Bool)(H:JO a0 a1 a2 a3 a4=some r):KA (KC a0 a1 a2 a3 a4 r):=⟨a0,a1,a2,a3,a4,r,H,rfl⟩
theorem JjO:∀ g,KA g→Jx Try.prog 16 g:=by
 rintro _ ⟨a0,a1,a2,a3,a4,r,H,rfl⟩
 refine xGn mixed [] [] [] trivial trivial trivial Try.func16 _ ?_
 have G:=True.intro
 have Y:=xZ y_27 <| xZ y_29 <| xZ y_50 <| xZ Try.results16 <| xZ J9.eq_1 <| xZ Jb.eq_1 <| KC.eq_1
 dsimp only[KC]
 simp only[JO]at H
 refine xS ?_
 refine xr ?_
 replace H:=Option.some.inj H
 refine xr ?_
 subst H
 refine xrD [] ?_
 exact xO ⟨[1],[]⟩
theorem KE:Jf Try.prog 16∧(∀ g,KA g→Jx Try.prog 16 g)∧(true=true→∀ g,KA g→∃ val bs ts,g.out=.ret val bs ts) :=
 ⟨Juf,JjO,fun _=>by rintro _ ⟨_,_,_,_,_,_,_,rfl⟩; exact⟨_,_,_,rfl⟩⟩
noncomputable def XY(a0:Int)(a1:List Token):Bool→Option (List UInt8)
 | x1=>if x1=true then if(0:Int)≤a0∧a0.toNat<a1.length then some ((a1.getD a0.toNat default).Text) else none else some []
noncomputable def Jz(a0:Int)(a1:List Token)(a2:Int)(a3:Int)(a4:Int)(a5:Int):Option (List UInt8) :=
 if(ltI a0 (a1.length:Int))=true then if(0:Int)≤a0∧a0.toNat<a1.length then if(eqI ((a1.getD a0.toNat default).Kind) 5)=true then XY a0 a1 true else if(0:Int)≤a0∧a0.toNat<a1.length then XY a0 a1 (eqI ((a1.getD a0.toNat default).Kind) 1) else none else none else XY a0 a1 false
noncomputable def J5(a0:Int)(a1:List Token)(a2:Int)(a3:Int)(a4:Int)(a5:Int)(r:(List UInt8)):GI :=
 ⟨[.c (.pt 1 0),.c (.d (.v (.int .i64 a0)))],[[.d (.sl 11 (List.map Jb a1)),.d (.v (.int .i64 a2)),.d (.v (.int .i64 a3)),.d (.v (.int .i64 a4)),.d (.v (.int .i64 a5))]],[],.ret (.c (.d (.v (str r)))) [[.d (.sl 11 (List.map Jb a1)),.d (.v (.int .i64 a2)),.d (.v (.int .i64 a3)),.d (.v (.int .i64 a4)),.d (.v (.int .i64 a5))]] []⟩
def J6:GI→Prop:=fun g=>∃ (a0:Int) (a1:List Token) (a2:Int) (a3:Int) (a4:Int) (a5:Int) (r:(List UInt8)),Jz a0 a1 a2 a3 a4 a5=some r∧g=J5 a0 a1 a2 a3 a4 a5 r
theorem JC(a0:Int)(a1:List Token)(a2:Int)(a3:Int)(a4:Int)(a5:Int)(r:(List UInt8))(H:Jz a0 a1 a2 a3 a4 a5=some r):J6 (J5 a0 a1 a2 a3 a4 a5 r):=⟨a0,a1,a2,a3,a4,a5,r,H,rfl⟩
theorem JiS:∀ g,J6 g→Jx Try.prog 31 g:=by
 rintro _ ⟨a0,a1,a2,a3,a4,a5,r,H,rfl⟩
 refine xGn mixed [] [] [] trivial trivial trivial Try.func31 _ ?_
 have G:=True.intro
 have Y:=xZ y_3 <| xZ y_9 <| xZ y_22 <| xZ y_44 <| xZ y_50 <| xZ Try.results31 <| xZ J9.eq_1 <| xZ Jb.eq_1 <| J5.eq_1
 dsimp only[J5]
 simp only[Jz]at H
 refine xS ?_
 refine xr0 ?_
 refine Jn ?_
 refine XV ?_
 refine JB (XY a0 a1) (fun s=>[(0,.c (.pt 1 0)),(1,.c (.d (.v (.int .i64 a0)))),(33,.c (.d (.v (.bool s))))]) (fun s=>[[.d (.sl 11 (List.map Jb a1)),.d (.v (.int .i64 a2)),.d (.v (.int .i64 a3)),.d (.v (.int .i64 a4)),.d (.v (.int .i64 a5))]]) [] r ?_ ?_
 ·rcases Jc H with⟨hp2,H⟩|⟨hp2,H⟩
  ·obtain⟨F,G,hq2⟩:=xH Y G hp2
   obtain⟨hg2,H⟩:=Jg H
   have F:=xZ F (Jv Jb a1 a0.toNat default default (by omega))
   rcases Jc H with⟨hp3,H⟩|⟨hp3,H⟩
   ·obtain⟨F,G,hq3⟩:=xH F G hp3
    refine xR ?_
    exact Jd H (xK ⟨[1],[]⟩)
   ·obtain⟨F,G,hq3⟩:=xH F G hp3
    obtain⟨hg3,H⟩:=Jg H
    have F:=xZ F (Jv Jb a1 a0.toNat default default (by omega))
    refine xR ?_
    exact Jd H (xK ⟨[1],[]⟩)
  ·obtain⟨F,G,hq2⟩:=xH Y G hp2
   refine xR ?_
   exact Jd H (xK ⟨[1],[]⟩)
 ·rintro x1 H
  rw[XY]at H
  rcases Jc H with⟨hp1,H⟩|⟨hp1,H⟩
  ·obtain⟨F,G,hq1⟩:=xH Y G hp1
   refine xT ?_
   obtain⟨hg1,H⟩:=Jg H
   have F:=xZ Y (Jv Jb a1 a0.toNat default default (by omega))
   replace H:=Option.some.inj H
   refine xR ?_
   subst H
   refine xrD [] ?_
   exact xO ⟨[1],[]⟩
  ·obtain⟨F,G,hq1⟩:=xH Y G hp1
   refine xE ?_
   replace H:=Option.some.inj H
   refine xr ?_
   subst H
   refine xrD [] ?_
   exact xO ⟨[1],[]⟩
theorem Ks:Jf Try.prog 31∧(∀ g,J6 g→Jx Try.prog 31 g)∧(true=true→∀ g,J6 g→∃ val bs ts,g.out=.ret val bs ts) :=
 ⟨Jua,JiS,fun _=>by rintro _ ⟨_,_,_,_,_,_,_,_,rfl⟩; exact⟨_,_,_,rfl⟩⟩
noncomputable def Jax(a0:List (List UInt8))(a1:List UInt8):(Int×Int)→Option ((Int×Int) ⊕ Bool)
 | (x1,x2)=>if(ltI x2 x1)=true then if(0:Int)≤x2∧x2.toNat<a0.length then if(eqS (a0.getD x2.toNat default) a1)=true then inrO (some true) else some (.inl (x1,IntKind.i64.wrap (x2+1))) else none else inrO (some false)
noncomputable def ZK(a0:List (List UInt8))(a1:List UInt8):Option Bool :=
 Ju (Jax a0 a1) ((a0.length:Int),0)
noncomputable def JaC:PF:=PF.of (E2 (dL 1 dS) dS) (fun a=>ZK a.1 a.2) dB
theorem JcU:Kt Try.prog 26 JaC:=by
 refine xF mixed [] [] trivial trivial Try.func26 ?_
 rintro ⟨a0,a1⟩ out H
 have G:=True.intro
 have Y:=xZ y_9 <| xZ y_41 <| Try.results26
 simp only[ZK]at H
 refine xS ?_
 refine xr ?_
 refine xr ?_
 refine KH (Jax a0 a1) (fun s=>[(1,.c (.d (.v (str a1)))),(7,.c (.d (.sl 1 (List.map dS a0)))),(8,.c (.d (.v (.int .i64 s.1)))),(9,.c (.d (.v (.int .i64 s.2))))]) (fun s=>[]) [] H (xK ⟨[],[]⟩) ?_
 rintro n1 ⟨x1,x2⟩ o1 H hF1
 rw[Jax]at H
 refine xS ?_
 refine xr ?_
 rcases Jc H with⟨hp1,H⟩|⟨hp1,H⟩
 ·obtain⟨F,G,hq1⟩:=xH Y G hp1
  refine xT ?_
  obtain⟨hg1,H⟩:=Jg H
  have F:=xZ Y (Jv dS a0 x2.toNat default default (by omega))
  refine xR ?_
  refine xr ?_
  rcases Jc H with⟨hp2,H⟩|⟨hp2,H⟩
  ·obtain⟨F,G,hq2⟩:=xH Y G hp2
   refine xT ?_
   replace H:=Jq H hF1
   replace H:=Option.some.inj H
   refine xr ?_
   subst H
   exact xN
  ·obtain⟨F,G,hq2⟩:=xH Y G hp2
   refine xE ?_
   refine xr ?_
   exact JJ (J2 H hF1) (xK ⟨[],[]⟩)
 ·obtain⟨F,G,hq1⟩:=xH Y G hp1
  replace H:=Jq H hF1
  refine xE ?_
  replace H:=Option.some.inj H
  refine xr ?_
  subst H
  exact xN
theorem Jdn(a0:List (List UInt8))(a1:List UInt8)(r:Bool)(H:ZK a0 a1=some r):PC JaC [(dL 1 dS) a0,dS a1] (dB r):=PF.c (a:=(a0,a1)) H
noncomputable def JbK(a0:List UInt8):Option Bool :=
 (ZK [[105,110,116],[99,104,97,114],[108,111,110,103],[118,111,105,100]] a0).bind fun r1=>some r1
noncomputable def JdY:PF:=PF.of (E1 dS) (fun a=>JbK a) dB
theorem Jkg:Kt Try.prog 47 JdY:=by
 refine xF mixed [(26,JaC)] [] ⟨⟨JiE,JcU⟩,trivial⟩ trivial Try.func47 ?_
 rintro a0 out H
 have G:=True.intro
 have Y:=xZ y_9 <| xZ y_41 <| Try.results47
 simp only[JbK]at H
 refine xS ?_
 refine xr ?_
 obtain⟨r1,hr1,H⟩:=Je H
 have F:=xC Y (Jdn [[105,110,116],[99,104,97,114],[108,111,110,103],[118,111,105,100]] a0 r1 hr1)
 replace H:=Option.some.inj H
 refine xR ?_
 subst H
 exact xN
theorem JkJ(a0:List UInt8)(r:Bool)(H:JbK a0=some r):PC JdY [dS a0] (dB r):=PF.c (a:=a0) H
noncomputable def Zm:Bool→Option Bool
 | x1=>some x1
noncomputable def Xw(a0:EB)(a1:Int)(a2:List Token)(a3:Int)(a4:Int)(a5:Int)(a6:Int):Option Bool :=
 (Jz a1 a2 a3 a4 a5 a6).bind fun r1=>(JbK r1).bind fun r2=>if r2=true then Zm true else(Jz a1 a2 a3 a4 a5 a6).bind fun r3=>if r3.length≤9223372036854775807 then Zm (ebV a0 r3) else none
noncomputable def XD(a0:EB)(a1:Int)(a2:List Token)(a3:Int)(a4:Int)(a5:Int)(a6:Int)(r:Bool):GI :=
 ⟨[.c (.pt 1 0),.c (.fm (EM Try.prog 52 (cvK a0))),.c (.d (.v (.int .i64 a1)))],[[.d (.sl 11 (List.map Jb a2)),.d (.v (.int .i64 a3)),.d (.v (.int .i64 a4)),.d (.v (.int .i64 a5)),.d (.v (.int .i64 a6))]],[],.ret (.c (.d (.v (.bool r)))) [[.d (.sl 11 (List.map Jb a2)),.d (.v (.int .i64 a3)),.d (.v (.int .i64 a4)),.d (.v (.int .i64 a5)),.d (.v (.int .i64 a6))]] []⟩
def XI:GI→Prop:=fun g=>∃ (a0:EB) (a1:Int) (a2:List Token) (a3:Int) (a4:Int) (a5:Int) (a6:Int) (r:Bool),Xw a0 a1 a2 a3 a4 a5 a6=some r∧g=XD a0 a1 a2 a3 a4 a5 a6 r
theorem JeF(a0:EB)(a1:Int)(a2:List Token)(a3:Int)(a4:Int)(a5:Int)(a6:Int)(r:Bool)(H:Xw a0 a1 a2 a3 a4 a5 a6=some r):XI (XD a0 a1 a2 a3 a4 a5 a6 r):=⟨a0,a1,a2,a3,a4,a5,a6,r,H,rfl⟩
theorem Jhx:∀ g,XI g→Jx Try.prog 56 g:=by
 rintro _ ⟨a0,a1,a2,a3,a4,a5,a6,r,H,rfl⟩
 refine xGn mixed [(47,JdY)] [(31,true,J6)] [] ⟨⟨JuG,Jkg⟩,trivial⟩ ⟨Ks,trivial⟩ trivial Try.func56 _ ?_
 have G:=True.intro
 have Y:=xZ Try.results56 <| xZ J9.eq_1 <| xZ Jb.eq_1 <| xZ J5.eq_1 <| xZ XD.eq_1 <| xZ JdH <| xZ Jcz <| xZ Jcy <| xZ JdG <| xZ JdD <| xZ JcG <| xZ JcA <| JdF
 dsimp only[XD]
 simp only[Xw]at H
 refine xS ?_
 refine xr0 ?_
 refine Jn ?_
 refine JB Zm (fun s=>[(6,.c (.d (.v (.bool s))))]) (fun s=>[[.d (.sl 11 (List.map Jb a2)),.d (.v (.int .i64 a3)),.d (.v (.int .i64 a4)),.d (.v (.int .i64 a5)),.d (.v (.int .i64 a6))]]) [] r ?_ ?_
 ·obtain⟨r1,hr1,H⟩:=Je H
  have F:=Y
  obtain⟨r2,hr2,H⟩:=Je H
  have F:=xCf F (JkJ r1 r2 hr2)
  rcases Jc H with⟨hp1,H⟩|⟨hp1,H⟩
  ·obtain⟨F,G,hq1⟩:=xH F G hp1
   refine xQ ?_
   refine xs 2 ?_
   refine xc ⟨[1],[]⟩ (tabG 0 (JC a1 a2 a3 a4 a5 a6 r1 hr1)) ?_
   refine xs 9 ?_
   refine xl ?_
   refine xS ?_
   exact Jd H (xK ⟨[1],[]⟩)
  ·obtain⟨F,G,hq1⟩:=xH F G hp1
   obtain⟨r3,hr3,H⟩:=Je H
   have F:=F
   obtain⟨hg1,H⟩:=Jg H
   refine xQ ?_
   refine xs 2 ?_
   refine xc ⟨[1],[]⟩ (tabG 0 (JC a1 a2 a3 a4 a5 a6 r1 hr1)) ?_
   refine xs 5 ?_
   refine xc ⟨[1],[]⟩ (tabG 0 (JC a1 a2 a3 a4 a5 a6 r3 hr3)) ?_
   refine xs 3 ?_
   refine xl ?_
   refine xS ?_
   exact Jd H (xK ⟨[1],[]⟩)
 ·rintro x1 H
  rw[Zm]at H
  replace H:=Option.some.inj H
  refine xS ?_
  subst H
  refine xrD [] ?_
  exact xO ⟨[1],[]⟩
theorem JeM:Jf Try.prog 56∧(∀ g,XI g→Jx Try.prog 56 g)∧(true=true→∀ g,XI g→∃ val bs ts,g.out=.ret val bs ts) :=
 ⟨Jur,Jhx,fun _=>by rintro _ ⟨_,_,_,_,_,_,_,_,_,rfl⟩; exact⟨_,_,_,rfl⟩⟩
noncomputable def JdW(a0:List Token)(a1:Int)(a2:Int):Option Fault :=
 if(ltI a1 (a0.length:Int))=true then if(0:Int)≤a1∧a1.toNat<a0.length then if(0:Int)≤a1∧a1.toNat<a0.length then some (⟨a2,(a0.getD a1.toNat default).File,(a0.getD a1.toNat default).At⟩:Fault) else none else none else if(ltI 0 (a0.length:Int))=true then if(0:Int)≤(IntKind.i64.wrap ((a0.length:Int)-1))∧(IntKind.i64.wrap ((a0.length:Int)-1)).toNat<a0.length then some (⟨a2,(a0.getD ((IntKind.i64.wrap ((a0.length:Int)-1)).toNat) default).File,(a0.getD ((IntKind.i64.wrap ((a0.length:Int)-1)).toNat) default).End⟩:Fault) else none else some (⟨a2,(-1),0⟩:Fault)
noncomputable def JeX:PF:=PF.of (E3 (dL 11 Jb) dI dI) (fun a=>JdW a.1 a.2.1 a.2.2) Kf
theorem Jm0:Kt Try.prog 77 JeX:=by
 refine xF mixed [] [] trivial trivial Try.func77 ?_
 rintro ⟨a0,a1,a2⟩ out H
 have G:=True.intro
 have Y:=xZ y_3 <| xZ y_22 <| xZ y_27 <| xZ y_29 <| xZ y_44 <| xZ Try.results77 <| xZ J9.eq_1 <| xZ Jb.eq_1 <| Kf.eq_1
 simp only[JdW]at H
 refine xS ?_
 refine xr ?_
 refine xr ?_
 rcases Jc H with⟨hp1,H⟩|⟨hp1,H⟩
 ·obtain⟨F,G,hq1⟩:=xH Y G hp1
  refine xT ?_
  obtain⟨hg1,H⟩:=Jg H
  have F:=xZ Y (Jv Jb a0 a1.toNat default default (by omega))
  obtain⟨hg2,H⟩:=Jg H
  have F:=xZ F (Jv Jb a0 a1.toNat default default (by omega))
  replace H:=Option.some.inj H
  refine xR ?_
  subst H
  exact xN
 ·obtain⟨F,G,hq1⟩:=xH Y G hp1
  refine xE ?_
  refine xr ?_
  rcases Jc H with⟨hp2,H⟩|⟨hp2,H⟩
  ·obtain⟨F,G,hq2⟩:=xH Y G hp2
   refine xT ?_
   obtain⟨hg3,H⟩:=Jg H
   have F:=xZ Y (Jv Jb a0 ((IntKind.i64.wrap ((a0.length:Int)-1)).toNat) default default (by omega))
   refine xR ?_
   replace H:=Option.some.inj H
   refine xr ?_
   subst H
   exact xN
  ·obtain⟨F,G,hq2⟩:=xH Y G hp2
   refine xE ?_
   replace H:=Option.some.inj H
   refine xr ?_
   subst H
   exact xN
theorem Jn4(a0:List Token)(a1:Int)(a2:Int)(r:Fault)(H:JdW a0 a1 a2=some r):PC JeX [(dL 11 Jb) a0,dI a1,dI a2] (Kf r):=PF.c (a:=(a0,a1,a2)) H
noncomputable def Vn(a0:Int)(a1:Int)(a2:List Token)(a3:Int)(a4:Int)(a5:Int)(a6:Int):Option (Int×Int×Int) :=
 if(eqI a3 0)=true then(JdW a2 a0 a1).bind fun r1=>some (r1.Err,r1.File,r1.At) else some (a3,a4,a5)
noncomputable def Vb(a0:Int)(a1:Int)(a2:List Token)(a3:Int)(a4:Int)(a5:Int)(a6:Int)(r:(Int×Int×Int)):GI :=
 ⟨[.c (.pt 1 0),.c (.d (.v (.int .i64 a0))),.c (.d (.v (.int .i64 a1)))],[[.d (.sl 11 (List.map Jb a2)),.d (.v (.int .i64 a3)),.d (.v (.int .i64 a4)),.d (.v (.int .i64 a5)),.d (.v (.int .i64 a6))]],[],.ret (.tu []) [[.d (.sl 11 (List.map Jb a2)),.d (.v (.int .i64 r.1)),.d (.v (.int .i64 r.2.1)),.d (.v (.int .i64 r.2.2)),.d (.v (.int .i64 a6))]] []⟩
def Vf:GI→Prop:=fun g=>∃ (a0:Int) (a1:Int) (a2:List Token) (a3:Int) (a4:Int) (a5:Int) (a6:Int) (r:(Int×Int×Int)),Vn a0 a1 a2 a3 a4 a5 a6=some r∧g=Vb a0 a1 a2 a3 a4 a5 a6 r
theorem Zw(a0:Int)(a1:Int)(a2:List Token)(a3:Int)(a4:Int)(a5:Int)(a6:Int)(r:(Int×Int×Int))(H:Vn a0 a1 a2 a3 a4 a5 a6=some r):Vf (Vb a0 a1 a2 a3 a4 a5 a6 r):=⟨a0,a1,a2,a3,a4,a5,a6,r,H,rfl⟩
theorem JiZ:∀ g,Vf g→Jx Try.prog 57 g:=by
 rintro _ ⟨a0,a1,a2,a3,a4,a5,a6,r,H,rfl⟩
 refine xGn mixed [(77,JeX)] [] [] ⟨⟨JtY,Jm0⟩,trivial⟩ trivial trivial Try.func57 _ ?_
 have G:=True.intro
 have Y:=xZ y_22 <| xZ y_27 <| xZ y_29 <| xZ y_50 <| xZ Try.results57 <| xZ J9.eq_1 <| xZ Jb.eq_1 <| xZ Kf.eq_1 <| Vb.eq_1
 dsimp only[Vb]
 simp only[Vn]at H
 refine xS ?_
 refine xr ?_
 rcases Jc H with⟨hp1,H⟩|⟨hp1,H⟩
 ·obtain⟨F,G,hq1⟩:=xH Y G hp1
  refine xT ?_
  obtain⟨r1,hr1,H⟩:=Je H
  have F:=xC Y (Jn4 a2 a0 a1 r1 hr1)
  replace H:=Option.some.inj H
  refine xR ?_
  subst H
  refine xnD [] ?_
  exact xO ⟨[1],[]⟩
 ·obtain⟨F,G,hq1⟩:=xH Y G hp1
  replace H:=Option.some.inj H
  refine xE ?_
  subst H
  refine xnD [] ?_
  exact xO ⟨[1],[]⟩
theorem ZE:Jf Try.prog 57∧(∀ g,Vf g→Jx Try.prog 57 g)∧(true=true→∀ g,Vf g→∃ val bs ts,g.out=.ret val bs ts) :=
 ⟨JuI,JiZ,fun _=>by rintro _ ⟨_,_,_,_,_,_,_,_,_,rfl⟩; exact⟨_,_,_,rfl⟩⟩
noncomputable def Jaj(a1:Int):(Int×Int×Int)→Option (Int×Int×Int×Int)
 | (x1,x2,x3)=>some (IntKind.i64.wrap (a1+1),x1,x2,x3)
noncomputable def Xd(a0:EB)(a1:Int)(a2:List Token)(a3:Int)(a4:Int)(a5:Int)(a6:Int):Option (Int×Int×Int×Int) :=
 (Xw a0 a1 a2 a3 a4 a5 a6).bind fun r1=>if(!r1)=true then(Vn a1 2 a2 a3 a4 a5 a6).bind fun r2=>Jaj a1 (r2.1,r2.2.1,r2.2.2) else Jaj a1 (a3,a4,a5)
noncomputable def ZF(a0:EB)(a1:Int)(a2:List Token)(a3:Int)(a4:Int)(a5:Int)(a6:Int)(r:(Int×Int×Int×Int)):GI :=
 ⟨[.c (.pt 1 0),.c (.fm (EM Try.prog 52 (cvK a0))),.c (.d (.v (.int .i64 a1)))],[[.d (.sl 11 (List.map Jb a2)),.d (.v (.int .i64 a3)),.d (.v (.int .i64 a4)),.d (.v (.int .i64 a5)),.d (.v (.int .i64 a6))]],[],.ret (.tu [(true,[.d (.v (.int .i64 16)),.d (.v (.int .i64 a1)),.sl 3 [] 0]),(false,[.d (.v (.int .i64 r.1))])]) [[.d (.sl 11 (List.map Jb a2)),.d (.v (.int .i64 r.2.1)),.d (.v (.int .i64 r.2.2.1)),.d (.v (.int .i64 r.2.2.2)),.d (.v (.int .i64 a6))]] []⟩
def Zp:GI→Prop:=fun g=>∃ (a0:EB) (a1:Int) (a2:List Token) (a3:Int) (a4:Int) (a5:Int) (a6:Int) (r:(Int×Int×Int×Int)),Xd a0 a1 a2 a3 a4 a5 a6=some r∧g=ZF a0 a1 a2 a3 a4 a5 a6 r
theorem Jdp(a0:EB)(a1:Int)(a2:List Token)(a3:Int)(a4:Int)(a5:Int)(a6:Int)(r:(Int×Int×Int×Int))(H:Xd a0 a1 a2 a3 a4 a5 a6=some r):Zp (ZF a0 a1 a2 a3 a4 a5 a6 r):=⟨a0,a1,a2,a3,a4,a5,a6,r,H,rfl⟩
theorem JiP:∀ g,Zp g→Jx Try.prog 33 g:=by
 rintro _ ⟨a0,a1,a2,a3,a4,a5,a6,r,H,rfl⟩
 refine xGn mixed [] [(56,true,XI),(57,true,Vf)] [] trivial ⟨JeM,ZE,trivial⟩ trivial Try.func33 _ ?_
 have G:=True.intro
 have Y:=xZ y_3 <| xZ y_24 <| xZ y_26 <| xZ Try.results33 <| xZ J9.eq_1 <| xZ Jb.eq_1 <| xZ Vl <| xZ Kf.eq_1 <| xZ XD.eq_1 <| xZ Vb.eq_1 <| ZF.eq_1
 dsimp only[ZF]
 simp only[Xd]at H
 refine xS ?_
 refine xr0 ?_
 refine Jn ?_
 refine JB (Jaj a1) (fun s=>[(2,.c (.d (.v (.int .i64 a1)))),(6,.c (.pt 2 0))]) (fun s=>[[.d (.sl 11 (List.map Jb a2)),.d (.v (.int .i64 s.1)),.d (.v (.int .i64 s.2.1)),.d (.v (.int .i64 s.2.2)),.d (.v (.int .i64 a6))],[.d (.v (.int .i64 0)),.d (.v (.int .i64 0)),.sl 3 [] 0]]) [] r ?_ ?_
 ·refine xS ?_
  obtain⟨r1,hr1,H⟩:=Je H
  have F:=Y
  refine xQ ?_
  refine xs 3 ?_
  refine xc ⟨[1],[]⟩ (tabG 0 (JeF a0 a1 a2 a3 a4 a5 a6 r1 hr1)) ?_
  refine xs 1 ?_
  refine xl ?_
  refine xS ?_
  rcases Jc H with⟨hp1,H⟩|⟨hp1,H⟩
  ·obtain⟨F,G,hq1⟩:=xH Y G hp1
   refine xT ?_
   obtain⟨r2,hr2,H⟩:=Je H
   have F:=Y
   refine xQ ?_
   refine xs 2 ?_
   refine xc ⟨[1],[]⟩ (tabG 1 (Zw a1 2 a2 a3 a4 a5 a6 r2 hr2)) ?_
   refine xl ?_
   refine xS ?_
   exact Jd H (xK ⟨[1,2],[]⟩)
  ·obtain⟨F,G,hq1⟩:=xH Y G hp1
   refine xE ?_
   exact Jd H (xK ⟨[1,2],[]⟩)
 ·rintro ⟨x1,x2,x3⟩ H
  rw[Jaj]at H
  refine xS ?_
  replace H:=Option.some.inj H
  refine xr ?_
  subst H
  refine xrD [] ?_
  exact xO ⟨[1],[]⟩
theorem JfF:Jf Try.prog 33∧(∀ g,Zp g→Jx Try.prog 33 g)∧(true=true→∀ g,Zp g→∃ val bs ts,g.out=.ret val bs ts) :=
 ⟨Juz,JiP,fun _=>by rintro _ ⟨_,_,_,_,_,_,_,_,_,rfl⟩; exact⟨_,_,_,rfl⟩⟩
noncomputable def Jbq(a0:List UInt8):Option Bool :=
 (ZK [[105,110,116],[99,104,97,114],[108,111,110,103],[118,111,105,100],[116,121,112,101,100,101,102],[105,102],[101,108,115,101],[119,104,105,108,101],[114,101,116,117,114,110]] a0).bind fun r1=>some r1
noncomputable def JcQ:PF:=PF.of (E1 dS) (fun a=>Jbq a) dB
theorem Jgl:Kt Try.prog 14 JcQ:=by
 refine xF mixed [(26,JaC)] [] ⟨⟨JiE,JcU⟩,trivial⟩ trivial Try.func14 ?_
 rintro a0 out H
 have G:=True.intro
 have Y:=xZ y_9 <| xZ y_41 <| Try.results14
 simp only[Jbq]at H
 refine xS ?_
 refine xr ?_
 obtain⟨r1,hr1,H⟩:=Je H
 have F:=xC Y (Jdn [[105,110,116],[99,104,97,114],[108,111,110,103],[118,111,105,100],[116,121,112,101,100,101,102],[105,102],[101,108,115,101],[119,104,105,108,101],[114,101,116,117,114,110]] a0 r1 hr1)
 replace H:=Option.some.inj H
 refine xR ?_
 subst H
 exact xN
theorem Jhm(a0:List UInt8)(r:Bool)(H:Jbq a0=some r):PC JcQ [dS a0] (dB r):=PF.c (a:=a0) H
noncomputable def VW(a0:Int)(a1:List Token)(a2:Int)(a3:Int)(a4:Int)(a5:Int):Bool→Option (Int×Int×Int)
 | x1=>if x1=true then(Vn a0 2 a1 a2 a3 a4 a5).bind fun r1=>some (r1.1,r1.2.1,r1.2.2) else some (a2,a3,a4)
noncomputable def Vp(a0:Int)(a1:List Token)(a2:Int)(a3:Int)(a4:Int)(a5:Int):Option (Int×Int×Int) :=
 if(leI (a1.length:Int) a0)=true then VW a0 a1 a2 a3 a4 a5 true else if(0:Int)≤a0∧a0.toNat<a1.length then if(!eqI ((a1.getD a0.toNat default).Kind) 1)=true then VW a0 a1 a2 a3 a4 a5 true else if(0:Int)≤a0∧a0.toNat<a1.length then(Jbq ((a1.getD a0.toNat default).Text)).bind fun r2=>VW a0 a1 a2 a3 a4 a5 r2 else none else none
noncomputable def X2(a0:Int)(a1:List Token)(a2:Int)(a3:Int)(a4:Int)(a5:Int)(r:(Int×Int×Int)):GI :=
 ⟨[.c (.pt 1 0),.c (.d (.v (.int .i64 a0)))],[[.d (.sl 11 (List.map Jb a1)),.d (.v (.int .i64 a2)),.d (.v (.int .i64 a3)),.d (.v (.int .i64 a4)),.d (.v (.int .i64 a5))]],[],.ret (.tu []) [[.d (.sl 11 (List.map Jb a1)),.d (.v (.int .i64 r.1)),.d (.v (.int .i64 r.2.1)),.d (.v (.int .i64 r.2.2)),.d (.v (.int .i64 a5))]] []⟩
def X6:GI→Prop:=fun g=>∃ (a0:Int) (a1:List Token) (a2:Int) (a3:Int) (a4:Int) (a5:Int) (r:(Int×Int×Int)),Vp a0 a1 a2 a3 a4 a5=some r∧g=X2 a0 a1 a2 a3 a4 a5 r
theorem Je4(a0:Int)(a1:List Token)(a2:Int)(a3:Int)(a4:Int)(a5:Int)(r:(Int×Int×Int))(H:Vp a0 a1 a2 a3 a4 a5=some r):X6 (X2 a0 a1 a2 a3 a4 a5 r):=⟨a0,a1,a2,a3,a4,a5,r,H,rfl⟩
theorem Jiq:∀ g,X6 g→Jx Try.prog 58 g:=by
 rintro _ ⟨a0,a1,a2,a3,a4,a5,r,H,rfl⟩
 refine xGn mixed [(14,JcQ)] [(57,true,Vf)] [] ⟨⟨Jqd,Jgl⟩,trivial⟩ ⟨ZE,trivial⟩ trivial Try.func58 _ ?_
 have G:=True.intro
 have Y:=xZ y_3 <| xZ y_9 <| xZ y_22 <| xZ y_44 <| xZ y_50 <| xZ Try.results58 <| xZ J9.eq_1 <| xZ Jb.eq_1 <| xZ Kf.eq_1 <| xZ Vb.eq_1 <| X2.eq_1
 dsimp only[X2]
 simp only[Vp]at H
 refine JB (VW a0 a1 a2 a3 a4 a5) (fun s=>[(0,.c (.pt 1 0)),(1,.c (.d (.v (.int .i64 a0)))),(32,.c (.d (.v (.bool s))))]) (fun s=>[[.d (.sl 11 (List.map Jb a1)),.d (.v (.int .i64 a2)),.d (.v (.int .i64 a3)),.d (.v (.int .i64 a4)),.d (.v (.int .i64 a5))]]) [] r ?_ ?_
 ·rcases Jc H with⟨hp2,H⟩|⟨hp2,H⟩
  ·obtain⟨F,G,hq2⟩:=xH Y G hp2
   refine xR ?_
   exact Jd H (xK ⟨[1],[]⟩)
  ·obtain⟨F,G,hq2⟩:=xH Y G hp2
   obtain⟨hg1,H⟩:=Jg H
   have F:=xZ F (Jv Jb a1 a0.toNat default default (by omega))
   rcases Jc H with⟨hp3,H⟩|⟨hp3,H⟩
   ·obtain⟨F,G,hq3⟩:=xH F G hp3
    refine xR ?_
    exact Jd H (xK ⟨[1],[]⟩)
   ·obtain⟨F,G,hq3⟩:=xH F G hp3
    obtain⟨hg2,H⟩:=Jg H
    have F:=xZ F (Jv Jb a1 a0.toNat default default (by omega))
    obtain⟨r2,hr2,H⟩:=Je H
    have F:=xCf F (Jhm ((a1.getD a0.toNat default).Text) r2 hr2)
    refine xR ?_
    exact Jd H (xK ⟨[1],[]⟩)
 ·rintro x1 H
  rw[VW]at H
  rcases Jc H with⟨hp1,H⟩|⟨hp1,H⟩
  ·obtain⟨F,G,hq1⟩:=xH Y G hp1
   refine xT ?_
   obtain⟨r1,hr1,H⟩:=Je H
   have F:=Y
   refine xQ ?_
   refine xs 2 ?_
   refine xc ⟨[1],[]⟩ (tabG 0 (Zw a0 2 a1 a2 a3 a4 a5 r1 hr1)) ?_
   refine xl ?_
   replace H:=Option.some.inj H
   refine xS ?_
   subst H
   refine xnD [] ?_
   exact xO ⟨[1],[]⟩
  ·obtain⟨F,G,hq1⟩:=xH Y G hp1
   replace H:=Option.some.inj H
   refine xE ?_
   subst H
   refine xnD [] ?_
   exact xO ⟨[1],[]⟩
theorem Jc2:Jf Try.prog 58∧(∀ g,X6 g→Jx Try.prog 58 g)∧(true=true→∀ g,X6 g→∃ val bs ts,g.out=.ret val bs ts) :=
 ⟨Jt3,Jiq,fun _=>by rintro _ ⟨_,_,_,_,_,_,_,_,rfl⟩; exact⟨_,_,_,rfl⟩⟩
noncomputable def XB(a1:List Token)(a5:Int):(Int×Int×Int)→Option (Bool×Int×Int×Int×Int)
 | (x1,x2,x3)=>(JO a1 x1 x2 x3 (IntKind.i64.wrap (a5+1))).bind fun r1=>some (r1,x1,x2,x3,(IntKind.i64.wrap (a5+1)))
noncomputable def KJ(a0:Int)(a1:List Token)(a2:Int)(a3:Int)(a4:Int)(a5:Int):Option (Bool×Int×Int×Int×Int) :=
 if(leI 30 a5)=true then(Vn a0 10 a1 a2 a3 a4 a5).bind fun r2=>XB a1 a5 (r2.1,r2.2.1,r2.2.2) else XB a1 a5 (a2,a3,a4)
noncomputable def VI(a0:Int)(a1:List Token)(a2:Int)(a3:Int)(a4:Int)(a5:Int)(r:(Bool×Int×Int×Int×Int)):GI :=
 ⟨[.c (.pt 1 0),.c (.d (.v (.int .i64 a0)))],[[.d (.sl 11 (List.map Jb a1)),.d (.v (.int .i64 a2)),.d (.v (.int .i64 a3)),.d (.v (.int .i64 a4)),.d (.v (.int .i64 a5))]],[],.ret (.c (.d (.v (.bool r.1)))) [[.d (.sl 11 (List.map Jb a1)),.d (.v (.int .i64 r.2.1)),.d (.v (.int .i64 r.2.2.1)),.d (.v (.int .i64 r.2.2.2.1)),.d (.v (.int .i64 r.2.2.2.2))]] []⟩
def VN:GI→Prop:=fun g=>∃ (a0:Int) (a1:List Token) (a2:Int) (a3:Int) (a4:Int) (a5:Int) (r:(Bool×Int×Int×Int×Int)),KJ a0 a1 a2 a3 a4 a5=some r∧g=VI a0 a1 a2 a3 a4 a5 r
theorem JbC(a0:Int)(a1:List Token)(a2:Int)(a3:Int)(a4:Int)(a5:Int)(r:(Bool×Int×Int×Int×Int))(H:KJ a0 a1 a2 a3 a4 a5=some r):VN (VI a0 a1 a2 a3 a4 a5 r):=⟨a0,a1,a2,a3,a4,a5,r,H,rfl⟩
theorem JhC:∀ g,VN g→Jx Try.prog 61 g:=by
 rintro _ ⟨a0,a1,a2,a3,a4,a5,r,H,rfl⟩
 refine xGn mixed [] [(16,true,KA),(57,true,Vf)] [] trivial ⟨KE,ZE,trivial⟩ trivial Try.func61 _ ?_
 have G:=True.intro
 have Y:=xZ y_3 <| xZ y_50 <| xZ Try.results61 <| xZ J9.eq_1 <| xZ Jb.eq_1 <| xZ Kf.eq_1 <| xZ KC.eq_1 <| xZ Vb.eq_1 <| VI.eq_1
 dsimp only[VI]
 simp only[KJ]at H
 refine xS ?_
 refine xr0 ?_
 refine Jn ?_
 refine JB (XB a1 a5) (fun s=>[(0,.c (.pt 1 0))]) (fun s=>[[.d (.sl 11 (List.map Jb a1)),.d (.v (.int .i64 s.1)),.d (.v (.int .i64 s.2.1)),.d (.v (.int .i64 s.2.2)),.d (.v (.int .i64 a5))]]) [] r ?_ ?_
 ·refine xS ?_
  refine xr ?_
  rcases Jc H with⟨hp1,H⟩|⟨hp1,H⟩
  ·obtain⟨F,G,hq1⟩:=xH Y G hp1
   refine xT ?_
   obtain⟨r2,hr2,H⟩:=Je H
   have F:=Y
   refine xQ ?_
   refine xs 2 ?_
   refine xc ⟨[1],[]⟩ (tabG 1 (Zw a0 10 a1 a2 a3 a4 a5 r2 hr2)) ?_
   refine xl ?_
   refine xS ?_
   exact Jd H (xK ⟨[1],[]⟩)
  ·obtain⟨F,G,hq1⟩:=xH Y G hp1
   refine xE ?_
   exact Jd H (xK ⟨[1],[]⟩)
 ·rintro ⟨x1,x2,x3⟩ H
  rw[XB]at H
  refine xS ?_
  refine xr ?_
  obtain⟨r1,hr1,H⟩:=Je H
  have F:=Y
  refine xQ ?_
  refine xs 1 ?_
  refine xc ⟨[1],[]⟩ (tabG 0 (JE a1 x1 x2 x3 (IntKind.i64.wrap (a5+1)) r1 hr1)) ?_
  refine xs 1 ?_
  refine xl ?_
  replace H:=Option.some.inj H
  refine xS ?_
  subst H
  refine xrD [] ?_
  exact xO ⟨[1],[]⟩
theorem Jbx:Jf Try.prog 61∧(∀ g,VN g→Jx Try.prog 61 g)∧(true=true→∀ g,VN g→∃ val bs ts,g.out=.ret val bs ts) :=
 ⟨JuH,JhC,fun _=>by rintro _ ⟨_,_,_,_,_,_,_,_,rfl⟩; exact⟨_,_,_,rfl⟩⟩
noncomputable def JcX  : Option (List (List (List UInt8))) :=
 some [[[44]],[[61],[43,61],[45,61],[42,61],[47,61],[37,61],[38,61],[124,61],[94,61],[60,60,61],[62,62,61]],[[124,124]],[[38,38]],[[124]],[[94]],[[38]],[[61,61],[33,61]],[[60],[62],[60,61],[62,61]],[[60,60],[62,62]],[[43],[45]],[[42],[47],[37]]]
noncomputable def Jc4:PF:=PF.of E0 (fun _=>JcX) (dL 1 (dL 1 dS))
theorem JiT:Kt Try.prog 86 Jc4:=by
 refine xF mixed [] [] trivial trivial Try.func86 ?_
 rintro _ out H
 have G:=True.intro
 have Y:=xZ y_9 <| xZ y_41 <| xZ JtC <| Try.results86
 simp only[JcX]at H
 refine xS ?_
 refine xr ?_
 replace H:=Option.some.inj H
 refine xr ?_
 subst H
 exact xN
theorem Jjh  (r:(List (List (List UInt8)))) (H:JcX  = some r):PC Jc4 [] ((dL 1 (dL 1 dS)) r):=PF.c (a:=()) H
noncomputable def JaH(x1:Int)(x2:Int):Bool→Option ((Int×Int) ⊕ Int)
 | x3=>if x3=true then inrO (some x2) else some (.inl (x1,IntKind.i64.wrap (x2+1)))
noncomputable def Zr(a0:List UInt8)(r1:(List (List (List UInt8)))):(Int×Int)→Option ((Int×Int) ⊕ Int)
 | (x1,x2)=>if(ltI x2 x1)=true then if(0:Int)≤x2∧x2.toNat<r1.length then if(!eqS a0 [])=true then(ZK (r1.getD x2.toNat default) a0).bind fun r2=>JaH x1 x2 r2 else JaH x1 x2 false else none else inrO (some (-1))
noncomputable def Jce(a0:List UInt8):Option Int :=
 (JcX).bind fun r1=>Ju (Zr a0 r1) ((r1.length:Int),0)
noncomputable def Jdw:PF:=PF.of (E1 dS) (fun a=>Jce a) dI
theorem Jjd:Kt Try.prog 79 Jdw:=by
 refine xF mixed [(86,Jc4),(26,JaC)] [] ⟨⟨JtT,JiT⟩,⟨JiE,JcU⟩,trivial⟩ trivial Try.func79 ?_
 rintro a0 out H
 have G:=True.intro
 have Y:=xZ y_41 <| xZ JtC <| Try.results79
 simp only[Jce]at H
 refine xS ?_
 refine xr ?_
 obtain⟨r1,hr1,H⟩:=Je H
 have F:=xC Y (Jjh  r1 hr1)
 refine xR ?_
 refine KH (Zr a0 r1) (fun s=>[(0,.c (.d (.v (str a0)))),(5,.c (.d (.sl 1 (List.map (dL 1 dS) r1)))),(6,.c (.d (.v (.int .i64 s.1)))),(7,.c (.d (.v (.int .i64 s.2))))]) (fun s=>[]) [] H (xK ⟨[],[]⟩) ?_
 rintro n1 ⟨x1,x2⟩ o1 H hF1
 rw[Zr]at H
 refine xS ?_
 refine xr ?_
 rcases Jc H with⟨hp1,H⟩|⟨hp1,H⟩
 ·obtain⟨F,G,hq1⟩:=xH Y G hp1
  refine xT ?_
  obtain⟨hg1,H⟩:=Jg H
  have F:=xZ Y (Jv (dL 1 dS) r1 x2.toNat default default (by omega))
  refine xR0 ?_
  refine Jn ?_
  refine JB (JaH x1 x2) (fun s=>[(0,.c (.d (.v (str a0)))),(3,.c (.d (.v (.int .i64 x2)))),(5,.c (.d (.sl 1 (List.map (dL 1 dS) r1)))),(6,.c (.d (.v (.int .i64 x1)))),(7,.c (.d (.v (.int .i64 x2)))),(18,.c (.d (.v (.bool s))))]) (fun s=>[]) [] o1 ?_ ?_
  ·rcases Jc H with⟨hp3,H⟩|⟨hp3,H⟩
   ·obtain⟨F,G,hq3⟩:=xH Y G hp3
    obtain⟨r2,hr2,H⟩:=Je H
    have F:=xCf F (Jdn (r1.getD x2.toNat default) a0 r2 hr2)
    refine xR ?_
    exact Jd H (xK ⟨[],[]⟩)
   ·obtain⟨F,G,hq3⟩:=xH Y G hp3
    refine xR ?_
    exact Jd H (xK ⟨[],[]⟩)
  ·rintro x3 H
   rw[JaH]at H
   rcases Jc H with⟨hp2,H⟩|⟨hp2,H⟩
   ·obtain⟨F,G,hq2⟩:=xH Y G hp2
    refine xT ?_
    replace H:=Jq H hF1
    replace H:=Option.some.inj H
    refine xr ?_
    subst H
    exact xN
   ·obtain⟨F,G,hq2⟩:=xH Y G hp2
    refine xE ?_
    refine xr ?_
    exact JJ (J2 H hF1) (xK ⟨[],[]⟩)
 ·obtain⟨F,G,hq1⟩:=xH Y G hp1
  replace H:=Jq H hF1
  refine xE ?_
  replace H:=Option.some.inj H
  refine xr ?_
  subst H
  exact xN
theorem JjI(a0:List UInt8)(r:Int)(H:Jce a0=some r):PC Jdw [dS a0] (dI r):=PF.c (a:=a0) H
noncomputable def Jak(a0:Int):(Int×Int×Int)→Option (Int×Int×Int×Int)
 | (x1,x2,x3)=>some (IntKind.i64.wrap (a0+1),x1,x2,x3)
noncomputable def JL(a0:Int)(a1:List UInt8)(a2:List Token)(a3:Int)(a4:Int)(a5:Int)(a6:Int):Option (Int×Int×Int×Int) :=
 (Jz a0 a2 a3 a4 a5 a6).bind fun r1=>if(!eqS r1 a1)=true then(Vn a0 2 a2 a3 a4 a5 a6).bind fun r2=>Jak a0 (r2.1,r2.2.1,r2.2.2) else Jak a0 (a3,a4,a5)
noncomputable def K9(a0:Int)(a1:List UInt8)(a2:List Token)(a3:Int)(a4:Int)(a5:Int)(a6:Int)(r:(Int×Int×Int×Int)):GI :=
 ⟨[.c (.pt 1 0),.c (.d (.v (.int .i64 a0))),.c (.d (.v (str a1)))],[[.d (.sl 11 (List.map Jb a2)),.d (.v (.int .i64 a3)),.d (.v (.int .i64 a4)),.d (.v (.int .i64 a5)),.d (.v (.int .i64 a6))]],[],.ret (.c (.d (.v (.int .i64 r.1)))) [[.d (.sl 11 (List.map Jb a2)),.d (.v (.int .i64 r.2.1)),.d (.v (.int .i64 r.2.2.1)),.d (.v (.int .i64 r.2.2.2)),.d (.v (.int .i64 a6))]] []⟩
def Vd:GI→Prop:=fun g=>∃ (a0:Int) (a1:List UInt8) (a2:List Token) (a3:Int) (a4:Int) (a5:Int) (a6:Int) (r:(Int×Int×Int×Int)),JL a0 a1 a2 a3 a4 a5 a6=some r∧g=K9 a0 a1 a2 a3 a4 a5 a6 r
theorem KM(a0:Int)(a1:List UInt8)(a2:List Token)(a3:Int)(a4:Int)(a5:Int)(a6:Int)(r:(Int×Int×Int×Int))(H:JL a0 a1 a2 a3 a4 a5 a6=some r):Vd (K9 a0 a1 a2 a3 a4 a5 a6 r):=⟨a0,a1,a2,a3,a4,a5,a6,r,H,rfl⟩
theorem JiX:∀ g,Vd g→Jx Try.prog 36 g:=by
 rintro _ ⟨a0,a1,a2,a3,a4,a5,a6,r,H,rfl⟩
 refine xGn mixed [] [(31,true,J6),(57,true,Vf)] [] trivial ⟨Ks,ZE,trivial⟩ trivial Try.func36 _ ?_
 have G:=True.intro
 have Y:=xZ Try.results36 <| xZ J9.eq_1 <| xZ Jb.eq_1 <| xZ Kf.eq_1 <| xZ J5.eq_1 <| xZ Vb.eq_1 <| K9.eq_1
 dsimp only[K9]
 simp only[JL]at H
 refine xS ?_
 refine xr0 ?_
 refine Jn ?_
 refine JB (Jak a0) (fun s=>[(1,.c (.d (.v (.int .i64 a0))))]) (fun s=>[[.d (.sl 11 (List.map Jb a2)),.d (.v (.int .i64 s.1)),.d (.v (.int .i64 s.2.1)),.d (.v (.int .i64 s.2.2)),.d (.v (.int .i64 a6))]]) [] r ?_ ?_
 ·refine xS ?_
  obtain⟨r1,hr1,H⟩:=Je H
  have F:=Y
  refine xQ ?_
  refine xs 2 ?_
  refine xc ⟨[1],[]⟩ (tabG 0 (JC a0 a2 a3 a4 a5 a6 r1 hr1)) ?_
  refine xs 2 ?_
  refine xl ?_
  refine xS ?_
  rcases Jc H with⟨hp1,H⟩|⟨hp1,H⟩
  ·obtain⟨F,G,hq1⟩:=xH Y G hp1
   refine xT ?_
   obtain⟨r2,hr2,H⟩:=Je H
   have F:=Y
   refine xQ ?_
   refine xs 2 ?_
   refine xc ⟨[1],[]⟩ (tabG 1 (Zw a0 2 a2 a3 a4 a5 a6 r2 hr2)) ?_
   refine xl ?_
   refine xS ?_
   exact Jd H (xK ⟨[1],[]⟩)
  ·obtain⟨F,G,hq1⟩:=xH Y G hp1
   refine xE ?_
   exact Jd H (xK ⟨[1],[]⟩)
 ·rintro ⟨x1,x2,x3⟩ H
  rw[Jak]at H
  refine xS ?_
  replace H:=Option.some.inj H
  refine xr ?_
  subst H
  refine xrD [] ?_
  exact xO ⟨[1],[]⟩
theorem V0:Jf Try.prog 36∧(∀ g,Vd g→Jx Try.prog 36 g)∧(true=true→∀ g,Vd g→∃ val bs ts,g.out=.ret val bs ts) :=
 ⟨Jt5,JiX,fun _=>by rintro _ ⟨_,_,_,_,_,_,_,_,_,rfl⟩; exact⟨_,_,_,rfl⟩⟩
noncomputable def Vc(a0:EB)(a1:Int)(a2:Int)(a3:List Token)(a4:Int)(a5:Int)(a6:Int)(a7:Int)(r:(Int×Int×(List Node)×Int×Int×Int×Int×Int)):GI :=
 ⟨[.c (.pt 1 0),.c (.fm (EM Try.prog 52 (cvK a0))),.c (.d (.v (.int .i64 a1))),.c (.d (.v (.int .i64 a2)))],[[.d (.sl 11 (List.map Jb a3)),.d (.v (.int .i64 a4)),.d (.v (.int .i64 a5)),.d (.v (.int .i64 a6)),.d (.v (.int .i64 a7))]],[],.ret (.tu [(true,[.d (.v (.int .i64 r.1)),.d (.v (.int .i64 r.2.1)),.sl 3 (List.map Jp r.2.2.1) 2]),(false,[.d (.v (.int .i64 r.2.2.2.1))])]) [[.d (.sl 11 (List.map Jb a3)),.d (.v (.int .i64 r.2.2.2.2.1)),.d (.v (.int .i64 r.2.2.2.2.2.1)),.d (.v (.int .i64 r.2.2.2.2.2.2.1)),.d (.v (.int .i64 r.2.2.2.2.2.2.2))]] [26]⟩
def Vj(q:EB→Int→Int→(List Token)→Int→Int→Int→Int→Option (Int×Int×(List Node)×Int×Int×Int×Int×Int)):GI→Prop:=fun g=>∃ (a0:EB) (a1:Int) (a2:Int) (a3:List Token) (a4:Int) (a5:Int) (a6:Int) (a7:Int) (r:(Int×Int×(List Node)×Int×Int×Int×Int×Int)),q a0 a1 a2 a3 a4 a5 a6 a7=some r∧g=Vc a0 a1 a2 a3 a4 a5 a6 a7 r
theorem Jab(q:EB→Int→Int→(List Token)→Int→Int→Int→Int→Option (Int×Int×(List Node)×Int×Int×Int×Int×Int))(a0:EB)(a1:Int)(a2:Int)(a3:List Token)(a4:Int)(a5:Int)(a6:Int)(a7:Int)(r:(Int×Int×(List Node)×Int×Int×Int×Int×Int))(H:q a0 a1 a2 a3 a4 a5 a6 a7=some r):Vj q (Vc a0 a1 a2 a3 a4 a5 a6 a7 r):=⟨a0,a1,a2,a3,a4,a5,a6,a7,r,H,rfl⟩
noncomputable def X8(a0:EB)(a1:Int)(a2:List Token)(a3:Int)(a4:Int)(a5:Int)(a6:Int)(r:(Int×Int×(List Node)×Int×Int×Int×Int×Int)):GI :=
 ⟨[.c (.pt 1 0),.c (.fm (EM Try.prog 52 (cvK a0))),.c (.d (.v (.int .i64 a1)))],[[.d (.sl 11 (List.map Jb a2)),.d (.v (.int .i64 a3)),.d (.v (.int .i64 a4)),.d (.v (.int .i64 a5)),.d (.v (.int .i64 a6))]],[],.ret (.tu [(true,[.d (.v (.int .i64 r.1)),.d (.v (.int .i64 r.2.1)),.sl 3 (List.map Jp r.2.2.1) 2]),(false,[.d (.v (.int .i64 r.2.2.2.1))])]) [[.d (.sl 11 (List.map Jb a2)),.d (.v (.int .i64 r.2.2.2.2.1)),.d (.v (.int .i64 r.2.2.2.2.2.1)),.d (.v (.int .i64 r.2.2.2.2.2.2.1)),.d (.v (.int .i64 r.2.2.2.2.2.2.2))]] [26]⟩
def Vv(q:EB→Int→(List Token)→Int→Int→Int→Int→Option (Int×Int×(List Node)×Int×Int×Int×Int×Int)):GI→Prop:=fun g=>∃ (a0:EB) (a1:Int) (a2:List Token) (a3:Int) (a4:Int) (a5:Int) (a6:Int) (r:(Int×Int×(List Node)×Int×Int×Int×Int×Int)),q a0 a1 a2 a3 a4 a5 a6=some r∧g=X8 a0 a1 a2 a3 a4 a5 a6 r
theorem JeR(q:EB→Int→(List Token)→Int→Int→Int→Int→Option (Int×Int×(List Node)×Int×Int×Int×Int×Int))(a0:EB)(a1:Int)(a2:List Token)(a3:Int)(a4:Int)(a5:Int)(a6:Int)(r:(Int×Int×(List Node)×Int×Int×Int×Int×Int))(H:q a0 a1 a2 a3 a4 a5 a6=some r):Vv q (X8 a0 a1 a2 a3 a4 a5 a6 r):=⟨a0,a1,a2,a3,a4,a5,a6,r,H,rfl⟩
noncomputable def JaP(a0:EB)(a1:Int)(a2:List Token)(a3:Int)(a4:Int)(a5:Int)(a6:Int)(r:(Int×Int×(List Node)×Int×Int×Int×Int×Int)):GI :=
 ⟨[.c (.pt 1 0),.c (.fm (EM Try.prog 52 (cvK a0))),.c (.d (.v (.int .i64 a1)))],[[.d (.sl 11 (List.map Jb a2)),.d (.v (.int .i64 a3)),.d (.v (.int .i64 a4)),.d (.v (.int .i64 a5)),.d (.v (.int .i64 a6))]],[],.ret (.tu [(true,[.d (.v (.int .i64 r.1)),.d (.v (.int .i64 r.2.1)),.sl 3 (List.map Jp r.2.2.1) 2]),(false,[.d (.v (.int .i64 r.2.2.2.1))])]) [[.d (.sl 11 (List.map Jb a2)),.d (.v (.int .i64 r.2.2.2.2.1)),.d (.v (.int .i64 r.2.2.2.2.2.1)),.d (.v (.int .i64 r.2.2.2.2.2.2.1)),.d (.v (.int .i64 r.2.2.2.2.2.2.2))]] [26]⟩
def Xf(q:EB→Int→(List Token)→Int→Int→Int→Int→Option (Int×Int×(List Node)×Int×Int×Int×Int×Int)):GI→Prop:=fun g=>∃ (a0:EB) (a1:Int) (a2:List Token) (a3:Int) (a4:Int) (a5:Int) (a6:Int) (r:(Int×Int×(List Node)×Int×Int×Int×Int×Int)),q a0 a1 a2 a3 a4 a5 a6=some r∧g=JaP a0 a1 a2 a3 a4 a5 a6 r
theorem JiY(q:EB→Int→(List Token)→Int→Int→Int→Int→Option (Int×Int×(List Node)×Int×Int×Int×Int×Int))(a0:EB)(a1:Int)(a2:List Token)(a3:Int)(a4:Int)(a5:Int)(a6:Int)(r:(Int×Int×(List Node)×Int×Int×Int×Int×Int))(H:q a0 a1 a2 a3 a4 a5 a6=some r):Xf q (JaP a0 a1 a2 a3 a4 a5 a6 r):=⟨a0,a1,a2,a3,a4,a5,a6,r,H,rfl⟩
noncomputable def Jaa:(Int×Int×Int×Int×Int×Int×Int×(List Node))→Option (Int×Int×(List Node)×Int×Int×Int×Int×Int)
 | (x1,x2,x3,x4,x5,x6,x7,x8)=>some (x6,x7,x8,x1,x2,x3,x4,IntKind.i64.wrap (x5-1))
noncomputable def X9(q1:EB→Int→Int→(List Token)→Int→Int→Int→Int→Option (Int×Int×(List Node)×Int×Int×Int×Int×Int))(a0:EB)(a3:List Token)(x9:Int)(x10:Int)(x11:Int)(x12:Int)(x13:Int)(x14:Int)(x15:Int)(x16:List Node):Int→Option ((Int×Int×Int×Int×Int×Int×Int×(List Node)) ⊕ (Int×Int×(List Node)×Int×Int×Int×Int×Int))
 | x17=>(q1 a0 (IntKind.i64.wrap (x9+1)) x17 a3 x10 x11 x12 x13).bind fun r6=>some (.inl (r6.2.2.2.1,r6.2.2.2.2.1,r6.2.2.2.2.2.1,r6.2.2.2.2.2.2.1,r6.2.2.2.2.2.2.2,13,x9,[(⟨x14,x15,x16⟩:Node),(⟨r6.1,r6.2.1,r6.2.2.1⟩:Node)]))
noncomputable def Jbv(q1:EB→Int→Int→(List Token)→Int→Int→Int→Int→Option (Int×Int×(List Node)×Int×Int×Int×Int×Int))(a0:EB)(a2:Int)(a3:List Token):(Int×Int×Int×Int×Int×Int×Int×(List Node))→Option ((Int×Int×Int×Int×Int×Int×Int×(List Node)) ⊕ (Int×Int×(List Node)×Int×Int×Int×Int×Int))
 | (x9,x10,x11,x12,x13,x14,x15,x16)=>(JO a3 x10 x11 x12 x13).bind fun r3=>if r3=true then(Jz x9 a3 x10 x11 x12 x13).bind fun r4=>(Jce r4).bind fun r5=>if(ltI r5 a2)=true then inrO (Jaa (x9,x10,x11,x12,x13,x14,x15,x16)) else if(eqI r5 1)=true then X9 q1 a0 a3 x9 x10 x11 x12 x13 x14 x15 x16 1 else X9 q1 a0 a3 x9 x10 x11 x12 x13 x14 x15 x16 (IntKind.i64.wrap (r5+1)) else inrO (Jaa (x9,x10,x11,x12,x13,x14,x15,x16))
noncomputable def Xy(q1:EB→Int→Int→(List Token)→Int→Int→Int→Int→Option (Int×Int×(List Node)×Int×Int×Int×Int×Int))(q2:EB→Int→(List Token)→Int→Int→Int→Int→Option (Int×Int×(List Node)×Int×Int×Int×Int×Int))(q3:EB→Int→(List Token)→Int→Int→Int→Int→Option (Int×Int×(List Node)×Int×Int×Int×Int×Int))(a0:EB)(a1:Int)(a2:Int)(a3:List Token)(a4:Int)(a5:Int)(a6:Int)(a7:Int):Option (Int×Int×(List Node)×Int×Int×Int×Int×Int) :=
 (KJ a1 a3 a4 a5 a6 a7).bind fun r1=>if(!r1.1)=true then some (0,0,([]:List Node),a1,r1.2.1,r1.2.2.1,r1.2.2.2.1,r1.2.2.2.2) else(q2 a0 a1 a3 r1.2.1 r1.2.2.1 r1.2.2.2.1 r1.2.2.2.2).bind fun r2=>Ju (Jbv q1 a0 a2 a3) (r2.2.2.2.1,r2.2.2.2.2.1,r2.2.2.2.2.2.1,r2.2.2.2.2.2.2.1,r2.2.2.2.2.2.2.2,r2.1,r2.2.1,r2.2.2.1)
theorem JhS(q1:EB→Int→Int→(List Token)→Int→Int→Int→Int→Option (Int×Int×(List Node)×Int×Int×Int×Int×Int))(q2:EB→Int→(List Token)→Int→Int→Int→Int→Option (Int×Int×(List Node)×Int×Int×Int×Int×Int))(q3:EB→Int→(List Token)→Int→Int→Int→Int→Option (Int×Int×(List Node)×Int×Int×Int×Int×Int))(kq1:Kok Try.prog 59 true (Vj q1))(kq2:Kok Try.prog 78 true (Vv q2))(kq3:Kok Try.prog 85 true (Xf q3)):∀ g,Vj (Xy q1 q2 q3) g→Jx Try.prog 59 g:=by
 rintro _ ⟨a0,a1,a2,a3,a4,a5,a6,a7,r,H,rfl⟩
 refine xGn mixed [(79,Jdw)] [(61,true,VN),(78,true,(Vv q2)),(16,true,KA),(31,true,J6),(59,true,(Vj q1))] [] ⟨⟨Jux,Jjd⟩,trivial⟩ ⟨Jbx,kq2,KE,Ks,kq1,trivial⟩ trivial Try.func59 _ ?_
 have G:=True.intro
 have Y:=xZ y_3 <| xZ y_24 <| xZ y_26 <| xZ y_50 <| xZ Try.results59 <| xZ J9.eq_1 <| xZ Jb.eq_1 <| xZ Vl <| xZ Kf.eq_1 <| xZ VI.eq_1 <| xZ X8.eq_1 <| xZ KC.eq_1 <| xZ J5.eq_1 <| xZ Vc.eq_1 <| Vc.eq_1
 dsimp only[Vc]
 simp only[Xy]at H
 refine xS ?_
 refine xr ?_
 obtain⟨r1,hr1,H⟩:=Je H
 have F:=Y
 refine xQ ?_
 refine xs 2 ?_
 refine xc ⟨[1],[]⟩ (tabG 0 (JbC a1 a3 a4 a5 a6 a7 r1 hr1)) ?_
 refine xs 1 ?_
 refine xl ?_
 refine xS ?_
 rcases Jc H with⟨hp1,H⟩|⟨hp1,H⟩
 ·obtain⟨F,G,hq1⟩:=xH Y G hp1
  refine xT ?_
  replace H:=Option.some.inj H
  refine xr ?_
  subst H
  refine xrD [] ?_
  exact xO ⟨[1],[0]⟩
 ·obtain⟨F,G,hq1⟩:=xH Y G hp1
  refine xE ?_
  obtain⟨r2,hr2,H⟩:=Je H
  have F:=Y
  refine xQ ?_
  refine xs 3 ?_
  refine xc ⟨[1],[]⟩ (tabG 1 (JeR q2 a0 a1 a3 r1.2.1 r1.2.2.1 r1.2.2.2.1 r1.2.2.2.2 r2 hr2)) ?_
  refine xs 6 ?_
  refine xl ?_
  refine  ?_
  refine Jn ?_
  refine JB Jaa (fun s=>[(0,.c (.pt 1 0)),(2,.c (.d (.v (.int .i64 s.1)))),(8,.c (.pt 2 0)),(10,.c (.pt 3 0))]) (fun s=>[[.d (.sl 11 (List.map Jb a3)),.d (.v (.int .i64 s.2.1)),.d (.v (.int .i64 s.2.2.1)),.d (.v (.int .i64 s.2.2.2.1)),.d (.v (.int .i64 s.2.2.2.2.1))],[.d (.v (.int .i64 0)),.d (.v (.int .i64 0)),.sl 3 [] 0],[.d (.v (.int .i64 s.2.2.2.2.2.1)),.d (.v (.int .i64 s.2.2.2.2.2.2.1)),.sl 3 (List.map Jp s.2.2.2.2.2.2.2) 4]]) [26] r ?_ ?_
  ·refine xS ?_
   refine KH (Jbv q1 a0 a2 a3) (fun s=>[(0,.c (.pt 1 0)),(1,.c (.fm (EM Try.prog 52 (cvK a0)))),(2,.c (.d (.v (.int .i64 s.1)))),(3,.c (.d (.v (.int .i64 a2)))),(8,.c (.pt 2 0)),(10,.c (.pt 3 0))]) (fun s=>[[.d (.sl 11 (List.map Jb a3)),.d (.v (.int .i64 s.2.1)),.d (.v (.int .i64 s.2.2.1)),.d (.v (.int .i64 s.2.2.2.1)),.d (.v (.int .i64 s.2.2.2.2.1))],[.d (.v (.int .i64 0)),.d (.v (.int .i64 0)),.sl 3 [] 0],[.d (.v (.int .i64 s.2.2.2.2.2.1)),.d (.v (.int .i64 s.2.2.2.2.2.2.1)),.sl 3 (List.map Jp s.2.2.2.2.2.2.2) 4]]) [26] H (xK ⟨[1,2,6],[5]⟩) ?_
   rintro n1 ⟨x9,x10,x11,x12,x13,x14,x15,x16⟩ o1 H hF1
   rw[Jbv]at H
   refine xS ?_
   obtain⟨r3,hr3,H⟩:=Je H
   have F:=Y
   refine xQ ?_
   refine xs 1 ?_
   refine xc ⟨[1],[]⟩ (tabG 2 (JE a3 x10 x11 x12 x13 r3 hr3)) ?_
   refine xl ?_
   refine xS ?_
   rcases Jc H with⟨hp2,H⟩|⟨hp2,H⟩
   ·obtain⟨F,G,hq2⟩:=xH Y G hp2
    refine xT ?_
    obtain⟨r4,hr4,H⟩:=Je H
    have F:=Y
    obtain⟨r5,hr5,H⟩:=Je H
    have F:=xCf F (JjI r4 r5 hr5)
    refine xQ ?_
    refine xs 2 ?_
    refine xc ⟨[1],[]⟩ (tabG 3 (JC x9 a3 x10 x11 x12 x13 r4 hr4)) ?_
    refine xs 2 ?_
    refine xl ?_
    refine xS ?_
    refine xr ?_
    rcases Jc H with⟨hp3,H⟩|⟨hp3,H⟩
    ·obtain⟨F,G,hq3⟩:=xH Y G hp3
     replace H:=Jq H hF1
     refine xT ?_
     exact Jd H (xK ⟨[1,2,3],[4]⟩)
    ·obtain⟨F,G,hq3⟩:=xH Y G hp3
     refine xE ?_
     refine xr0 ?_
     refine Jn ?_
     refine JB (X9 q1 a0 a3 x9 x10 x11 x12 x13 x14 x15 x16) (fun s=>[(0,.c (.pt 1 0)),(1,.c (.fm (EM Try.prog 52 (cvK a0)))),(2,.c (.d (.v (.int .i64 x9)))),(3,.c (.d (.v (.int .i64 a2)))),(8,.c (.pt 2 0)),(10,.c (.pt 3 0)),(12,.c (.d (.v (.int .i64 s))))]) (fun s=>[[.d (.sl 11 (List.map Jb a3)),.d (.v (.int .i64 x10)),.d (.v (.int .i64 x11)),.d (.v (.int .i64 x12)),.d (.v (.int .i64 x13))],[.d (.v (.int .i64 0)),.d (.v (.int .i64 0)),.sl 3 [] 0],[.d (.v (.int .i64 x14)),.d (.v (.int .i64 x15)),.sl 3 (List.map Jp x16) 4]]) [26] o1 ?_ ?_
     ·refine xS ?_
      refine xr ?_
      rcases Jc H with⟨hp4,H⟩|⟨hp4,H⟩
      ·obtain⟨F,G,hq4⟩:=xH Y G hp4
       refine xT ?_
       refine xr ?_
       exact Jd H (xK ⟨[1,2,3],[4]⟩)
      ·obtain⟨F,G,hq4⟩:=xH Y G hp4
       refine xE ?_
       exact Jd H (xK ⟨[1,2,3],[4]⟩)
     ·rintro x17 H
      rw[X9]at H
      refine xS ?_
      obtain⟨r6,hr6,H⟩:=Je H
      have F:=Y
      refine xQ ?_
      refine xs 5 ?_
      refine xc ⟨[1],[]⟩ (tabG 4 (Jab q1 a0 (IntKind.i64.wrap (x9+1)) x17 a3 x10 x11 x12 x13 r6 hr6)) ?_
      refine xs 6 ?_
      refine xl ?_
      refine xS ?_
      refine xr ?_
      refine xr ?_
      exact JJ (J2 H hF1) (xK ⟨[1,2,3],[0]⟩)
   ·obtain⟨F,G,hq2⟩:=xH Y G hp2
    replace H:=Jq H hF1
    refine xE ?_
    exact Jd H (xK ⟨[1,2,3],[4]⟩)
  ·rintro ⟨x1,x2,x3,x4,x5,x6,x7,x8⟩ H
   rw[Jaa]at H
   refine xS ?_
   refine xr ?_
   replace H:=Option.some.inj H
   refine xr ?_
   subst H
   refine xrD [] ?_
   exact xO ⟨[1],[4]⟩
noncomputable def ZL:(Int×Int×Int×Int×Int×Int×Int×(List Node))→Option (Int×Int×(List Node)×Int×Int×Int×Int×Int)
 | (x1,x2,x3,x4,x5,x6,x7,x8)=>some (x6,x7,x8,x1,x2,x3,x4,IntKind.i64.wrap (x5-1))
noncomputable def Jad(q1:EB→Int→Int→(List Token)→Int→Int→Int→Int→Option (Int×Int×(List Node)×Int×Int×Int×Int×Int))(q2:EB→Int→(List Token)→Int→Int→Int→Int→Option (Int×Int×(List Node)×Int×Int×Int×Int×Int))(q3:EB→Int→(List Token)→Int→Int→Int→Int→Option (Int×Int×(List Node)×Int×Int×Int×Int×Int))(a0:EB)(a1:Int)(a2:List Token)(a3:Int)(a4:Int)(a5:Int)(a6:Int):Option (Int×Int×(List Node)×Int×Int×Int×Int×Int) :=
 (KJ a1 a2 a3 a4 a5 a6).bind fun r1=>if(!r1.1)=true then some (0,0,([]:List Node),a1,r1.2.1,r1.2.2.1,r1.2.2.2.1,r1.2.2.2.2) else(Jz a1 a2 r1.2.1 r1.2.2.1 r1.2.2.2.1 r1.2.2.2.2).bind fun r2=>(ZK [[45],[43],[33],[126],[42],[38],[43,43],[45,45]] r2).bind fun r3=>if r3=true then(q2 a0 (IntKind.i64.wrap (a1+1)) a2 r1.2.1 r1.2.2.1 r1.2.2.2.1 r1.2.2.2.2).bind fun r4=>ZL (r4.2.2.2.1,r4.2.2.2.2.1,r4.2.2.2.2.2.1,r4.2.2.2.2.2.2.1,r4.2.2.2.2.2.2.2,12,a1,[(⟨r4.1,r4.2.1,r4.2.2.1⟩:Node)]) else(q3 a0 a1 a2 r1.2.1 r1.2.2.1 r1.2.2.2.1 r1.2.2.2.2).bind fun r5=>ZL (r5.2.2.2.1,r5.2.2.2.2.1,r5.2.2.2.2.2.1,r5.2.2.2.2.2.2.1,r5.2.2.2.2.2.2.2,r5.1,r5.2.1,r5.2.2.1)
theorem Jho(q1:EB→Int→Int→(List Token)→Int→Int→Int→Int→Option (Int×Int×(List Node)×Int×Int×Int×Int×Int))(q2:EB→Int→(List Token)→Int→Int→Int→Int→Option (Int×Int×(List Node)×Int×Int×Int×Int×Int))(q3:EB→Int→(List Token)→Int→Int→Int→Int→Option (Int×Int×(List Node)×Int×Int×Int×Int×Int))(kq1:Kok Try.prog 59 true (Vj q1))(kq2:Kok Try.prog 78 true (Vv q2))(kq3:Kok Try.prog 85 true (Xf q3)):∀ g,Vv (Jad q1 q2 q3) g→Jx Try.prog 78 g:=by
 rintro _ ⟨a0,a1,a2,a3,a4,a5,a6,r,H,rfl⟩
 refine xGn mixed [(26,JaC)] [(61,true,VN),(31,true,J6),(78,true,(Vv q2)),(85,true,(Xf q3))] [] ⟨⟨JiE,JcU⟩,trivial⟩ ⟨Jbx,Ks,kq2,kq3,trivial⟩ trivial Try.func78 _ ?_
 have G:=True.intro
 have Y:=xZ y_3 <| xZ y_9 <| xZ y_24 <| xZ y_26 <| xZ y_41 <| xZ y_50 <| xZ Try.results78 <| xZ J9.eq_1 <| xZ Jb.eq_1 <| xZ Vl <| xZ Kf.eq_1 <| xZ VI.eq_1 <| xZ J5.eq_1 <| xZ X8.eq_1 <| xZ JaP.eq_1 <| X8.eq_1
 dsimp only[X8]
 simp only[Jad]at H
 refine xS ?_
 refine xr ?_
 obtain⟨r1,hr1,H⟩:=Je H
 have F:=Y
 refine xQ ?_
 refine xs 2 ?_
 refine xc ⟨[1],[]⟩ (tabG 0 (JbC a1 a2 a3 a4 a5 a6 r1 hr1)) ?_
 refine xs 1 ?_
 refine xl ?_
 refine xS ?_
 rcases Jc H with⟨hp1,H⟩|⟨hp1,H⟩
 ·obtain⟨F,G,hq1⟩:=xH Y G hp1
  refine xT ?_
  replace H:=Option.some.inj H
  refine xr ?_
  subst H
  refine xrD [] ?_
  exact xO ⟨[1],[0]⟩
 ·obtain⟨F,G,hq1⟩:=xH Y G hp1
  refine xE ?_
  refine xr0 ?_
  refine Jn ?_
  refine JB ZL (fun s=>[(0,.c (.pt 1 0)),(2,.c (.d (.v (.int .i64 s.1)))),(6,.c (.pt 2 0)),(8,.c (.pt 3 0))]) (fun s=>[[.d (.sl 11 (List.map Jb a2)),.d (.v (.int .i64 s.2.1)),.d (.v (.int .i64 s.2.2.1)),.d (.v (.int .i64 s.2.2.2.1)),.d (.v (.int .i64 s.2.2.2.2.1))],[.d (.v (.int .i64 0)),.d (.v (.int .i64 0)),.sl 3 [] 0],[.d (.v (.int .i64 s.2.2.2.2.2.1)),.d (.v (.int .i64 s.2.2.2.2.2.2.1)),.sl 3 (List.map Jp s.2.2.2.2.2.2.2) 4]]) [26] r ?_ ?_
  ·refine xS ?_
   obtain⟨r2,hr2,H⟩:=Je H
   have F:=Y
   obtain⟨r3,hr3,H⟩:=Je H
   have F:=xCf F (Jdn [[45],[43],[33],[126],[42],[38],[43,43],[45,45]] r2 r3 hr3)
   refine xQ ?_
   refine xs 3 ?_
   refine xc ⟨[1],[]⟩ (tabG 1 (JC a1 a2 r1.2.1 r1.2.2.1 r1.2.2.2.1 r1.2.2.2.2 r2 hr2)) ?_
   refine xs 1 ?_
   refine xl ?_
   refine xS ?_
   rcases Jc H with⟨hp2,H⟩|⟨hp2,H⟩
   ·obtain⟨F,G,hq2⟩:=xH Y G hp2
    refine xT ?_
    obtain⟨r4,hr4,H⟩:=Je H
    have F:=Y
    refine xQ ?_
    refine xs 4 ?_
    refine xc ⟨[1],[]⟩ (tabG 2 (JeR q2 a0 (IntKind.i64.wrap (a1+1)) a2 r1.2.1 r1.2.2.1 r1.2.2.2.1 r1.2.2.2.2 r4 hr4)) ?_
    refine xs 6 ?_
    refine xl ?_
    refine xS ?_
    refine xr ?_
    exact Jd H (xK ⟨[1,2,4],[0]⟩)
   ·obtain⟨F,G,hq2⟩:=xH Y G hp2
    refine xE ?_
    obtain⟨r5,hr5,H⟩:=Je H
    have F:=Y
    refine xQ ?_
    refine xs 3 ?_
    refine xc ⟨[1],[]⟩ (tabG 3 (JiY q3 a0 a1 a2 r1.2.1 r1.2.2.1 r1.2.2.2.1 r1.2.2.2.2 r5 hr5)) ?_
    refine xs 5 ?_
    refine xl ?_
    refine xS ?_
    exact Jd H (xK ⟨[1,2,4],[7]⟩)
  ·rintro ⟨x1,x2,x3,x4,x5,x6,x7,x8⟩ H
   rw[ZL]at H
   refine xS ?_
   refine xr ?_
   replace H:=Option.some.inj H
   refine xr ?_
   subst H
   refine xrD [] ?_
   exact xO ⟨[1],[4]⟩
noncomputable def Xg(q1:EB→Int→Int→(List Token)→Int→Int→Int→Int→Option (Int×Int×(List Node)×Int×Int×Int×Int×Int))(a0:EB)(a2:List Token)(x21:Int)(x22:List Node):(Int×Int×Int×Int)→Option ((Int×Int×Int×Int×Int×(List Node)) ⊕ ((Int×Int×Int×Int×Int×Int×Int×(List Node)) ⊕ (Int×Int×(List Node)×Int×Int×Int×Int×Int)))
 | (x24,x25,x26,x27)=>(JO a2 x25 x26 x27 x21).bind fun r3=>if r3=true then(q1 a0 x24 1 a2 x25 x26 x27 x21).bind fun r4=>if(x22.length + [(⟨r4.1,r4.2.1,r4.2.2.1⟩:Node)].length) * 40≤140737488355328 then some (.inl (r4.2.2.2.1,r4.2.2.2.2.1,r4.2.2.2.2.2.1,r4.2.2.2.2.2.2.1,r4.2.2.2.2.2.2.2,x22++[(⟨r4.1,r4.2.1,r4.2.2.1⟩:Node)])) else none else some (.inl (x24,x25,x26,x27,x21,x22))
noncomputable def X5(q1:EB→Int→Int→(List Token)→Int→Int→Int→Int→Option (Int×Int×(List Node)×Int×Int×Int×Int×Int))(a0:EB)(a2:List Token)(x17:Int)(x18:Int)(x19:Int)(x20:Int)(x21:Int)(x22:List Node):Bool→Option ((Int×Int×Int×Int×Int×(List Node)) ⊕ ((Int×Int×Int×Int×Int×Int×Int×(List Node)) ⊕ (Int×Int×(List Node)×Int×Int×Int×Int×Int)))
 | x23=>if x23=true then if(ltI 1 (x22.length:Int))=true then(JL x17 [44] a2 x18 x19 x20 x21).bind fun r5=>Xg q1 a0 a2 x21 x22 (r5.1,r5.2.1,r5.2.2.1,r5.2.2.2) else Xg q1 a0 a2 x21 x22 (x17,x18,x19,x20) else inrO (some (.inl (IntKind.i64.wrap (x17+1),x18,x19,x20,x21,14,(-1),x22)))
noncomputable def Jbu(q1:EB→Int→Int→(List Token)→Int→Int→Int→Int→Option (Int×Int×(List Node)×Int×Int×Int×Int×Int))(a0:EB)(a2:List Token):(Int×Int×Int×Int×Int×(List Node))→Option ((Int×Int×Int×Int×Int×(List Node)) ⊕ ((Int×Int×Int×Int×Int×Int×Int×(List Node)) ⊕ (Int×Int×(List Node)×Int×Int×Int×Int×Int)))
 | (x17,x18,x19,x20,x21,x22)=>(JO a2 x18 x19 x20 x21).bind fun r6=>if r6=true then(Jz x17 a2 x18 x19 x20 x21).bind fun r7=>X5 q1 a0 a2 x17 x18 x19 x20 x21 x22 (!eqS r7 [41]) else X5 q1 a0 a2 x17 x18 x19 x20 x21 x22 false
noncomputable def Jaf(q1:EB→Int→Int→(List Token)→Int→Int→Int→Int→Option (Int×Int×(List Node)×Int×Int×Int×Int×Int))(a0:EB)(a2:List Token):(Int×Int×Int×Int×Int×Int×Int×(List Node))→Option ((Int×Int×Int×Int×Int×Int×Int×(List Node)) ⊕ (Int×Int×(List Node)×Int×Int×Int×Int×Int))
 | (x9,x10,x11,x12,x13,x14,x15,x16)=>(JO a2 x10 x11 x12 x13).bind fun r1=>if r1=true then(Jz x9 a2 x10 x11 x12 x13).bind fun r2=>if(eqS r2 [40])=true then Ju (Jbu q1 a0 a2) (IntKind.i64.wrap (x9+1),x10,x11,x12,x13,[(⟨x14,x15,x16⟩:Node)]) else if(eqS r2 [91])=true then(q1 a0 (IntKind.i64.wrap (x9+1)) 0 a2 x10 x11 x12 x13).bind fun r8=>(JL r8.2.2.2.1 [93] a2 r8.2.2.2.2.1 r8.2.2.2.2.2.1 r8.2.2.2.2.2.2.1 r8.2.2.2.2.2.2.2).bind fun r9=>some (.inl (r9.1,r9.2.1,r9.2.2.1,r9.2.2.2,r8.2.2.2.2.2.2.2,15,(-1),[(⟨x14,x15,x16⟩:Node),(⟨r8.1,r8.2.1,r8.2.2.1⟩:Node)])) else inrO (some (x14,x15,x16,x9,x10,x11,x12,x13)) else inrO (some (x14,x15,x16,x9,x10,x11,x12,x13))
noncomputable def X1(q1:EB→Int→Int→(List Token)→Int→Int→Int→Int→Option (Int×Int×(List Node)×Int×Int×Int×Int×Int))(a0:EB)(a2:List Token):(Int×Int×Int×Int×Int×Int×Int×(List Node))→Option (Int×Int×(List Node)×Int×Int×Int×Int×Int)
 | (x1,x2,x3,x4,x5,x6,x7,x8)=>Ju (Jaf q1 a0 a2) (x1,x2,x3,x4,x5,x6,x7,x8)
noncomputable def VM(q1:EB→Int→Int→(List Token)→Int→Int→Int→Int→Option (Int×Int×(List Node)×Int×Int×Int×Int×Int))(a0:EB)(a1:Int)(a2:List Token)(a3:Int)(a4:Int)(a5:Int)(a6:Int):Bool→Option (Int×Int×(List Node)×Int×Int×Int×Int×Int)
 | x28=>if x28=true then X1 q1 a0 a2 (IntKind.i64.wrap (a1+1),a3,a4,a5,a6,11,a1,([]:List Node)) else(Vp a1 a2 a3 a4 a5 a6).bind fun r14=>X1 q1 a0 a2 (IntKind.i64.wrap (a1+1),r14.1,r14.2.1,r14.2.2,a6,10,a1,([]:List Node))
noncomputable def JaK(q1:EB→Int→Int→(List Token)→Int→Int→Int→Int→Option (Int×Int×(List Node)×Int×Int×Int×Int×Int))(q2:EB→Int→(List Token)→Int→Int→Int→Int→Option (Int×Int×(List Node)×Int×Int×Int×Int×Int))(q3:EB→Int→(List Token)→Int→Int→Int→Int→Option (Int×Int×(List Node)×Int×Int×Int×Int×Int))(a0:EB)(a1:Int)(a2:List Token)(a3:Int)(a4:Int)(a5:Int)(a6:Int):Option (Int×Int×(List Node)×Int×Int×Int×Int×Int) :=
 if(leI (a2.length:Int) a1)=true then(Vn a1 9 a2 a3 a4 a5 a6).bind fun r10=>some (0,0,([]:List Node),a1,r10.1,r10.2.1,r10.2.2,a6) else(Jz a1 a2 a3 a4 a5 a6).bind fun r11=>if(eqS r11 [40])=true then(q1 a0 (IntKind.i64.wrap (a1+1)) 0 a2 a3 a4 a5 a6).bind fun r12=>(JL r12.2.2.2.1 [41] a2 r12.2.2.2.2.1 r12.2.2.2.2.2.1 r12.2.2.2.2.2.2.1 r12.2.2.2.2.2.2.2).bind fun r13=>X1 q1 a0 a2 (r13.1,r13.2.1,r13.2.2.1,r13.2.2.2,r12.2.2.2.2.2.2.2,r12.1,r12.2.1,r12.2.2.1) else if(0:Int)≤a1∧a1.toNat<a2.length then if(eqI ((a2.getD a1.toNat default).Kind) 2)=true then VM q1 a0 a1 a2 a3 a4 a5 a6 true else if(0:Int)≤a1∧a1.toNat<a2.length then if(eqI ((a2.getD a1.toNat default).Kind) 3)=true then VM q1 a0 a1 a2 a3 a4 a5 a6 true else if(0:Int)≤a1∧a1.toNat<a2.length then VM q1 a0 a1 a2 a3 a4 a5 a6 (eqI ((a2.getD a1.toNat default).Kind) 4) else none else none else none
theorem JhK(q1:EB→Int→Int→(List Token)→Int→Int→Int→Int→Option (Int×Int×(List Node)×Int×Int×Int×Int×Int))(q2:EB→Int→(List Token)→Int→Int→Int→Int→Option (Int×Int×(List Node)×Int×Int×Int×Int×Int))(q3:EB→Int→(List Token)→Int→Int→Int→Int→Option (Int×Int×(List Node)×Int×Int×Int×Int×Int))(kq1:Kok Try.prog 59 true (Vj q1))(kq2:Kok Try.prog 78 true (Vv q2))(kq3:Kok Try.prog 85 true (Xf q3)):∀ g,Xf (JaK q1 q2 q3) g→Jx Try.prog 85 g:=by
 rintro _ ⟨a0,a1,a2,a3,a4,a5,a6,r,H,rfl⟩
 refine xGn mixed [] [(16,true,KA),(31,true,J6),(59,true,(Vj q1)),(36,true,Vd),(57,true,Vf),(58,true,X6)] [] trivial ⟨KE,Ks,kq1,V0,ZE,Jc2,trivial⟩ trivial Try.func85 _ ?_
 have G:=True.intro
 have Y:=xZ y_3 <| xZ y_22 <| xZ y_24 <| xZ y_26 <| xZ y_44 <| xZ y_50 <| xZ Try.results85 <| xZ J9.eq_1 <| xZ Jb.eq_1 <| xZ Vl <| xZ Kf.eq_1 <| xZ KC.eq_1 <| xZ J5.eq_1 <| xZ Vc.eq_1 <| xZ K9.eq_1 <| xZ Vb.eq_1 <| xZ X2.eq_1 <| JaP.eq_1
 dsimp only[JaP]
 simp only[JaK]at H
 refine xS ?_
 refine xr ?_
 refine xr0 ?_
 refine Jn ?_
 refine JB (X1 q1 a0 a2) (fun s=>[(0,.c (.pt 1 0)),(1,.c (.fm (EM Try.prog 52 (cvK a0)))),(2,.c (.d (.v (.int .i64 s.1)))),(6,.c (.pt 2 0)),(8,.c (.pt 3 0))]) (fun s=>[[.d (.sl 11 (List.map Jb a2)),.d (.v (.int .i64 s.2.1)),.d (.v (.int .i64 s.2.2.1)),.d (.v (.int .i64 s.2.2.2.1)),.d (.v (.int .i64 s.2.2.2.2.1))],[.d (.v (.int .i64 0)),.d (.v (.int .i64 0)),.sl 3 [] 0],[.d (.v (.int .i64 s.2.2.2.2.2.1)),.d (.v (.int .i64 s.2.2.2.2.2.2.1)),.sl 3 (List.map Jp s.2.2.2.2.2.2.2) 4]]) [26] r ?_ ?_
 ·refine xS ?_
  refine xr ?_
  rcases Jc H with⟨hp8,H⟩|⟨hp8,H⟩
  ·obtain⟨F,G,hq8⟩:=xH Y G hp8
   refine xT ?_
   obtain⟨r10,hr10,H⟩:=Je H
   have F:=Y
   refine xQ ?_
   refine xs 2 ?_
   refine xc ⟨[1],[]⟩ (tabG 4 (Zw a1 9 a2 a3 a4 a5 a6 r10 hr10)) ?_
   refine xl ?_
   refine xS ?_
   replace H:=Option.some.inj H
   refine xr ?_
   subst H
   refine xrD [] ?_
   exact xO ⟨[1],[0]⟩
  ·obtain⟨F,G,hq8⟩:=xH Y G hp8
   refine xE ?_
   obtain⟨r11,hr11,H⟩:=Je H
   have F:=Y
   refine xQ ?_
   refine xs 2 ?_
   refine xc ⟨[1],[]⟩ (tabG 1 (JC a1 a2 a3 a4 a5 a6 r11 hr11)) ?_
   refine xs 2 ?_
   refine xl ?_
   refine xS ?_
   rcases Jc H with⟨hp9,H⟩|⟨hp9,H⟩
   ·obtain⟨F,G,hq9⟩:=xH Y G hp9
    refine xT ?_
    obtain⟨r12,hr12,H⟩:=Je H
    have F:=Y
    refine xQ ?_
    refine xs 4 ?_
    refine xc ⟨[1],[]⟩ (tabG 2 (Jab q1 a0 (IntKind.i64.wrap (a1+1)) 0 a2 a3 a4 a5 a6 r12 hr12)) ?_
    refine xs 5 ?_
    refine xl ?_
    refine xS ?_
    obtain⟨r13,hr13,H⟩:=Je H
    have F:=Y
    refine xQ ?_
    refine xs 2 ?_
    refine xc ⟨[1],[]⟩ (tabG 3 (KM r12.2.2.2.1 [41] a2 r12.2.2.2.2.1 r12.2.2.2.2.2.1 r12.2.2.2.2.2.2.1 r12.2.2.2.2.2.2.2 r13 hr13)) ?_
    refine xs 1 ?_
    refine xl ?_
    refine xS ?_
    exact Jd H (xK ⟨[1,2,3],[6]⟩)
   ·obtain⟨F,G,hq9⟩:=xH Y G hp9
    refine xE0 ?_
    refine JB (VM q1 a0 a1 a2 a3 a4 a5 a6) (fun s=>[(0,.c (.pt 1 0)),(1,.c (.fm (EM Try.prog 52 (cvK a0)))),(2,.c (.d (.v (.int .i64 a1)))),(6,.c (.pt 2 0)),(8,.c (.pt 3 0)),(49,.c (.d (.v (.bool s))))]) (fun s=>[[.d (.sl 11 (List.map Jb a2)),.d (.v (.int .i64 a3)),.d (.v (.int .i64 a4)),.d (.v (.int .i64 a5)),.d (.v (.int .i64 a6))],[.d (.v (.int .i64 0)),.d (.v (.int .i64 0)),.sl 3 [] 0],[.d (.v (.int .i64 0)),.d (.v (.int .i64 0)),.sl 3 [] 0]]) [] r ?_ ?_
    ·obtain⟨hg2,H⟩:=Jg H
     have F:=xZ Y (Jv Jb a2 a1.toNat default default (by omega))
     rcases Jc H with⟨hp11,H⟩|⟨hp11,H⟩
     ·obtain⟨F,G,hq11⟩:=xH F G hp11
      refine xR ?_
      exact Jd H (xK ⟨[1,2,3],[]⟩)
     ·obtain⟨F,G,hq11⟩:=xH F G hp11
      obtain⟨hg3,H⟩:=Jg H
      have F:=xZ F (Jv Jb a2 a1.toNat default default (by omega))
      rcases Jc H with⟨hp12,H⟩|⟨hp12,H⟩
      ·obtain⟨F,G,hq12⟩:=xH F G hp12
       refine xR ?_
       exact Jd H (xK ⟨[1,2,3],[]⟩)
      ·obtain⟨F,G,hq12⟩:=xH F G hp12
       obtain⟨hg4,H⟩:=Jg H
       have F:=xZ F (Jv Jb a2 a1.toNat default default (by omega))
       refine xR ?_
       exact Jd H (xK ⟨[1,2,3],[]⟩)
    ·rintro x28 H
     rw[VM]at H
     rcases Jc H with⟨hp10,H⟩|⟨hp10,H⟩
     ·obtain⟨F,G,hq10⟩:=xH Y G hp10
      refine xT ?_
      refine xr ?_
      refine xr ?_
      exact Jd H (xK ⟨[1,2,3],[0]⟩)
     ·obtain⟨F,G,hq10⟩:=xH Y G hp10
      refine xE ?_
      obtain⟨r14,hr14,H⟩:=Je H
      have F:=Y
      refine xQ ?_
      refine xs 2 ?_
      refine xc ⟨[1],[]⟩ (tabG 5 (Je4 a1 a2 a3 a4 a5 a6 r14 hr14)) ?_
      refine xl ?_
      refine xS ?_
      refine xr ?_
      refine xr ?_
      exact Jd H (xK ⟨[1,2,3],[0]⟩)
 ·rintro ⟨x1,x2,x3,x4,x5,x6,x7,x8⟩ H
  rw[X1]at H
  refine xS ?_
  refine KH (Jaf q1 a0 a2) (fun s=>[(0,.c (.pt 1 0)),(1,.c (.fm (EM Try.prog 52 (cvK a0)))),(2,.c (.d (.v (.int .i64 s.1)))),(6,.c (.pt 2 0)),(8,.c (.pt 3 0))]) (fun s=>[[.d (.sl 11 (List.map Jb a2)),.d (.v (.int .i64 s.2.1)),.d (.v (.int .i64 s.2.2.1)),.d (.v (.int .i64 s.2.2.2.1)),.d (.v (.int .i64 s.2.2.2.2.1))],[.d (.v (.int .i64 0)),.d (.v (.int .i64 0)),.sl 3 [] 0],[.d (.v (.int .i64 s.2.2.2.2.2.1)),.d (.v (.int .i64 s.2.2.2.2.2.2.1)),.sl 3 (List.map Jp s.2.2.2.2.2.2.2) 4]]) [26] H (xK ⟨[1,2,3],[4]⟩) ?_
  rintro n1 ⟨x9,x10,x11,x12,x13,x14,x15,x16⟩ o1 H hF1
  rw[Jaf]at H
  refine xS ?_
  obtain⟨r1,hr1,H⟩:=Je H
  have F:=Y
  refine xQ ?_
  refine xs 1 ?_
  refine xc ⟨[1],[]⟩ (tabG 0 (JE a2 x10 x11 x12 x13 r1 hr1)) ?_
  refine xl ?_
  refine xS ?_
  rcases Jc H with⟨hp1,H⟩|⟨hp1,H⟩
  ·obtain⟨F,G,hq1⟩:=xH Y G hp1
   refine xT ?_
   obtain⟨r2,hr2,H⟩:=Je H
   have F:=Y
   refine xQ ?_
   refine xs 2 ?_
   refine xc ⟨[1],[]⟩ (tabG 1 (JC x9 a2 x10 x11 x12 x13 r2 hr2)) ?_
   refine xl ?_
   refine xS ?_
   refine xr ?_
   rcases Jc H with⟨hp2,H⟩|⟨hp2,H⟩
   ·obtain⟨F,G,hq2⟩:=xH Y G hp2
    refine xT ?_
    refine xr ?_
    refine xr ?_
    refine KH (Jbu q1 a0 a2) (fun s=>[(0,.c (.pt 1 0)),(1,.c (.fm (EM Try.prog 52 (cvK a0)))),(2,.c (.d (.v (.int .i64 s.1)))),(6,.c (.pt 2 0)),(8,.c (.pt 3 0))]) (fun s=>[[.d (.sl 11 (List.map Jb a2)),.d (.v (.int .i64 s.2.1)),.d (.v (.int .i64 s.2.2.1)),.d (.v (.int .i64 s.2.2.2.1)),.d (.v (.int .i64 s.2.2.2.2.1))],[.d (.v (.int .i64 0)),.d (.v (.int .i64 0)),.sl 3 [] 0],[.d (.v (.int .i64 14)),.d (.v (.int .i64 (-1))),.sl 3 (List.map Jp s.2.2.2.2.2) 4]]) [26] H (xK ⟨[1,2,3],[0]⟩) ?_
    rintro n2 ⟨x17,x18,x19,x20,x21,x22⟩ o2 H hF2
    rw[Jbu]at H
    refine XV ?_
    refine JB (X5 q1 a0 a2 x17 x18 x19 x20 x21 x22) (fun s=>[(0,.c (.pt 1 0)),(1,.c (.fm (EM Try.prog 52 (cvK a0)))),(2,.c (.d (.v (.int .i64 x17)))),(6,.c (.pt 2 0)),(8,.c (.pt 3 0)),(106,.c (.d (.v (.bool s))))]) (fun s=>[[.d (.sl 11 (List.map Jb a2)),.d (.v (.int .i64 x18)),.d (.v (.int .i64 x19)),.d (.v (.int .i64 x20)),.d (.v (.int .i64 x21))],[.d (.v (.int .i64 0)),.d (.v (.int .i64 0)),.sl 3 [] 0],[.d (.v (.int .i64 14)),.d (.v (.int .i64 (-1))),.sl 3 (List.map Jp x22) 4]]) [26] o2 ?_ ?_
    ·obtain⟨r6,hr6,H⟩:=Je H
     have F:=Y
     rcases Jc H with⟨hp6,H⟩|⟨hp6,H⟩
     ·obtain⟨F,G,hq6⟩:=xH F G hp6
      obtain⟨r7,hr7,H⟩:=Je H
      have F:=F
      refine xQ ?_
      refine xs 1 ?_
      refine xc ⟨[1],[]⟩ (tabG 0 (JE a2 x18 x19 x20 x21 r6 hr6)) ?_
      refine xs 3 ?_
      refine xc ⟨[1],[]⟩ (tabG 1 (JC x17 a2 x18 x19 x20 x21 r7 hr7)) ?_
      refine xs 2 ?_
      refine xl ?_
      refine xS ?_
      exact Jd H (xK ⟨[1,2,3],[4]⟩)
     ·obtain⟨F,G,hq6⟩:=xH F G hp6
      refine xQ ?_
      refine xs 1 ?_
      refine xc ⟨[1],[]⟩ (tabG 0 (JE a2 x18 x19 x20 x21 r6 hr6)) ?_
      refine xs 6 ?_
      refine xl ?_
      refine xS ?_
      exact Jd H (xK ⟨[1,2,3],[4]⟩)
    ·rintro x23 H
     rw[X5]at H
     rcases Jc H with⟨hp3,H⟩|⟨hp3,H⟩
     ·obtain⟨F,G,hq3⟩:=xH Y G hp3
      refine xT0 ?_
      refine JbD ?_
      refine Jn ?_
      refine Jff ?_
      refine JB (Xg q1 a0 a2 x21 x22) (fun s=>[(0,.c (.pt 1 0)),(1,.c (.fm (EM Try.prog 52 (cvK a0)))),(2,.c (.d (.v (.int .i64 s.1)))),(6,.c (.pt 2 0)),(8,.c (.pt 3 0))]) (fun s=>[[.d (.sl 11 (List.map Jb a2)),.d (.v (.int .i64 s.2.1)),.d (.v (.int .i64 s.2.2.1)),.d (.v (.int .i64 s.2.2.2)),.d (.v (.int .i64 x21))],[.d (.v (.int .i64 0)),.d (.v (.int .i64 0)),.sl 3 [] 0],[.d (.v (.int .i64 14)),.d (.v (.int .i64 (-1))),.sl 3 (List.map Jp x22) 4]]) [26] o2 ?_ ?_
      ·refine xS ?_
       refine xr ?_
       rcases Jc H with⟨hp5,H⟩|⟨hp5,H⟩
       ·obtain⟨F,G,hq5⟩:=xH Y G hp5
        refine xT ?_
        obtain⟨r5,hr5,H⟩:=Je H
        have F:=Y
        refine xQ ?_
        refine xs 2 ?_
        refine xc ⟨[1],[]⟩ (tabG 3 (KM x17 [44] a2 x18 x19 x20 x21 r5 hr5)) ?_
        refine xs 1 ?_
        refine xl ?_
        refine xS ?_
        exact Jd H (xK ⟨[1,2,3],[4]⟩)
       ·obtain⟨F,G,hq5⟩:=xH Y G hp5
        refine xE ?_
        exact Jd H (xK ⟨[1,2,3],[4]⟩)
      ·rintro ⟨x24,x25,x26,x27⟩ H
       rw[Xg]at H
       refine xS ?_
       obtain⟨r3,hr3,H⟩:=Je H
       have F:=Y
       refine xQ ?_
       refine xs 1 ?_
       refine xc ⟨[1],[]⟩ (tabG 0 (JE a2 x25 x26 x27 x21 r3 hr3)) ?_
       refine xl ?_
       refine xS ?_
       rcases Jc H with⟨hp4,H⟩|⟨hp4,H⟩
       ·obtain⟨F,G,hq4⟩:=xH Y G hp4
        refine xT ?_
        obtain⟨r4,hr4,H⟩:=Je H
        have F:=Y
        refine xQ ?_
        refine xs 3 ?_
        refine xc ⟨[1],[]⟩ (tabG 2 (Jab q1 a0 x24 1 a2 x25 x26 x27 x21 r4 hr4)) ?_
        refine xs 6 ?_
        refine xl ?_
        refine xS ?_
        obtain⟨hg1,H⟩:=Jg H
        have F:=xZ Y (XE Z6 [(⟨r4.1,r4.2.1,r4.2.2.1⟩:Node)])
        refine xR ?_
        refine xr ?_
        exact JJ (J2 H hF2) (xK ⟨[1,2,3],[9]⟩)
       ·obtain⟨F,G,hq4⟩:=xH Y G hp4
        refine xE ?_
        exact JJ (J2 H hF2) (xK ⟨[1,2,3],[4]⟩)
     ·obtain⟨F,G,hq3⟩:=xH Y G hp3
      replace H:=Jq H hF2
      refine xE ?_
      refine xr ?_
      exact JJ (J2 H hF1) (xK ⟨[1,2,3],[4]⟩)
   ·obtain⟨F,G,hq2⟩:=xH Y G hp2
    refine xE ?_
    refine xr ?_
    rcases Jc H with⟨hp7,H⟩|⟨hp7,H⟩
    ·obtain⟨F,G,hq7⟩:=xH Y G hp7
     refine xT ?_
     obtain⟨r8,hr8,H⟩:=Je H
     have F:=Y
     refine xQ ?_
     refine xs 4 ?_
     refine xc ⟨[1],[]⟩ (tabG 2 (Jab q1 a0 (IntKind.i64.wrap (x9+1)) 0 a2 x10 x11 x12 x13 r8 hr8)) ?_
     refine xs 6 ?_
     refine xl ?_
     refine xS ?_
     refine xr ?_
     obtain⟨r9,hr9,H⟩:=Je H
     have F:=Y
     refine xQ ?_
     refine xs 2 ?_
     refine xc ⟨[1],[]⟩ (tabG 3 (KM r8.2.2.2.1 [93] a2 r8.2.2.2.2.1 r8.2.2.2.2.2.1 r8.2.2.2.2.2.2.1 r8.2.2.2.2.2.2.2 r9 hr9)) ?_
     refine xs 1 ?_
     refine xl ?_
     refine xS ?_
     exact JJ (J2 H hF1) (xK ⟨[1,2,3],[0]⟩)
    ·obtain⟨F,G,hq7⟩:=xH Y G hp7
     refine xE ?_
     replace H:=Jq H hF1
     replace H:=Option.some.inj H
     refine xr ?_
     subst H
     refine xrD [] ?_
     exact xO ⟨[1],[4]⟩
  ·obtain⟨F,G,hq1⟩:=xH Y G hp1
   replace H:=Jq H hF1
   refine xE ?_
   replace H:=Option.some.inj H
   refine xr ?_
   subst H
   refine xrD [] ?_
   exact xO ⟨[1],[4]⟩
noncomputable def Js:Nat→(EB→Int→Int→(List Token)→Int→Int→Int→Int→Option (Int×Int×(List Node)×Int×Int×Int×Int×Int))×(EB→Int→(List Token)→Int→Int→Int→Int→Option (Int×Int×(List Node)×Int×Int×Int×Int×Int))×(EB→Int→(List Token)→Int→Int→Int→Int→Option (Int×Int×(List Node)×Int×Int×Int×Int×Int))
 | 0=>(fun _ _ _ _ _ _ _ _=>none,fun _ _ _ _ _ _ _=>none,fun _ _ _ _ _ _ _=>none)
 | n+1=>(Xy ((Js n).1) ((Js n).2.1) ((Js n).2.2),Jad ((Js n).1) ((Js n).2.1) ((Js n).2.2),JaK ((Js n).1) ((Js n).2.1) ((Js n).2.2))
theorem JdN:∀ n,Kok Try.prog 59 true (Vj (Js n).1)∧Kok Try.prog 78 true (Vv (Js n).2.1)∧Kok Try.prog 85 true (Xf (Js n).2.2)
 | 0=>⟨⟨Jpp,(by rintro _ ⟨_,_,_,_,_,_,_,_,_,H,_⟩; cases H),fun _=>by rintro _ ⟨_,_,_,_,_,_,_,_,_,_,rfl⟩; exact⟨_,_,_,rfl⟩⟩,⟨Jp5,(by rintro _ ⟨_,_,_,_,_,_,_,_,H,_⟩; cases H),fun _=>by rintro _ ⟨_,_,_,_,_,_,_,_,_,rfl⟩; exact⟨_,_,_,rfl⟩⟩,⟨Jp6,(by rintro _ ⟨_,_,_,_,_,_,_,_,H,_⟩; cases H),fun _=>by rintro _ ⟨_,_,_,_,_,_,_,_,_,rfl⟩; exact⟨_,_,_,rfl⟩⟩⟩
 | n+1=>have h:=JdN n; ⟨⟨Jpp,JhS _ _ _ h.1 h.2.1 h.2.2,fun _=>by rintro _ ⟨_,_,_,_,_,_,_,_,_,_,rfl⟩; exact⟨_,_,_,rfl⟩⟩,⟨Jp5,Jho _ _ _ h.1 h.2.1 h.2.2,fun _=>by rintro _ ⟨_,_,_,_,_,_,_,_,_,rfl⟩; exact⟨_,_,_,rfl⟩⟩,⟨Jp6,JhK _ _ _ h.1 h.2.1 h.2.2,fun _=>by rintro _ ⟨_,_,_,_,_,_,_,_,_,rfl⟩; exact⟨_,_,_,rfl⟩⟩⟩
noncomputable def K0:EB→Int→Int→(List Token)→Int→Int→Int→Int→Option (Int×Int×(List Node)×Int×Int×Int×Int×Int):=(Js bigF).1
def JaJ:GI→Prop:=Vj K0
theorem JaF(a0:EB)(a1:Int)(a2:Int)(a3:List Token)(a4:Int)(a5:Int)(a6:Int)(a7:Int)(r:(Int×Int×(List Node)×Int×Int×Int×Int×Int))(H:K0 a0 a1 a2 a3 a4 a5 a6 a7=some r):JaJ (Vc a0 a1 a2 a3 a4 a5 a6 a7 r):=Jab K0 a0 a1 a2 a3 a4 a5 a6 a7 r H
theorem JaL:Kok Try.prog 59 true JaJ:=(JdN bigF).1
noncomputable def Vx(a0:EB)(a2:Bool)(x1:Int):(Int×(List UInt8)×Int×Int×Int×Int×(List Node))→Option (Int×(List Node)×Int×EB×Int×Int×Int×Int)
 | (x2,x3,x4,x5,x6,x7,x8)=>(ZD a0 x3 a2).bind fun r4=>some (x1,x8,x2,((x3,a2)::a0),x4,x5,x6,x7)
noncomputable def Xe(a0:EB)(a2:Bool)(a3:List Token)(a4:Int)(a5:Int)(a6:Int)(a7:Int):Int→Option (Int ⊕ (Int×(List Node)×Int×EB×Int×Int×Int×Int))
 | x1=>(Jz x1 a3 a4 a5 a6 a7).bind fun r1=>if(eqS r1 [42])=true then some (.inl (IntKind.i64.wrap (x1+1))) else inrO ((Vp x1 a3 a4 a5 a6 a7).bind fun r2=>(JO a3 r2.1 r2.2.1 r2.2.2 a7).bind fun r3=>if(!r3)=true then some (x1,([]:List Node),x1,a0,r2.1,r2.2.1,r2.2.2,a7) else if(0:Int)≤x1∧x1.toNat<a3.length then(Jz (IntKind.i64.wrap (x1+1)) a3 r2.1 r2.2.1 r2.2.2 a7).bind fun r5=>if(eqS r5 [91])=true then(K0 a0 (IntKind.i64.wrap ((IntKind.i64.wrap (x1+1))+1)) 0 a3 r2.1 r2.2.1 r2.2.2 a7).bind fun r6=>if(([]:List Node).length + [(⟨r6.1,r6.2.1,r6.2.2.1⟩:Node)].length) * 40≤140737488355328 then(JL r6.2.2.2.1 [93] a3 r6.2.2.2.2.1 r6.2.2.2.2.2.1 r6.2.2.2.2.2.2.1 r6.2.2.2.2.2.2.2).bind fun r7=>Vx a0 a2 x1 (r7.1,(a3.getD x1.toNat default).Text,r7.2.1,r7.2.2.1,r7.2.2.2,r6.2.2.2.2.2.2.2,([]:List Node)++[(⟨r6.1,r6.2.1,r6.2.2.1⟩:Node)]) else none else Vx a0 a2 x1 (IntKind.i64.wrap (x1+1),(a3.getD x1.toNat default).Text,r2.1,r2.2.1,r2.2.2,a7,([]:List Node)) else none)
noncomputable def KI(a0:EB)(a1:Int)(a2:Bool)(a3:List Token)(a4:Int)(a5:Int)(a6:Int)(a7:Int):Option (Int×(List Node)×Int×EB×Int×Int×Int×Int) :=
 Ju (Xe a0 a2 a3 a4 a5 a6 a7) a1
noncomputable def Va(a0:EB)(a1:Int)(a2:Bool)(a3:List Token)(a4:Int)(a5:Int)(a6:Int)(a7:Int)(r:(Int×(List Node)×Int×EB×Int×Int×Int×Int)):GI :=
 ⟨[.c (.pt 1 0),.c (.fm (EM Try.prog 52 (cvK a0))),.c (.d (.v (.int .i64 a1))),.c (.d (.v (.bool a2)))],[[.d (.sl 11 (List.map Jb a3)),.d (.v (.int .i64 a4)),.d (.v (.int .i64 a5)),.d (.v (.int .i64 a6)),.d (.v (.int .i64 a7))]],[],.ret (.tu [(true,[.d (.v (.int .i64 4)),.d (.v (.int .i64 r.1)),.sl 3 (List.map Jp r.2.1) 2]),(false,[.d (.v (.int .i64 r.2.2.1))]),(false,[.fm (EM Try.prog 52 (cvK r.2.2.2.1))])]) [[.d (.sl 11 (List.map Jb a3)),.d (.v (.int .i64 r.2.2.2.2.1)),.d (.v (.int .i64 r.2.2.2.2.2.1)),.d (.v (.int .i64 r.2.2.2.2.2.2.1)),.d (.v (.int .i64 r.2.2.2.2.2.2.2))]] [26]⟩
def K8:GI→Prop:=fun g=>∃ (a0:EB) (a1:Int) (a2:Bool) (a3:List Token) (a4:Int) (a5:Int) (a6:Int) (a7:Int) (r:(Int×(List Node)×Int×EB×Int×Int×Int×Int)),KI a0 a1 a2 a3 a4 a5 a6 a7=some r∧g=Va a0 a1 a2 a3 a4 a5 a6 a7 r
theorem ZH(a0:EB)(a1:Int)(a2:Bool)(a3:List Token)(a4:Int)(a5:Int)(a6:Int)(a7:Int)(r:(Int×(List Node)×Int×EB×Int×Int×Int×Int))(H:KI a0 a1 a2 a3 a4 a5 a6 a7=some r):K8 (Va a0 a1 a2 a3 a4 a5 a6 a7 r):=⟨a0,a1,a2,a3,a4,a5,a6,a7,r,H,rfl⟩
theorem JfN:∀ g,K8 g→Jx Try.prog 34 g:=by
 rintro _ ⟨a0,a1,a2,a3,a4,a5,a6,a7,r,H,rfl⟩
 refine xGnl mixed [13] [] [(31,true,J6),(58,true,X6),(16,true,KA),(60,true,ZS),(59,true,JaJ),(36,true,Vd)] [] trivial ⟨Ks,Jc2,KE,JeO,JaL,V0,trivial⟩ trivial Try.func34 _ ?_
 have G:=True.intro
 have Y:=xZ y_3 <| xZ y_9 <| xZ y_22 <| xZ y_24 <| xZ y_26 <| xZ y_44 <| xZ y_50 <| xZ Try.results34 <| xZ J9.eq_1 <| xZ Jb.eq_1 <| xZ Vl <| xZ Kf.eq_1 <| xZ J5.eq_1 <| xZ X2.eq_1 <| xZ KC.eq_1 <| xZ ZR.eq_1 <| xZ Vc.eq_1 <| xZ K9.eq_1 <| Va.eq_1
 dsimp only[Va]
 simp only[KI]at H
 refine xS ?_
 refine xr ?_
 refine KH (Xe a0 a2 a3 a4 a5 a6 a7) (fun s=>[(0,.c (.pt 1 0)),(1,.c (.fm (EM Try.prog 52 (cvK a0)))),(2,.c (.d (.v (.int .i64 s)))),(3,.c (.d (.v (.bool a2)))),(8,.c (.pt 2 0))]) (fun s=>[[.d (.sl 11 (List.map Jb a3)),.d (.v (.int .i64 a4)),.d (.v (.int .i64 a5)),.d (.v (.int .i64 a6)),.d (.v (.int .i64 a7))],[.d (.v (.int .i64 0)),.d (.v (.int .i64 0)),.sl 3 [] 0]]) [] H (xK ⟨[1,2],[]⟩) ?_
 rintro n1 x1 o1 H hF1
 rw[Xe]at H
 refine xS ?_
 obtain⟨r1,hr1,H⟩:=Je H
 have F:=Y
 refine xQ ?_
 refine xs 2 ?_
 refine xc ⟨[1],[]⟩ (tabG 0 (JC x1 a3 a4 a5 a6 a7 r1 hr1)) ?_
 refine xs 1 ?_
 refine xl ?_
 refine xS ?_
 rcases Jc H with⟨hp1,H⟩|⟨hp1,H⟩
 ·obtain⟨F,G,hq1⟩:=xH Y G hp1
  refine xT ?_
  refine xr ?_
  exact JJ (J2 H hF1) (xK ⟨[1,2],[]⟩)
 ·obtain⟨F,G,hq1⟩:=xH Y G hp1
  replace H:=Jq H hF1
  refine xE ?_
  refine xr ?_
  obtain⟨r2,hr2,H⟩:=Je H
  have F:=Y
  refine xQ ?_
  refine xs 2 ?_
  refine xc ⟨[1],[]⟩ (tabG 1 (Je4 x1 a3 a4 a5 a6 a7 r2 hr2)) ?_
  refine xl ?_
  refine xS ?_
  obtain⟨r3,hr3,H⟩:=Je H
  have F:=Y
  refine xQ ?_
  refine xs 1 ?_
  refine xc ⟨[1],[]⟩ (tabG 2 (JE a3 r2.1 r2.2.1 r2.2.2 a7 r3 hr3)) ?_
  refine xs 1 ?_
  refine xl ?_
  refine xS ?_
  rcases Jc H with⟨hp2,H⟩|⟨hp2,H⟩
  ·obtain⟨F,G,hq2⟩:=xH Y G hp2
   refine xT ?_
   replace H:=Option.some.inj H
   refine xr ?_
   subst H
   refine xrD [] ?_
   exact xO ⟨[1],[0]⟩
  ·obtain⟨F,G,hq2⟩:=xH Y G hp2
   refine xE ?_
   obtain⟨hg1,H⟩:=Jg H
   have F:=xZ Y (Jv Jb a3 x1.toNat default default (by omega))
   refine xR ?_
   refine xr0 ?_
   refine Jn ?_
   refine JB (Vx a0 a2 x1) (fun s=>[(1,.c (.fm (EM Try.prog 52 (cvK a0)))),(2,.c (.d (.v (.int .i64 s.1)))),(3,.c (.d (.v (.bool a2)))),(8,.c (.pt 2 0)),(11,.c (.pt 3 0)),(12,.c (.d (.v (str s.2.1))))]) (fun s=>[[.d (.sl 11 (List.map Jb a3)),.d (.v (.int .i64 s.2.2.1)),.d (.v (.int .i64 s.2.2.2.1)),.d (.v (.int .i64 s.2.2.2.2.1)),.d (.v (.int .i64 s.2.2.2.2.2.1))],[.d (.v (.int .i64 0)),.d (.v (.int .i64 0)),.sl 3 [] 0],[.d (.v (.int .i64 4)),.d (.v (.int .i64 x1)),.sl 3 (List.map Jp s.2.2.2.2.2.2) 4]]) [26] r ?_ ?_
   ·refine xS ?_
    obtain⟨r5,hr5,H⟩:=Je H
    have F:=Y
    refine xQ ?_
    refine xs 2 ?_
    refine xc ⟨[1],[]⟩ (tabG 0 (JC (IntKind.i64.wrap (x1+1)) a3 r2.1 r2.2.1 r2.2.2 a7 r5 hr5)) ?_
    refine xs 1 ?_
    refine xl ?_
    refine xS ?_
    rcases Jc H with⟨hp3,H⟩|⟨hp3,H⟩
    ·obtain⟨F,G,hq3⟩:=xH Y G hp3
     refine xT ?_
     obtain⟨r6,hr6,H⟩:=Je H
     have F:=Y
     refine xQ ?_
     refine xs 4 ?_
     refine xc ⟨[1],[]⟩ (tabG 4 (JaF a0 (IntKind.i64.wrap ((IntKind.i64.wrap (x1+1))+1)) 0 a3 r2.1 r2.2.1 r2.2.2 a7 r6 hr6)) ?_
     refine xs 6 ?_
     refine xl ?_
     refine xS ?_
     obtain⟨hg2,H⟩:=Jg H
     have F:=xZ Y (XE Z6 [(⟨r6.1,r6.2.1,r6.2.2.1⟩:Node)])
     refine xR ?_
     obtain⟨r7,hr7,H⟩:=Je H
     have F:=Y
     refine xQ ?_
     refine xs 2 ?_
     refine xc ⟨[1],[]⟩ (tabG 5 (KM r6.2.2.2.1 [93] a3 r6.2.2.2.2.1 r6.2.2.2.2.2.1 r6.2.2.2.2.2.2.1 r6.2.2.2.2.2.2.2 r7 hr7)) ?_
     refine xs 1 ?_
     refine xl ?_
     refine xS ?_
     exact Jd H (xK ⟨[1,2,4],[11]⟩)
    ·obtain⟨F,G,hq3⟩:=xH Y G hp3
     refine xE ?_
     exact Jd H (xK ⟨[1,2,4],[0]⟩)
   ·rintro ⟨x2,x3,x4,x5,x6,x7,x8⟩ H
    rw[Vx]at H
    refine xS ?_
    obtain⟨r4,hr4,H⟩:=Je H
    have F:=Y
    refine xP [0,1,2,3,4,5,6,7,8] [63,888888] ⟨Ks,Jc2,KE,JeO,JaL,V0,trivial⟩ ?_
    refine xaX ?_
    refine xsX 4 ?_
    refine xcX ⟨[],[]⟩ (tabG 3 (Jir a0 x3 a2 r4 hr4)) ?_
    refine xsX 3 ?_
    refine xlX ?_
    replace H:=Option.some.inj H
    refine xS ?_
    subst H
    refine xrD [] ?_
    exact xO ⟨[1],[4]⟩
theorem ZI:Jf Try.prog 34∧(∀ g,K8 g→Jx Try.prog 34 g)∧(true=true→∀ g,K8 g→∃ val bs ts,g.out=.ret val bs ts) :=
 ⟨JuM,JfN,fun _=>by rintro _ ⟨_,_,_,_,_,_,_,_,_,_,rfl⟩; exact⟨_,_,_,rfl⟩⟩
noncomputable def X3(a9:List Token):(EB×Int×Int×Int×Int×Int×(List Node))→Option ((List Node)×Int×EB×Int×Int×Int×Int)
 | (x1,x2,x3,x4,x5,x6,x7)=>(JL x2 [59] a9 x3 x4 x5 x6).bind fun r1=>some (x7,r1.1,x1,r1.2.1,r1.2.2.1,r1.2.2.2,x6)
noncomputable def Za(a8:Bool)(a9:List Token)(x8:EB)(x14:List Node)(x15:Int)(x16:Int):(Int×Int×Int×Int×Int×(List Node))→Option ((EB×Int×Int×Int×Int×Int×(List Node)×Int×Int×(List Node)) ⊕ ((List Node)×Int×EB×Int×Int×Int×Int))
 | (x18,x19,x20,x21,x22,x23)=>if(x14.length + [(⟨x15,x16,x23⟩:Node)].length) * 40≤140737488355328 then(Jz x18 a9 x19 x20 x21 x22).bind fun r3=>if(!eqS r3 [44])=true then inrO (X3 a9 (x8,x18,x19,x20,x21,x22,x14++[(⟨x15,x16,x23⟩:Node)])) else(KI x8 (IntKind.i64.wrap (x18+1)) a8 a9 x19 x20 x21 x22).bind fun r4=>some (.inl (r4.2.2.2.1,r4.2.2.1,r4.2.2.2.2.1,r4.2.2.2.2.2.1,r4.2.2.2.2.2.2.1,r4.2.2.2.2.2.2.2,x14++[(⟨x15,x16,x23⟩:Node)],4,r4.1,r4.2.1)) else none
noncomputable def XZ(a8:Bool)(a9:List Token)(x8:EB)(x9:Int)(x10:Int)(x11:Int)(x12:Int)(x13:Int)(x14:List Node)(x15:Int)(x16:Int)(x17:List Node):Bool→Option ((EB×Int×Int×Int×Int×Int×(List Node)×Int×Int×(List Node)) ⊕ ((List Node)×Int×EB×Int×Int×Int×Int))
 | x24=>if x24=true then(K0 x8 (IntKind.i64.wrap (x9+1)) 1 a9 x10 x11 x12 x13).bind fun r5=>if(x17.length + [(⟨r5.1,r5.2.1,r5.2.2.1⟩:Node)].length) * 40≤140737488355328 then Za a8 a9 x8 x14 x15 x16 (r5.2.2.2.1,r5.2.2.2.2.1,r5.2.2.2.2.2.1,r5.2.2.2.2.2.2.1,r5.2.2.2.2.2.2.2,x17++[(⟨r5.1,r5.2.1,r5.2.2.1⟩:Node)]) else none else Za a8 a9 x8 x14 x15 x16 (x9,x10,x11,x12,x13,x17)
noncomputable def Jac(a8:Bool)(a9:List Token):(EB×Int×Int×Int×Int×Int×(List Node)×Int×Int×(List Node))→Option ((EB×Int×Int×Int×Int×Int×(List Node)×Int×Int×(List Node)) ⊕ ((List Node)×Int×EB×Int×Int×Int×Int))
 | (x8,x9,x10,x11,x12,x13,x14,x15,x16,x17)=>(JO a9 x10 x11 x12 x13).bind fun r2=>if r2=true then if(!a8)=true then(Jz x9 a9 x10 x11 x12 x13).bind fun r6=>XZ a8 a9 x8 x9 x10 x11 x12 x13 x14 x15 x16 x17 (eqS r6 [61]) else XZ a8 a9 x8 x9 x10 x11 x12 x13 x14 x15 x16 x17 false else inrO (X3 a9 (x8,x9,x10,x11,x12,x13,x14))
noncomputable def JbP(a0:EB)(a1:Int)(a2:Int)(a3:Int)(a4:List Node)(a5:Int)(a6:Int)(a7:List Node)(a8:Bool)(a9:List Token)(a10:Int)(a11:Int)(a12:Int)(a13:Int):Option ((List Node)×Int×EB×Int×Int×Int×Int) :=
 Ju (Jac a8 a9) (a0,a1,a10,a11,a12,a13,a4,a5,a6,a7)
noncomputable def Zx(a0:EB)(a1:Int)(a2:Int)(a3:Int)(a4:List Node)(a5:Int)(a6:Int)(a7:List Node)(a8:Bool)(a9:List Token)(a10:Int)(a11:Int)(a12:Int)(a13:Int)(r:((List Node)×Int×EB×Int×Int×Int×Int)):GI :=
 ⟨[.c (.pt 1 0),.c (.fm (EM Try.prog 52 (cvK a0))),.c (.d (.v (.int .i64 a1))),.ag [.d (.v (.int .i64 a2)),.d (.v (.int .i64 a3)),.sl 3 (List.map Jp a4) 2],.ag [.d (.v (.int .i64 a5)),.d (.v (.int .i64 a6)),.sl 3 (List.map Jp a7) 3],.c (.d (.v (.bool a8)))],[[.d (.sl 11 (List.map Jb a9)),.d (.v (.int .i64 a10)),.d (.v (.int .i64 a11)),.d (.v (.int .i64 a12)),.d (.v (.int .i64 a13))]],[26,26],.ret (.tu [(true,[.d (.v (.int .i64 a2)),.d (.v (.int .i64 a3)),.sl 3 (List.map Jp r.1) 2]),(false,[.d (.v (.int .i64 r.2.1))]),(false,[.fm (EM Try.prog 52 (cvK r.2.2.1))])]) [[.d (.sl 11 (List.map Jb a9)),.d (.v (.int .i64 r.2.2.2.1)),.d (.v (.int .i64 r.2.2.2.2.1)),.d (.v (.int .i64 r.2.2.2.2.2.1)),.d (.v (.int .i64 r.2.2.2.2.2.2))]] [26]⟩
def Zt:GI→Prop:=fun g=>∃ (a0:EB) (a1:Int) (a2:Int) (a3:Int) (a4:List Node) (a5:Int) (a6:Int) (a7:List Node) (a8:Bool) (a9:List Token) (a10:Int) (a11:Int) (a12:Int) (a13:Int) (r:((List Node)×Int×EB×Int×Int×Int×Int)),JbP a0 a1 a2 a3 a4 a5 a6 a7 a8 a9 a10 a11 a12 a13=some r∧g=Zx a0 a1 a2 a3 a4 a5 a6 a7 a8 a9 a10 a11 a12 a13 r
theorem JfE(a0:EB)(a1:Int)(a2:Int)(a3:Int)(a4:List Node)(a5:Int)(a6:Int)(a7:List Node)(a8:Bool)(a9:List Token)(a10:Int)(a11:Int)(a12:Int)(a13:Int)(r:((List Node)×Int×EB×Int×Int×Int×Int))(H:JbP a0 a1 a2 a3 a4 a5 a6 a7 a8 a9 a10 a11 a12 a13=some r):Zt (Zx a0 a1 a2 a3 a4 a5 a6 a7 a8 a9 a10 a11 a12 a13 r):=⟨a0,a1,a2,a3,a4,a5,a6,a7,a8,a9,a10,a11,a12,a13,r,H,rfl⟩
theorem Ji0:∀ g,Zt g→Jx Try.prog 35 g:=by
 rintro _ ⟨a0,a1,a2,a3,a4,a5,a6,a7,a8,a9,a10,a11,a12,a13,r,H,rfl⟩
 refine xGnl mixed [9] [] [(36,true,Vd),(16,true,KA),(31,true,J6),(34,true,K8),(59,true,JaJ)] [] trivial ⟨V0,KE,Ks,ZI,JaL,trivial⟩ trivial Try.func35 _ ?_
 have G:=True.intro
 have Y:=xZ y_24 <| xZ y_26 <| xZ Try.results35 <| xZ J9.eq_1 <| xZ Jb.eq_1 <| xZ Vl <| xZ Kf.eq_1 <| xZ K9.eq_1 <| xZ KC.eq_1 <| xZ J5.eq_1 <| xZ Va.eq_1 <| xZ Vc.eq_1 <| Zx.eq_1
 dsimp only[Zx]
 simp only[JbP]at H
 refine xS ?_
 refine xr0 ?_
 refine Jn ?_
 refine JB (X3 a9) (fun s=>[(0,.c (.pt 1 0)),(1,.c (.fm (EM Try.prog 52 (cvK s.1)))),(2,.c (.d (.v (.int .i64 s.2.1)))),(9,.c (.pt 2 0)),(12,.c (.pt 3 0))]) (fun s=>[[.d (.sl 11 (List.map Jb a9)),.d (.v (.int .i64 s.2.2.1)),.d (.v (.int .i64 s.2.2.2.1)),.d (.v (.int .i64 s.2.2.2.2.1)),.d (.v (.int .i64 s.2.2.2.2.2.1))],[.d (.v (.int .i64 a2)),.d (.v (.int .i64 a3)),.sl 3 (List.map Jp s.2.2.2.2.2.2) 4],[.d (.v (.int .i64 0)),.d (.v (.int .i64 0)),.sl 3 [] 0]]) [26] r ?_ ?_
 ·refine xS ?_
  refine KH (Jac a8 a9) (fun s=>[(0,.c (.pt 1 0)),(1,.c (.fm (EM Try.prog 52 (cvK s.1)))),(2,.c (.d (.v (.int .i64 s.2.1)))),(5,.c (.d (.v (.bool a8)))),(9,.c (.pt 2 0)),(10,.c (.pt 3 0)),(12,.c (.pt 4 0))]) (fun s=>[[.d (.sl 11 (List.map Jb a9)),.d (.v (.int .i64 s.2.2.1)),.d (.v (.int .i64 s.2.2.2.1)),.d (.v (.int .i64 s.2.2.2.2.1)),.d (.v (.int .i64 s.2.2.2.2.2.1))],[.d (.v (.int .i64 a2)),.d (.v (.int .i64 a3)),.sl 3 (List.map Jp s.2.2.2.2.2.2.1) 5],[.d (.v (.int .i64 s.2.2.2.2.2.2.2.1)),.d (.v (.int .i64 s.2.2.2.2.2.2.2.2.1)),.sl 3 (List.map Jp s.2.2.2.2.2.2.2.2.2) 6],[.d (.v (.int .i64 0)),.d (.v (.int .i64 0)),.sl 3 [] 0]]) [26,26] H (xK ⟨[1,4,5,6],[2,3]⟩) ?_
  rintro n1 ⟨x8,x9,x10,x11,x12,x13,x14,x15,x16,x17⟩ o1 H hF1
  rw[Jac]at H
  refine xS ?_
  obtain⟨r2,hr2,H⟩:=Je H
  have F:=Y
  refine xQ ?_
  refine xs 1 ?_
  refine xc ⟨[1],[]⟩ (tabG 1 (JE a9 x10 x11 x12 x13 r2 hr2)) ?_
  refine xl ?_
  refine xS ?_
  rcases Jc H with⟨hp1,H⟩|⟨hp1,H⟩
  ·obtain⟨F,G,hq1⟩:=xH Y G hp1
   refine xT0 ?_
   refine JbD ?_
   refine Jn ?_
   refine Jff ?_
   refine JB (Za a8 a9 x8 x14 x15 x16) (fun s=>[(0,.c (.pt 1 0)),(1,.c (.fm (EM Try.prog 52 (cvK x8)))),(2,.c (.d (.v (.int .i64 s.1)))),(5,.c (.d (.v (.bool a8)))),(9,.c (.pt 2 0)),(10,.c (.pt 3 0)),(12,.c (.pt 4 0))]) (fun s=>[[.d (.sl 11 (List.map Jb a9)),.d (.v (.int .i64 s.2.1)),.d (.v (.int .i64 s.2.2.1)),.d (.v (.int .i64 s.2.2.2.1)),.d (.v (.int .i64 s.2.2.2.2.1))],[.d (.v (.int .i64 a2)),.d (.v (.int .i64 a3)),.sl 3 (List.map Jp x14) 5],[.d (.v (.int .i64 x15)),.d (.v (.int .i64 x16)),.sl 3 (List.map Jp s.2.2.2.2.2) 6],[.d (.v (.int .i64 0)),.d (.v (.int .i64 0)),.sl 3 [] 0]]) [26,26] o1 ?_ ?_
   ·refine JB (XZ a8 a9 x8 x9 x10 x11 x12 x13 x14 x15 x16 x17) (fun s=>[(0,.c (.pt 1 0)),(1,.c (.fm (EM Try.prog 52 (cvK x8)))),(2,.c (.d (.v (.int .i64 x9)))),(5,.c (.d (.v (.bool a8)))),(9,.c (.pt 2 0)),(10,.c (.pt 3 0)),(12,.c (.pt 4 0)),(26,.c (.d (.v (.bool s))))]) (fun s=>[[.d (.sl 11 (List.map Jb a9)),.d (.v (.int .i64 x10)),.d (.v (.int .i64 x11)),.d (.v (.int .i64 x12)),.d (.v (.int .i64 x13))],[.d (.v (.int .i64 a2)),.d (.v (.int .i64 a3)),.sl 3 (List.map Jp x14) 5],[.d (.v (.int .i64 x15)),.d (.v (.int .i64 x16)),.sl 3 (List.map Jp x17) 6],[.d (.v (.int .i64 0)),.d (.v (.int .i64 0)),.sl 3 [] 0]]) [26,26] o1 ?_ ?_
    ·rcases Jc H with⟨hp4,H⟩|⟨hp4,H⟩
     ·obtain⟨F,G,hq4⟩:=xH Y G hp4
      obtain⟨r6,hr6,H⟩:=Je H
      have F:=F
      refine xQ ?_
      refine xs 5 ?_
      refine xc ⟨[1],[]⟩ (tabG 2 (JC x9 a9 x10 x11 x12 x13 r6 hr6)) ?_
      refine xs 2 ?_
      refine xl ?_
      refine xS ?_
      exact Jd H (xK ⟨[1,2,3,4],[5,6]⟩)
     ·obtain⟨F,G,hq4⟩:=xH Y G hp4
      refine xR ?_
      exact Jd H (xK ⟨[1,2,3,4],[5,6]⟩)
    ·rintro x24 H
     rw[XZ]at H
     rcases Jc H with⟨hp3,H⟩|⟨hp3,H⟩
     ·obtain⟨F,G,hq3⟩:=xH Y G hp3
      refine xT ?_
      obtain⟨r5,hr5,H⟩:=Je H
      have F:=Y
      refine xQ ?_
      refine xs 4 ?_
      refine xc ⟨[1],[]⟩ (tabG 4 (JaF x8 (IntKind.i64.wrap (x9+1)) 1 a9 x10 x11 x12 x13 r5 hr5)) ?_
      refine xs 6 ?_
      refine xl ?_
      refine xS ?_
      obtain⟨hg2,H⟩:=Jg H
      have F:=xZ Y (XE Z6 [(⟨r5.1,r5.2.1,r5.2.2.1⟩:Node)])
      refine xR ?_
      refine xr ?_
      exact Jd H (xK ⟨[1,2,3,4],[5,10]⟩)
     ·obtain⟨F,G,hq3⟩:=xH Y G hp3
      refine xE ?_
      exact Jd H (xK ⟨[1,2,3,4],[5,6]⟩)
   ·rintro ⟨x18,x19,x20,x21,x22,x23⟩ H
    rw[Za]at H
    refine xS ?_
    obtain⟨hg1,H⟩:=Jg H
    have F:=xZ Y (XE Z6 [(⟨x15,x16,x23⟩:Node)])
    refine xR ?_
    obtain⟨r3,hr3,H⟩:=Je H
    have F:=Y
    refine xQ ?_
    refine xs 2 ?_
    refine xc ⟨[1],[]⟩ (tabG 2 (JC x18 a9 x19 x20 x21 x22 r3 hr3)) ?_
    refine xs 1 ?_
    refine xl ?_
    refine xS ?_
    rcases Jc H with⟨hp2,H⟩|⟨hp2,H⟩
    ·obtain⟨F,G,hq2⟩:=xH Y G hp2
     replace H:=Jq H hF1
     refine xT ?_
     exact Jd H (xK ⟨[1,2,4],[7]⟩)
    ·obtain⟨F,G,hq2⟩:=xH Y G hp2
     refine xE ?_
     obtain⟨r4,hr4,H⟩:=Je H
     have F:=Y
     refine xQ ?_
     refine xs 5 ?_
     refine xc ⟨[1],[]⟩ (tabG 3 (ZH x8 (IntKind.i64.wrap (x18+1)) a8 a9 x19 x20 x21 x22 r4 hr4)) ?_
     refine xs 7 ?_
     refine xl ?_
     refine xS ?_
     exact JJ (J2 H hF1) (xK ⟨[1,2,3,4],[7,10]⟩)
  ·obtain⟨F,G,hq1⟩:=xH Y G hp1
   replace H:=Jq H hF1
   refine xE ?_
   exact Jd H (xK ⟨[1,2,4],[5]⟩)
 ·rintro ⟨x1,x2,x3,x4,x5,x6,x7⟩ H
  rw[X3]at H
  refine xS ?_
  obtain⟨r1,hr1,H⟩:=Je H
  have F:=Y
  refine xP [0,1,2,4,3,5,6,7] [62,888888] ⟨V0,KE,Ks,ZI,JaL,trivial⟩ ?_
  refine xaX ?_
  refine xsX 3 ?_
  refine xcX ⟨[1],[]⟩ (tabG 0 (KM x2 [59] a9 x3 x4 x5 x6 r1 hr1)) ?_
  refine xsX 3 ?_
  refine xlX ?_
  replace H:=Option.some.inj H
  refine xS ?_
  subst H
  refine xrD [] ?_
  exact xO ⟨[1],[4]⟩
theorem JfJ:Jf Try.prog 35∧(∀ g,Zt g→Jx Try.prog 35 g)∧(true=true→∀ g,Zt g→∃ val bs ts,g.out=.ret val bs ts) :=
 ⟨JtN,Ji0,fun _=>by rintro _ ⟨_,_,_,_,_,_,_,_,_,_,_,_,_,_,_,_,rfl⟩; exact⟨_,_,_,rfl⟩⟩
noncomputable def XX(a0:EB)(a2:List Token)(a3:Int)(a4:Int)(a5:Int)(a6:Int):(Int×Bool)→Option (Int×Int×(List Node)×Int×EB×Int×Int×Int×Int)
 | (x1,x2)=>(Xd a0 x1 a2 a3 a4 a5 a6).bind fun r2=>(JO a2 r2.2.1 r2.2.2.1 r2.2.2.2 a6).bind fun r3=>if(!r3)=true then some (16,x1,([]:List Node),r2.1,a0,r2.2.1,r2.2.2.1,r2.2.2.2,a6) else(KI a0 r2.1 x2 a2 r2.2.1 r2.2.2.1 r2.2.2.2 a6).bind fun r4=>(JbP r4.2.2.2.1 r4.2.2.1 2 (-1) [(⟨16,x1,([]:List Node)⟩:Node)] 4 r4.1 r4.2.1 x2 a2 r4.2.2.2.2.1 r4.2.2.2.2.2.1 r4.2.2.2.2.2.2.1 r4.2.2.2.2.2.2.2).bind fun r5=>some (2,(-1),r5.1,r5.2.1,r5.2.2.1,r5.2.2.2.1,r5.2.2.2.2.1,r5.2.2.2.2.2.1,r5.2.2.2.2.2.2)
noncomputable def Zu(a0:EB)(a1:Int)(a2:List Token)(a3:Int)(a4:Int)(a5:Int)(a6:Int):Option (Int×Int×(List Node)×Int×EB×Int×Int×Int×Int) :=
 (Jz a1 a2 a3 a4 a5 a6).bind fun r1=>if(eqS r1 [116,121,112,101,100,101,102])=true then XX a0 a2 a3 a4 a5 a6 (IntKind.i64.wrap (a1+1),true) else XX a0 a2 a3 a4 a5 a6 (a1,false)
noncomputable def Zs(a0:EB)(a1:Int)(a2:List Token)(a3:Int)(a4:Int)(a5:Int)(a6:Int)(r:(Int×Int×(List Node)×Int×EB×Int×Int×Int×Int)):GI :=
 ⟨[.c (.pt 1 0),.c (.fm (EM Try.prog 52 (cvK a0))),.c (.d (.v (.int .i64 a1)))],[[.d (.sl 11 (List.map Jb a2)),.d (.v (.int .i64 a3)),.d (.v (.int .i64 a4)),.d (.v (.int .i64 a5)),.d (.v (.int .i64 a6))]],[],.ret (.tu [(true,[.d (.v (.int .i64 r.1)),.d (.v (.int .i64 r.2.1)),.sl 3 (List.map Jp r.2.2.1) 2]),(false,[.d (.v (.int .i64 r.2.2.2.1))]),(false,[.fm (EM Try.prog 52 (cvK r.2.2.2.2.1))])]) [[.d (.sl 11 (List.map Jb a2)),.d (.v (.int .i64 r.2.2.2.2.2.1)),.d (.v (.int .i64 r.2.2.2.2.2.2.1)),.d (.v (.int .i64 r.2.2.2.2.2.2.2.1)),.d (.v (.int .i64 r.2.2.2.2.2.2.2.2))]] [26]⟩
def Zz:GI→Prop:=fun g=>∃ (a0:EB) (a1:Int) (a2:List Token) (a3:Int) (a4:Int) (a5:Int) (a6:Int) (r:(Int×Int×(List Node)×Int×EB×Int×Int×Int×Int)),Zu a0 a1 a2 a3 a4 a5 a6=some r∧g=Zs a0 a1 a2 a3 a4 a5 a6 r
theorem JfA(a0:EB)(a1:Int)(a2:List Token)(a3:Int)(a4:Int)(a5:Int)(a6:Int)(r:(Int×Int×(List Node)×Int×EB×Int×Int×Int×Int))(H:Zu a0 a1 a2 a3 a4 a5 a6=some r):Zz (Zs a0 a1 a2 a3 a4 a5 a6 r):=⟨a0,a1,a2,a3,a4,a5,a6,r,H,rfl⟩
theorem JiU:∀ g,Zz g→Jx Try.prog 32 g:=by
 rintro _ ⟨a0,a1,a2,a3,a4,a5,a6,r,H,rfl⟩
 refine xGn mixed [] [(31,true,J6),(33,true,Zp),(16,true,KA),(34,true,K8),(35,true,Zt)] [] trivial ⟨Ks,JfF,KE,ZI,JfJ,trivial⟩ trivial Try.func32 _ ?_
 have G:=True.intro
 have Y:=xZ y_3 <| xZ y_24 <| xZ y_26 <| xZ Try.results32 <| xZ J9.eq_1 <| xZ Jb.eq_1 <| xZ Vl <| xZ Kf.eq_1 <| xZ J5.eq_1 <| xZ ZF.eq_1 <| xZ KC.eq_1 <| xZ Va.eq_1 <| xZ Zx.eq_1 <| Zs.eq_1
 dsimp only[Zs]
 simp only[Zu]at H
 refine xS ?_
 refine xr ?_
 obtain⟨r1,hr1,H⟩:=Je H
 have F:=Y
 refine xQ ?_
 refine xs 2 ?_
 refine xc ⟨[1],[]⟩ (tabG 0 (JC a1 a2 a3 a4 a5 a6 r1 hr1)) ?_
 refine xs 2 ?_
 refine xl ?_
 refine  ?_
 refine Jn ?_
 refine JB (XX a0 a2 a3 a4 a5 a6) (fun s=>[(0,.c (.pt 1 0)),(1,.c (.fm (EM Try.prog 52 (cvK a0)))),(2,.c (.d (.v (.int .i64 s.1)))),(6,.c (.pt 2 0)),(9,.c (.d (.v (.bool s.2))))]) (fun s=>[[.d (.sl 11 (List.map Jb a2)),.d (.v (.int .i64 a3)),.d (.v (.int .i64 a4)),.d (.v (.int .i64 a5)),.d (.v (.int .i64 a6))],[.d (.v (.int .i64 0)),.d (.v (.int .i64 0)),.sl 3 [] 0]]) [] r ?_ ?_
 ·refine xS ?_
  refine xr ?_
  rcases Jc H with⟨hp2,H⟩|⟨hp2,H⟩
  ·obtain⟨F,G,hq2⟩:=xH Y G hp2
   refine xT ?_
   refine xr ?_
   exact Jd H (xK ⟨[1,2],[]⟩)
  ·obtain⟨F,G,hq2⟩:=xH Y G hp2
   refine xE ?_
   exact Jd H (xK ⟨[1,2],[]⟩)
 ·rintro ⟨x1,x2⟩ H
  rw[XX]at H
  refine xS ?_
  obtain⟨r2,hr2,H⟩:=Je H
  have F:=Y
  refine xQ ?_
  refine xs 3 ?_
  refine xc ⟨[1],[]⟩ (tabG 1 (Jdp a0 x1 a2 a3 a4 a5 a6 r2 hr2)) ?_
  refine xs 6 ?_
  refine xl ?_
  refine xS ?_
  obtain⟨r3,hr3,H⟩:=Je H
  have F:=Y
  refine xQ ?_
  refine xs 1 ?_
  refine xc ⟨[1],[]⟩ (tabG 2 (JE a2 r2.2.1 r2.2.2.1 r2.2.2.2 a6 r3 hr3)) ?_
  refine xs 1 ?_
  refine xl ?_
  refine xS ?_
  rcases Jc H with⟨hp1,H⟩|⟨hp1,H⟩
  ·obtain⟨F,G,hq1⟩:=xH Y G hp1
   refine xT ?_
   replace H:=Option.some.inj H
   refine xr ?_
   subst H
   refine xrD [] ?_
   exact xO ⟨[1],[0]⟩
  ·obtain⟨F,G,hq1⟩:=xH Y G hp1
   refine xE ?_
   obtain⟨r4,hr4,H⟩:=Je H
   have F:=Y
   refine xQ ?_
   refine xs 4 ?_
   refine xc ⟨[1],[]⟩ (tabG 3 (ZH a0 r2.1 x2 a2 r2.2.1 r2.2.2.1 r2.2.2.2 a6 r4 hr4)) ?_
   refine xs 8 ?_
   refine xl ?_
   refine xS ?_
   obtain⟨r5,hr5,H⟩:=Je H
   have F:=Y
   refine xQ ?_
   refine xs 8 ?_
   refine xc ⟨[1],[0,7]⟩ (tabG 4 (JfE r4.2.2.2.1 r4.2.2.1 2 (-1) [(⟨16,x1,([]:List Node)⟩:Node)] 4 r4.1 r4.2.1 x2 a2 r4.2.2.2.2.1 r4.2.2.2.2.2.1 r4.2.2.2.2.2.2.1 r4.2.2.2.2.2.2.2 r5 hr5)) ?_
   refine xs 6 ?_
   refine xl ?_
   replace H:=Option.some.inj H
   refine xS ?_
   subst H
   refine xrD [] ?_
   exact xO ⟨[1],[10]⟩
theorem Jfq:Jf Try.prog 32∧(∀ g,Zz g→Jx Try.prog 32 g)∧(true=true→∀ g,Zz g→∃ val bs ts,g.out=.ret val bs ts) :=
 ⟨Ju2,JiU,fun _=>by rintro _ ⟨_,_,_,_,_,_,_,_,_,rfl⟩; exact⟨_,_,_,rfl⟩⟩
noncomputable def Xi(a0:EB)(a1:Int)(a2:List Token)(a3:Int)(a4:Int)(a5:Int)(a6:Int)(r:((List Node)×Int×Int×Int×Int×Int)):GI :=
 ⟨[.c (.pt 1 0),.c (.fm (EM Try.prog 52 (cvK a0))),.c (.d (.v (.int .i64 a1)))],[[.d (.sl 11 (List.map Jb a2)),.d (.v (.int .i64 a3)),.d (.v (.int .i64 a4)),.d (.v (.int .i64 a5)),.d (.v (.int .i64 a6))]],[],.ret (.tu [(true,[.d (.v (.int .i64 5)),.d (.v (.int .i64 (-1))),.sl 3 (List.map Jp r.1) 2]),(false,[.d (.v (.int .i64 r.2.1))])]) [[.d (.sl 11 (List.map Jb a2)),.d (.v (.int .i64 r.2.2.1)),.d (.v (.int .i64 r.2.2.2.1)),.d (.v (.int .i64 r.2.2.2.2.1)),.d (.v (.int .i64 r.2.2.2.2.2))]] [26]⟩
def VV(q:EB→Int→(List Token)→Int→Int→Int→Int→Option ((List Node)×Int×Int×Int×Int×Int)):GI→Prop:=fun g=>∃ (a0:EB) (a1:Int) (a2:List Token) (a3:Int) (a4:Int) (a5:Int) (a6:Int) (r:((List Node)×Int×Int×Int×Int×Int)),q a0 a1 a2 a3 a4 a5 a6=some r∧g=Xi a0 a1 a2 a3 a4 a5 a6 r
theorem JeL(q:EB→Int→(List Token)→Int→Int→Int→Int→Option ((List Node)×Int×Int×Int×Int×Int))(a0:EB)(a1:Int)(a2:List Token)(a3:Int)(a4:Int)(a5:Int)(a6:Int)(r:((List Node)×Int×Int×Int×Int×Int))(H:q a0 a1 a2 a3 a4 a5 a6=some r):VV q (Xi a0 a1 a2 a3 a4 a5 a6 r):=⟨a0,a1,a2,a3,a4,a5,a6,r,H,rfl⟩
noncomputable def Zv(a0:EB)(a1:Int)(a2:List Token)(a3:Int)(a4:Int)(a5:Int)(a6:Int)(r:(Int×Int×(List Node)×Int×EB×Int×Int×Int×Int)):GI :=
 ⟨[.c (.pt 1 0),.c (.fm (EM Try.prog 52 (cvK a0))),.c (.d (.v (.int .i64 a1)))],[[.d (.sl 11 (List.map Jb a2)),.d (.v (.int .i64 a3)),.d (.v (.int .i64 a4)),.d (.v (.int .i64 a5)),.d (.v (.int .i64 a6))]],[],.ret (.tu [(true,[.d (.v (.int .i64 r.1)),.d (.v (.int .i64 r.2.1)),.sl 3 (List.map Jp r.2.2.1) 2]),(false,[.d (.v (.int .i64 r.2.2.2.1))]),(false,[.fm (EM Try.prog 52 (cvK r.2.2.2.2.1))])]) [[.d (.sl 11 (List.map Jb a2)),.d (.v (.int .i64 r.2.2.2.2.2.1)),.d (.v (.int .i64 r.2.2.2.2.2.2.1)),.d (.v (.int .i64 r.2.2.2.2.2.2.2.1)),.d (.v (.int .i64 r.2.2.2.2.2.2.2.2))]] [26]⟩
def Xn(q:EB→Int→(List Token)→Int→Int→Int→Int→Option (Int×Int×(List Node)×Int×EB×Int×Int×Int×Int)):GI→Prop:=fun g=>∃ (a0:EB) (a1:Int) (a2:List Token) (a3:Int) (a4:Int) (a5:Int) (a6:Int) (r:(Int×Int×(List Node)×Int×EB×Int×Int×Int×Int)),q a0 a1 a2 a3 a4 a5 a6=some r∧g=Zv a0 a1 a2 a3 a4 a5 a6 r
theorem Je1(q:EB→Int→(List Token)→Int→Int→Int→Int→Option (Int×Int×(List Node)×Int×EB×Int×Int×Int×Int))(a0:EB)(a1:Int)(a2:List Token)(a3:Int)(a4:Int)(a5:Int)(a6:Int)(r:(Int×Int×(List Node)×Int×EB×Int×Int×Int×Int))(H:q a0 a1 a2 a3 a4 a5 a6=some r):Xn q (Zv a0 a1 a2 a3 a4 a5 a6 r):=⟨a0,a1,a2,a3,a4,a5,a6,r,H,rfl⟩
noncomputable def V1:(Int×Int×Int×Int×Int×(List Node))→Option ((List Node)×Int×Int×Int×Int×Int)
 | (x1,x2,x3,x4,x5,x6)=>some (x6,IntKind.i64.wrap (x1+1),x2,x3,x4,IntKind.i64.wrap (x5-1))
noncomputable def XO(q2:EB→Int→(List Token)→Int→Int→Int→Int→Option (Int×Int×(List Node)×Int×EB×Int×Int×Int×Int))(a2:List Token)(x7:EB)(x8:Int)(x9:Int)(x10:Int)(x11:Int)(x12:Int)(x13:List Node):Bool→Option ((EB×Int×Int×Int×Int×Int×(List Node)) ⊕ ((List Node)×Int×Int×Int×Int×Int))
 | x14=>if x14=true then if(leI (a2.length:Int) x8)=true then(Vn x8 9 a2 x9 x10 x11 x12).bind fun r3=>inrO (V1 (x8,r3.1,r3.2.1,r3.2.2,x12,x13)) else(q2 x7 x8 a2 x9 x10 x11 x12).bind fun r4=>if(x13.length + [(⟨r4.1,r4.2.1,r4.2.2.1⟩:Node)].length) * 40≤140737488355328 then some (.inl (r4.2.2.2.2.1,r4.2.2.2.1,r4.2.2.2.2.2.1,r4.2.2.2.2.2.2.1,r4.2.2.2.2.2.2.2.1,r4.2.2.2.2.2.2.2.2,x13++[(⟨r4.1,r4.2.1,r4.2.2.1⟩:Node)])) else none else inrO (V1 (x8,x9,x10,x11,x12,x13))
noncomputable def ZT(q2:EB→Int→(List Token)→Int→Int→Int→Int→Option (Int×Int×(List Node)×Int×EB×Int×Int×Int×Int))(a2:List Token):(EB×Int×Int×Int×Int×Int×(List Node))→Option ((EB×Int×Int×Int×Int×Int×(List Node)) ⊕ ((List Node)×Int×Int×Int×Int×Int))
 | (x7,x8,x9,x10,x11,x12,x13)=>(JO a2 x9 x10 x11 x12).bind fun r5=>if r5=true then(Jz x8 a2 x9 x10 x11 x12).bind fun r6=>XO q2 a2 x7 x8 x9 x10 x11 x12 x13 (!eqS r6 [125]) else XO q2 a2 x7 x8 x9 x10 x11 x12 x13 false
noncomputable def Jao(q1:EB→Int→(List Token)→Int→Int→Int→Int→Option ((List Node)×Int×Int×Int×Int×Int))(q2:EB→Int→(List Token)→Int→Int→Int→Int→Option (Int×Int×(List Node)×Int×EB×Int×Int×Int×Int))(a0:EB)(a1:Int)(a2:List Token)(a3:Int)(a4:Int)(a5:Int)(a6:Int):Option ((List Node)×Int×Int×Int×Int×Int) :=
 (KJ a1 a2 a3 a4 a5 a6).bind fun r1=>if(!r1.1)=true then some (([]:List Node),a1,r1.2.1,r1.2.2.1,r1.2.2.2.1,r1.2.2.2.2) else(JL a1 [123] a2 r1.2.1 r1.2.2.1 r1.2.2.2.1 r1.2.2.2.2).bind fun r2=>Ju (ZT q2 a2) (a0,r2.1,r2.2.1,r2.2.2.1,r2.2.2.2,r1.2.2.2.2,([]:List Node))
theorem Jhp(q1:EB→Int→(List Token)→Int→Int→Int→Int→Option ((List Node)×Int×Int×Int×Int×Int))(q2:EB→Int→(List Token)→Int→Int→Int→Int→Option (Int×Int×(List Node)×Int×EB×Int×Int×Int×Int))(kq1:Kok Try.prog 37 true (VV q1))(kq2:Kok Try.prog 62 true (Xn q2)):∀ g,VV (Jao q1 q2) g→Jx Try.prog 37 g:=by
 rintro _ ⟨a0,a1,a2,a3,a4,a5,a6,r,H,rfl⟩
 refine xGn mixed [] [(61,true,VN),(36,true,Vd),(57,true,Vf),(62,true,(Xn q2)),(16,true,KA),(31,true,J6)] [] trivial ⟨Jbx,V0,ZE,kq2,KE,Ks,trivial⟩ trivial Try.func37 _ ?_
 have G:=True.intro
 have Y:=xZ y_3 <| xZ y_22 <| xZ y_24 <| xZ y_26 <| xZ y_44 <| xZ y_50 <| xZ Try.results37 <| xZ J9.eq_1 <| xZ Jb.eq_1 <| xZ Vl <| xZ Kf.eq_1 <| xZ VI.eq_1 <| xZ K9.eq_1 <| xZ Vb.eq_1 <| xZ Zv.eq_1 <| xZ KC.eq_1 <| xZ J5.eq_1 <| Xi.eq_1
 dsimp only[Xi]
 simp only[Jao]at H
 refine xS ?_
 refine xr ?_
 refine xr ?_
 obtain⟨r1,hr1,H⟩:=Je H
 have F:=Y
 refine xQ ?_
 refine xs 2 ?_
 refine xc ⟨[1],[]⟩ (tabG 0 (JbC a1 a2 a3 a4 a5 a6 r1 hr1)) ?_
 refine xs 1 ?_
 refine xl ?_
 refine xS ?_
 rcases Jc H with⟨hp1,H⟩|⟨hp1,H⟩
 ·obtain⟨F,G,hq1⟩:=xH Y G hp1
  refine xT ?_
  replace H:=Option.some.inj H
  refine xr ?_
  subst H
  refine xrD [] ?_
  exact xO ⟨[1],[0]⟩
 ·obtain⟨F,G,hq1⟩:=xH Y G hp1
  refine xE ?_
  obtain⟨r2,hr2,H⟩:=Je H
  have F:=Y
  refine xQ ?_
  refine xs 2 ?_
  refine xc ⟨[1],[]⟩ (tabG 1 (KM a1 [123] a2 r1.2.1 r1.2.2.1 r1.2.2.2.1 r1.2.2.2.2 r2 hr2)) ?_
  refine xs 1 ?_
  refine xl ?_
  refine  ?_
  refine Jn ?_
  refine JB V1 (fun s=>[(0,.c (.pt 1 0)),(2,.c (.d (.v (.int .i64 s.1)))),(6,.c (.pt 2 0)),(8,.c (.pt 3 0))]) (fun s=>[[.d (.sl 11 (List.map Jb a2)),.d (.v (.int .i64 s.2.1)),.d (.v (.int .i64 s.2.2.1)),.d (.v (.int .i64 s.2.2.2.1)),.d (.v (.int .i64 s.2.2.2.2.1))],[.d (.v (.int .i64 0)),.d (.v (.int .i64 0)),.sl 3 [] 0],[.d (.v (.int .i64 5)),.d (.v (.int .i64 (-1))),.sl 3 (List.map Jp s.2.2.2.2.2) 4]]) [26] r ?_ ?_
  ·refine xS ?_
   refine KH (ZT q2 a2) (fun s=>[(0,.c (.pt 1 0)),(1,.c (.fm (EM Try.prog 52 (cvK s.1)))),(2,.c (.d (.v (.int .i64 s.2.1)))),(6,.c (.pt 2 0)),(8,.c (.pt 3 0))]) (fun s=>[[.d (.sl 11 (List.map Jb a2)),.d (.v (.int .i64 s.2.2.1)),.d (.v (.int .i64 s.2.2.2.1)),.d (.v (.int .i64 s.2.2.2.2.1)),.d (.v (.int .i64 s.2.2.2.2.2.1))],[.d (.v (.int .i64 0)),.d (.v (.int .i64 0)),.sl 3 [] 0],[.d (.v (.int .i64 5)),.d (.v (.int .i64 (-1))),.sl 3 (List.map Jp s.2.2.2.2.2.2) 4]]) [26] H (xK ⟨[1,2,3],[0]⟩) ?_
   rintro n1 ⟨x7,x8,x9,x10,x11,x12,x13⟩ o1 H hF1
   rw[ZT]at H
   refine XV ?_
   refine JB (XO q2 a2 x7 x8 x9 x10 x11 x12 x13) (fun s=>[(0,.c (.pt 1 0)),(1,.c (.fm (EM Try.prog 52 (cvK x7)))),(2,.c (.d (.v (.int .i64 x8)))),(6,.c (.pt 2 0)),(8,.c (.pt 3 0)),(29,.c (.d (.v (.bool s))))]) (fun s=>[[.d (.sl 11 (List.map Jb a2)),.d (.v (.int .i64 x9)),.d (.v (.int .i64 x10)),.d (.v (.int .i64 x11)),.d (.v (.int .i64 x12))],[.d (.v (.int .i64 0)),.d (.v (.int .i64 0)),.sl 3 [] 0],[.d (.v (.int .i64 5)),.d (.v (.int .i64 (-1))),.sl 3 (List.map Jp x13) 4]]) [26] o1 ?_ ?_
   ·obtain⟨r5,hr5,H⟩:=Je H
    have F:=Y
    rcases Jc H with⟨hp4,H⟩|⟨hp4,H⟩
    ·obtain⟨F,G,hq4⟩:=xH F G hp4
     obtain⟨r6,hr6,H⟩:=Je H
     have F:=F
     refine xQ ?_
     refine xs 1 ?_
     refine xc ⟨[1],[]⟩ (tabG 4 (JE a2 x9 x10 x11 x12 r5 hr5)) ?_
     refine xs 3 ?_
     refine xc ⟨[1],[]⟩ (tabG 5 (JC x8 a2 x9 x10 x11 x12 r6 hr6)) ?_
     refine xs 2 ?_
     refine xl ?_
     refine xS ?_
     exact Jd H (xK ⟨[1,2,3],[4]⟩)
    ·obtain⟨F,G,hq4⟩:=xH F G hp4
     refine xQ ?_
     refine xs 1 ?_
     refine xc ⟨[1],[]⟩ (tabG 4 (JE a2 x9 x10 x11 x12 r5 hr5)) ?_
     refine xs 6 ?_
     refine xl ?_
     refine xS ?_
     exact Jd H (xK ⟨[1,2,3],[4]⟩)
   ·rintro x14 H
    rw[XO]at H
    rcases Jc H with⟨hp2,H⟩|⟨hp2,H⟩
    ·obtain⟨F,G,hq2⟩:=xH Y G hp2
     refine xT ?_
     refine xr ?_
     rcases Jc H with⟨hp3,H⟩|⟨hp3,H⟩
     ·obtain⟨F,G,hq3⟩:=xH Y G hp3
      refine xT ?_
      obtain⟨r3,hr3,H⟩:=Je H
      have F:=Y
      refine xQ ?_
      refine xs 2 ?_
      refine xc ⟨[1],[]⟩ (tabG 2 (Zw x8 9 a2 x9 x10 x11 x12 r3 hr3)) ?_
      refine xl ?_
      replace H:=Jq H hF1
      refine xS ?_
      exact Jd H (xK ⟨[1,2,3],[4]⟩)
     ·obtain⟨F,G,hq3⟩:=xH Y G hp3
      refine xE ?_
      obtain⟨r4,hr4,H⟩:=Je H
      have F:=Y
      refine xQ ?_
      refine xs 3 ?_
      refine xc ⟨[1],[]⟩ (tabG 3 (Je1 q2 x7 x8 a2 x9 x10 x11 x12 r4 hr4)) ?_
      refine xs 8 ?_
      refine xl ?_
      refine xS ?_
      obtain⟨hg1,H⟩:=Jg H
      have F:=xZ Y (XE Z6 [(⟨r4.1,r4.2.1,r4.2.2.1⟩:Node)])
      refine xR ?_
      refine xr ?_
      exact JJ (J2 H hF1) (xK ⟨[1,2,3],[8]⟩)
    ·obtain⟨F,G,hq2⟩:=xH Y G hp2
     replace H:=Jq H hF1
     refine xE ?_
     exact Jd H (xK ⟨[1,2,3],[4]⟩)
  ·rintro ⟨x1,x2,x3,x4,x5,x6⟩ H
   rw[V1]at H
   refine xS ?_
   refine xr ?_
   replace H:=Option.some.inj H
   refine xr ?_
   subst H
   refine xrD [] ?_
   exact xO ⟨[1],[4]⟩
noncomputable def Kg:(EB×Int×Int×Int×Int×Int×Int×Int×(List Node))→Option (Int×Int×(List Node)×Int×EB×Int×Int×Int×Int)
 | (x1,x2,x3,x4,x5,x6,x7,x8,x9)=>some (x7,x8,x9,x2,x1,x3,x4,x5,IntKind.i64.wrap (x6-1))
noncomputable def VL(a0:EB)(x16:Int)(x17:Int)(r8:(Int×Int×(List Node)×Int×EB×Int×Int×Int×Int)):(Bool×(List Node))→Option ((Int×Int×Int×Int×Int×Int×Int×(List Node)) ⊕ (Int×Int×(List Node)×Int×EB×Int×Int×Int×Int))
 | (x19,x20)=>if x19=true then inrO (Kg (a0,r8.2.2.2.1,r8.2.2.2.2.2.1,r8.2.2.2.2.2.2.1,r8.2.2.2.2.2.2.2.1,r8.2.2.2.2.2.2.2.2,x16,x17,x20)) else some (.inl (IntKind.i64.wrap (r8.2.2.2.1+1),r8.2.2.2.2.2.1,r8.2.2.2.2.2.2.1,r8.2.2.2.2.2.2.2.1,r8.2.2.2.2.2.2.2.2,x16,x17,x20))
noncomputable def Zd(q2:EB→Int→(List Token)→Int→Int→Int→Int→Option (Int×Int×(List Node)×Int×EB×Int×Int×Int×Int))(a0:EB)(a2:List Token)(r2:(List UInt8)):(Int×Int×Int×Int×Int×Int×Int×(List Node))→Option ((Int×Int×Int×Int×Int×Int×Int×(List Node)) ⊕ (Int×Int×(List Node)×Int×EB×Int×Int×Int×Int))
 | (x11,x12,x13,x14,x15,x16,x17,x18)=>(JO a2 x12 x13 x14 x15).bind fun r7=>if r7=true then(q2 a0 x11 a2 x12 x13 x14 x15).bind fun r8=>if(x18.length + [(⟨r8.1,r8.2.1,r8.2.2.1⟩:Node)].length) * 40≤140737488355328 then if(eqS r2 [119,104,105,108,101])=true then VL a0 x16 x17 r8 (true,x18++[(⟨r8.1,r8.2.1,r8.2.2.1⟩:Node)]) else if(ltI 2 ((x18++[(⟨r8.1,r8.2.1,r8.2.2.1⟩:Node)]).length:Int))=true then VL a0 x16 x17 r8 (true,x18++[(⟨r8.1,r8.2.1,r8.2.2.1⟩:Node)]) else(Jz r8.2.2.2.1 a2 r8.2.2.2.2.2.1 r8.2.2.2.2.2.2.1 r8.2.2.2.2.2.2.2.1 r8.2.2.2.2.2.2.2.2).bind fun r9=>VL a0 x16 x17 r8 (!eqS r9 [101,108,115,101],x18++[(⟨r8.1,r8.2.1,r8.2.2.1⟩:Node)]) else none else inrO (Kg (a0,x11,x12,x13,x14,x15,x16,x17,x18))
noncomputable def Jag(a0:EB)(a2:List Token):(Int×Int×Int×Int×Int×(List Node))→Option (Int×Int×(List Node)×Int×EB×Int×Int×Int×Int)
 | (x21,x22,x23,x24,x25,x26)=>(JL x21 [59] a2 x22 x23 x24 x25).bind fun r10=>Kg (a0,r10.1,r10.2.1,r10.2.2.1,r10.2.2.2,x25,8,(-1),x26)
noncomputable def Jai(a0:EB)(a2:List Token):(Int×Int×Int×Int×Int×(List Node))→Option (Int×Int×(List Node)×Int×EB×Int×Int×Int×Int)
 | (x28,x29,x30,x31,x32,x33)=>(JL x28 [59] a2 x29 x30 x31 x32).bind fun r14=>Kg (a0,r14.1,r14.2.1,r14.2.2.1,r14.2.2.2,x32,9,(-1),x33)
noncomputable def Xk(a0:EB)(a1:Int)(a2:List Token)(r1:(Bool×Int×Int×Int×Int))(r2:(List UInt8)):Bool→Option (Int×Int×(List Node)×Int×EB×Int×Int×Int×Int)
 | x27=>if x27=true then(Zu a0 a1 a2 r1.2.1 r1.2.2.1 r1.2.2.2.1 r1.2.2.2.2).bind fun r13=>Kg (r13.2.2.2.2.1,r13.2.2.2.1,r13.2.2.2.2.2.1,r13.2.2.2.2.2.2.1,r13.2.2.2.2.2.2.2.1,r13.2.2.2.2.2.2.2.2,r13.1,r13.2.1,r13.2.2.1) else if(!eqS r2 [59])=true then(K0 a0 a1 0 a2 r1.2.1 r1.2.2.1 r1.2.2.2.1 r1.2.2.2.2).bind fun r15=>if(([]:List Node).length + [(⟨r15.1,r15.2.1,r15.2.2.1⟩:Node)].length) * 40≤140737488355328 then Jai a0 a2 (r15.2.2.2.1,r15.2.2.2.2.1,r15.2.2.2.2.2.1,r15.2.2.2.2.2.2.1,r15.2.2.2.2.2.2.2,([]:List Node)++[(⟨r15.1,r15.2.1,r15.2.2.1⟩:Node)]) else none else Jai a0 a2 (a1,r1.2.1,r1.2.2.1,r1.2.2.2.1,r1.2.2.2.2,([]:List Node))
noncomputable def Xj(q2:EB→Int→(List Token)→Int→Int→Int→Int→Option (Int×Int×(List Node)×Int×EB×Int×Int×Int×Int))(a0:EB)(a1:Int)(a2:List Token)(r1:(Bool×Int×Int×Int×Int))(r2:(List UInt8)):Bool→Option (Int×Int×(List Node)×Int×EB×Int×Int×Int×Int)
 | x10=>if x10=true then if r2.length≤9223372036854775807 then(JL (IntKind.i64.wrap (a1+1)) [40] a2 r1.2.1 r1.2.2.1 r1.2.2.2.1 r1.2.2.2.2).bind fun r4=>(K0 a0 r4.1 0 a2 r4.2.1 r4.2.2.1 r4.2.2.2 r1.2.2.2.2).bind fun r5=>(JL r5.2.2.2.1 [41] a2 r5.2.2.2.2.1 r5.2.2.2.2.2.1 r5.2.2.2.2.2.2.1 r5.2.2.2.2.2.2.2).bind fun r6=>if(([]:List Node).length + [(⟨r5.1,r5.2.1,r5.2.2.1⟩:Node)].length) * 40≤140737488355328 then Ju (Zd q2 a0 a2 r2) (r6.1,r6.2.1,r6.2.2.1,r6.2.2.2,r5.2.2.2.2.2.2.2,ifK r2,(-1),([]:List Node)++[(⟨r5.1,r5.2.1,r5.2.2.1⟩:Node)]) else none else none else if(eqS r2 [114,101,116,117,114,110])=true then(Jz (IntKind.i64.wrap (a1+1)) a2 r1.2.1 r1.2.2.1 r1.2.2.2.1 r1.2.2.2.2).bind fun r11=>if(!eqS r11 [59])=true then(K0 a0 (IntKind.i64.wrap (a1+1)) 0 a2 r1.2.1 r1.2.2.1 r1.2.2.2.1 r1.2.2.2.2).bind fun r12=>if(([]:List Node).length + [(⟨r12.1,r12.2.1,r12.2.2.1⟩:Node)].length) * 40≤140737488355328 then Jag a0 a2 (r12.2.2.2.1,r12.2.2.2.2.1,r12.2.2.2.2.2.1,r12.2.2.2.2.2.2.1,r12.2.2.2.2.2.2.2,([]:List Node)++[(⟨r12.1,r12.2.1,r12.2.2.1⟩:Node)]) else none else Jag a0 a2 (IntKind.i64.wrap (a1+1),r1.2.1,r1.2.2.1,r1.2.2.2.1,r1.2.2.2.2,([]:List Node)) else if(eqS r2 [116,121,112,101,100,101,102])=true then Xk a0 a1 a2 r1 r2 true else(Xw a0 a1 a2 r1.2.1 r1.2.2.1 r1.2.2.2.1 r1.2.2.2.2).bind fun r16=>Xk a0 a1 a2 r1 r2 r16
noncomputable def JaR(q1:EB→Int→(List Token)→Int→Int→Int→Int→Option ((List Node)×Int×Int×Int×Int×Int))(q2:EB→Int→(List Token)→Int→Int→Int→Int→Option (Int×Int×(List Node)×Int×EB×Int×Int×Int×Int))(a0:EB)(a1:Int)(a2:List Token)(a3:Int)(a4:Int)(a5:Int)(a6:Int):Option (Int×Int×(List Node)×Int×EB×Int×Int×Int×Int) :=
 (KJ a1 a2 a3 a4 a5 a6).bind fun r1=>if(!r1.1)=true then some (0,0,([]:List Node),a1,a0,r1.2.1,r1.2.2.1,r1.2.2.2.1,r1.2.2.2.2) else(Jz a1 a2 r1.2.1 r1.2.2.1 r1.2.2.2.1 r1.2.2.2.2).bind fun r2=>if(eqS r2 [123])=true then(q1 a0 a1 a2 r1.2.1 r1.2.2.1 r1.2.2.2.1 r1.2.2.2.2).bind fun r3=>Kg (a0,r3.2.1,r3.2.2.1,r3.2.2.2.1,r3.2.2.2.2.1,r3.2.2.2.2.2,5,(-1),r3.1) else if(eqS r2 [105,102])=true then Xj q2 a0 a1 a2 r1 r2 true else Xj q2 a0 a1 a2 r1 r2 (eqS r2 [119,104,105,108,101])
theorem Jip(q1:EB→Int→(List Token)→Int→Int→Int→Int→Option ((List Node)×Int×Int×Int×Int×Int))(q2:EB→Int→(List Token)→Int→Int→Int→Int→Option (Int×Int×(List Node)×Int×EB×Int×Int×Int×Int))(kq1:Kok Try.prog 37 true (VV q1))(kq2:Kok Try.prog 62 true (Xn q2)):∀ g,Xn (JaR q1 q2) g→Jx Try.prog 62 g:=by
 rintro _ ⟨a0,a1,a2,a3,a4,a5,a6,r,H,rfl⟩
 refine xGnl mixed [1000179] [] [(61,true,VN),(31,true,J6),(37,true,(VV q1)),(36,true,Vd),(59,true,JaJ),(16,true,KA),(62,true,(Xn q2)),(32,true,Zz),(56,true,XI)] [] trivial ⟨Jbx,Ks,kq1,V0,JaL,KE,kq2,Jfq,JeM,trivial⟩ trivial Try.func62 _ ?_
 have G:=True.intro
 have Y:=xZ y_3 <| xZ y_24 <| xZ y_26 <| xZ y_50 <| xZ Try.results62 <| xZ J9.eq_1 <| xZ Jb.eq_1 <| xZ Vl <| xZ Kf.eq_1 <| xZ VI.eq_1 <| xZ J5.eq_1 <| xZ Xi.eq_1 <| xZ K9.eq_1 <| xZ Vc.eq_1 <| xZ KC.eq_1 <| xZ Zv.eq_1 <| xZ Zs.eq_1 <| xZ XD.eq_1 <| xZ Zv.eq_1 <| xZ JdH <| xZ Jcz <| xZ Jcy <| xZ JdG <| xZ JdD <| xZ JcG <| xZ JcA <| JdF
 dsimp only[Zv]
 simp only[JaR]at H
 refine xS ?_
 refine xr ?_
 obtain⟨r1,hr1,H⟩:=Je H
 have F:=Y
 refine xQ ?_
 refine xs 2 ?_
 refine xc ⟨[1],[]⟩ (tabG 0 (JbC a1 a2 a3 a4 a5 a6 r1 hr1)) ?_
 refine xs 1 ?_
 refine xl ?_
 refine xS ?_
 rcases Jc H with⟨hp1,H⟩|⟨hp1,H⟩
 ·obtain⟨F,G,hq1⟩:=xH Y G hp1
  refine xT ?_
  replace H:=Option.some.inj H
  refine xr ?_
  subst H
  refine xrD [] ?_
  exact xO ⟨[1],[0]⟩
 ·obtain⟨F,G,hq1⟩:=xH Y G hp1
  refine xE ?_
  obtain⟨r2,hr2,H⟩:=Je H
  have F:=Y
  refine xQ ?_
  refine xs 2 ?_
  refine xc ⟨[1],[]⟩ (tabG 1 (JC a1 a2 r1.2.1 r1.2.2.1 r1.2.2.2.1 r1.2.2.2.2 r2 hr2)) ?_
  refine xs 1 ?_
  refine xl ?_
  refine xS ?_
  refine xr0 ?_
  refine Jn ?_
  refine JB Kg (fun s=>[(0,.c (.pt 1 0)),(1,.c (.fm (EM Try.prog 52 (cvK s.1)))),(2,.c (.d (.v (.int .i64 s.2.1)))),(6,.c (.pt 2 0)),(10,.c (.pt 3 0))]) (fun s=>[[.d (.sl 11 (List.map Jb a2)),.d (.v (.int .i64 s.2.2.1)),.d (.v (.int .i64 s.2.2.2.1)),.d (.v (.int .i64 s.2.2.2.2.1)),.d (.v (.int .i64 s.2.2.2.2.2.1))],[.d (.v (.int .i64 0)),.d (.v (.int .i64 0)),.sl 3 [] 0],[.d (.v (.int .i64 s.2.2.2.2.2.2.1)),.d (.v (.int .i64 s.2.2.2.2.2.2.2.1)),.sl 3 (List.map Jp s.2.2.2.2.2.2.2.2) 4]]) [26] r ?_ ?_
  ·refine xS ?_
   refine xr ?_
   rcases Jc H with⟨hp2,H⟩|⟨hp2,H⟩
   ·obtain⟨F,G,hq2⟩:=xH Y G hp2
    refine xT ?_
    obtain⟨r3,hr3,H⟩:=Je H
    have F:=Y
    refine xQ ?_
    refine xs 3 ?_
    refine xc ⟨[1],[]⟩ (tabG 2 (JeL q1 a0 a1 a2 r1.2.1 r1.2.2.1 r1.2.2.2.1 r1.2.2.2.2 r3 hr3)) ?_
    refine xs 5 ?_
    refine xl ?_
    refine xS ?_
    exact Jd H (xK ⟨[1,2,5],[7]⟩)
   ·obtain⟨F,G,hq2⟩:=xH Y G hp2
    refine xE0 ?_
    refine JB (Xj q2 a0 a1 a2 r1 r2) (fun s=>[(0,.c (.pt 1 0)),(1,.c (.fm (EM Try.prog 52 (cvK a0)))),(2,.c (.d (.v (.int .i64 a1)))),(6,.c (.pt 2 0)),(9,.c (.d (.v (str r2)))),(10,.c (.pt 3 0)),(60,.c (.d (.v (.bool s))))]) (fun s=>[[.d (.sl 11 (List.map Jb a2)),.d (.v (.int .i64 r1.2.1)),.d (.v (.int .i64 r1.2.2.1)),.d (.v (.int .i64 r1.2.2.2.1)),.d (.v (.int .i64 r1.2.2.2.2))],[.d (.v (.int .i64 0)),.d (.v (.int .i64 0)),.sl 3 [] 0],[.d (.v (.int .i64 0)),.d (.v (.int .i64 0)),.sl 3 [] 0]]) [] r ?_ ?_
    ·rcases Jc H with⟨hp13,H⟩|⟨hp13,H⟩
     ·obtain⟨F,G,hq13⟩:=xH Y G hp13
      refine xR ?_
      exact Jd H (xK ⟨[1,2,5],[]⟩)
     ·obtain⟨F,G,hq13⟩:=xH Y G hp13
      refine xR ?_
      exact Jd H (xK ⟨[1,2,5],[]⟩)
    ·rintro x10 H
     rw[Xj]at H
     rcases Jc H with⟨hp3,H⟩|⟨hp3,H⟩
     ·obtain⟨F,G,hq3⟩:=xH Y G hp3
      refine xT ?_
      obtain⟨hgh,H⟩:=Jg H
      refine hIfK r2 hgh ?_
      refine xS ?_
      obtain⟨r4,hr4,H⟩:=Je H
      have F:=Y
      refine xQ ?_
      refine xs 3 ?_
      refine xc ⟨[1],[]⟩ (tabG 3 (KM (IntKind.i64.wrap (a1+1)) [40] a2 r1.2.1 r1.2.2.1 r1.2.2.2.1 r1.2.2.2.2 r4 hr4)) ?_
      refine xs 1 ?_
      refine xl ?_
      refine xS ?_
      obtain⟨r5,hr5,H⟩:=Je H
      have F:=Y
      refine xQ ?_
      refine xs 3 ?_
      refine xc ⟨[1],[]⟩ (tabG 4 (JaF a0 r4.1 0 a2 r4.2.1 r4.2.2.1 r4.2.2.2 r1.2.2.2.2 r5 hr5)) ?_
      refine xs 6 ?_
      refine xl ?_
      refine xS ?_
      obtain⟨r6,hr6,H⟩:=Je H
      have F:=Y
      refine xQ ?_
      refine xs 2 ?_
      refine xc ⟨[1],[]⟩ (tabG 3 (KM r5.2.2.2.1 [41] a2 r5.2.2.2.2.1 r5.2.2.2.2.2.1 r5.2.2.2.2.2.2.1 r5.2.2.2.2.2.2.2 r6 hr6)) ?_
      refine xs 1 ?_
      refine xl ?_
      refine xS ?_
      obtain⟨hg1,H⟩:=Jg H
      have F:=xZ Y (XE Z6 [(⟨r5.1,r5.2.1,r5.2.2.1⟩:Node)])
      refine xR ?_
      refine KH (Zd q2 a0 a2 r2) (fun s=>[(0,.c (.pt 1 0)),(1,.c (.fm (EM Try.prog 52 (cvK a0)))),(2,.c (.d (.v (.int .i64 s.1)))),(6,.c (.pt 2 0)),(9,.c (.d (.v (str r2)))),(10,.c (.pt 3 0))]) (fun s=>[[.d (.sl 11 (List.map Jb a2)),.d (.v (.int .i64 s.2.1)),.d (.v (.int .i64 s.2.2.1)),.d (.v (.int .i64 s.2.2.2.1)),.d (.v (.int .i64 s.2.2.2.2.1))],[.d (.v (.int .i64 0)),.d (.v (.int .i64 0)),.sl 3 [] 0],[.d (.v (.int .i64 s.2.2.2.2.2.1)),.d (.v (.int .i64 s.2.2.2.2.2.2.1)),.sl 3 (List.map Jp s.2.2.2.2.2.2.2) 4]]) [26] H (xK ⟨[1,2,3],[9]⟩) ?_
      rintro n1 ⟨x11,x12,x13,x14,x15,x16,x17,x18⟩ o1 H hF1
      rw[Zd]at H
      refine xS ?_
      obtain⟨r7,hr7,H⟩:=Je H
      have F:=Y
      refine xQ ?_
      refine xs 1 ?_
      refine xc ⟨[1],[]⟩ (tabG 5 (JE a2 x12 x13 x14 x15 r7 hr7)) ?_
      refine xl ?_
      refine xS ?_
      rcases Jc H with⟨hp4,H⟩|⟨hp4,H⟩
      ·obtain⟨F,G,hq4⟩:=xH Y G hp4
       refine xT ?_
       obtain⟨r8,hr8,H⟩:=Je H
       have F:=Y
       refine xQ ?_
       refine xs 3 ?_
       refine xc ⟨[1],[]⟩ (tabG 6 (Je1 q2 a0 x11 a2 x12 x13 x14 x15 r8 hr8)) ?_
       refine xs 8 ?_
       refine xl ?_
       refine xS ?_
       obtain⟨hg2,H⟩:=Jg H
       have F:=xZ Y (XE Z6 [(⟨r8.1,r8.2.1,r8.2.2.1⟩:Node)])
       refine xR ?_
       refine xr0 ?_
       refine Jn ?_
       refine XV ?_
       refine JB (VL a0 x16 x17 r8) (fun s=>[(0,.c (.pt 1 0)),(1,.c (.fm (EM Try.prog 52 (cvK a0)))),(2,.c (.d (.v (.int .i64 r8.2.2.2.1)))),(6,.c (.pt 2 0)),(9,.c (.d (.v (str r2)))),(10,.c (.pt 3 0)),(122,.c (.d (.v (.bool s.1))))]) (fun s=>[[.d (.sl 11 (List.map Jb a2)),.d (.v (.int .i64 r8.2.2.2.2.2.1)),.d (.v (.int .i64 r8.2.2.2.2.2.2.1)),.d (.v (.int .i64 r8.2.2.2.2.2.2.2.1)),.d (.v (.int .i64 r8.2.2.2.2.2.2.2.2))],[.d (.v (.int .i64 0)),.d (.v (.int .i64 0)),.sl 3 [] 0],[.d (.v (.int .i64 x16)),.d (.v (.int .i64 x17)),.sl 3 (List.map Jp s.2) 4]]) [26] o1 ?_ ?_
       ·rcases Jc H with⟨hp6,H⟩|⟨hp6,H⟩
        ·obtain⟨F,G,hq6⟩:=xH Y G hp6
         refine xR ?_
         exact Jd H (xK ⟨[1,2,3],[9]⟩)
        ·obtain⟨F,G,hq6⟩:=xH Y G hp6
         rcases Jc H with⟨hp7,H⟩|⟨hp7,H⟩
         ·obtain⟨F,G,hq7⟩:=xH F G hp7
          refine xR ?_
          exact Jd H (xK ⟨[1,2,3],[9]⟩)
         ·obtain⟨F,G,hq7⟩:=xH F G hp7
          obtain⟨r9,hr9,H⟩:=Je H
          have F:=F
          refine xQ ?_
          refine xs 11 ?_
          refine xc ⟨[1],[]⟩ (tabG 1 (JC r8.2.2.2.1 a2 r8.2.2.2.2.2.1 r8.2.2.2.2.2.2.1 r8.2.2.2.2.2.2.2.1 r8.2.2.2.2.2.2.2.2 r9 hr9)) ?_
          refine xs 2 ?_
          refine xl ?_
          refine xS ?_
          exact Jd H (xK ⟨[1,2,3],[9]⟩)
       ·rintro ⟨x19,x20⟩ H
        rw[VL]at H
        rcases Jc H with⟨hp5,H⟩|⟨hp5,H⟩
        ·obtain⟨F,G,hq5⟩:=xH Y G hp5
         replace H:=Jq H hF1
         refine xT ?_
         exact Jd H (xK ⟨[1,2,3],[4]⟩)
        ·obtain⟨F,G,hq5⟩:=xH Y G hp5
         refine xE ?_
         refine xr ?_
         exact JJ (J2 H hF1) (xK ⟨[1,2,3],[4]⟩)
      ·obtain⟨F,G,hq4⟩:=xH Y G hp4
       replace H:=Jq H hF1
       refine xE ?_
       exact Jd H (xK ⟨[1,2,3],[4]⟩)
     ·obtain⟨F,G,hq3⟩:=xH Y G hp3
      refine xE ?_
      refine xr ?_
      rcases Jc H with⟨hp8,H⟩|⟨hp8,H⟩
      ·obtain⟨F,G,hq8⟩:=xH Y G hp8
       refine xT ?_
       refine xr ?_
       refine xr0 ?_
       refine Jn ?_
       refine JB (Jag a0 a2) (fun s=>[(0,.c (.pt 1 0)),(1,.c (.fm (EM Try.prog 52 (cvK a0)))),(2,.c (.d (.v (.int .i64 s.1)))),(6,.c (.pt 2 0)),(10,.c (.pt 3 0))]) (fun s=>[[.d (.sl 11 (List.map Jb a2)),.d (.v (.int .i64 s.2.1)),.d (.v (.int .i64 s.2.2.1)),.d (.v (.int .i64 s.2.2.2.1)),.d (.v (.int .i64 s.2.2.2.2.1))],[.d (.v (.int .i64 0)),.d (.v (.int .i64 0)),.sl 3 [] 0],[.d (.v (.int .i64 8)),.d (.v (.int .i64 (-1))),.sl 3 (List.map Jp s.2.2.2.2.2) 4]]) [26] r ?_ ?_
       ·refine xS ?_
        obtain⟨r11,hr11,H⟩:=Je H
        have F:=Y
        refine xQ ?_
        refine xs 2 ?_
        refine xc ⟨[1],[]⟩ (tabG 1 (JC (IntKind.i64.wrap (a1+1)) a2 r1.2.1 r1.2.2.1 r1.2.2.2.1 r1.2.2.2.2 r11 hr11)) ?_
        refine xs 1 ?_
        refine xl ?_
        refine xS ?_
        rcases Jc H with⟨hp9,H⟩|⟨hp9,H⟩
        ·obtain⟨F,G,hq9⟩:=xH Y G hp9
         refine xT ?_
         obtain⟨r12,hr12,H⟩:=Je H
         have F:=Y
         refine xQ ?_
         refine xs 3 ?_
         refine xc ⟨[1],[]⟩ (tabG 4 (JaF a0 (IntKind.i64.wrap (a1+1)) 0 a2 r1.2.1 r1.2.2.1 r1.2.2.2.1 r1.2.2.2.2 r12 hr12)) ?_
         refine xs 6 ?_
         refine xl ?_
         refine xS ?_
         obtain⟨hg3,H⟩:=Jg H
         have F:=xZ Y (XE Z6 [(⟨r12.1,r12.2.1,r12.2.2.1⟩:Node)])
         refine xR ?_
         refine xr ?_
         exact Jd H (xK ⟨[1,2,3],[8]⟩)
        ·obtain⟨F,G,hq9⟩:=xH Y G hp9
         refine xE ?_
         exact Jd H (xK ⟨[1,2,3],[0]⟩)
       ·rintro ⟨x21,x22,x23,x24,x25,x26⟩ H
        rw[Jag]at H
        obtain⟨r10,hr10,H⟩:=Je H
        have F:=Y
        refine xQ ?_
        refine xs 2 ?_
        refine xc ⟨[1],[]⟩ (tabG 3 (KM x21 [59] a2 x22 x23 x24 x25 r10 hr10)) ?_
        refine xs 1 ?_
        refine xl ?_
        refine xS ?_
        exact Jd H (xK ⟨[1,2,3],[4]⟩)
      ·obtain⟨F,G,hq8⟩:=xH Y G hp8
       refine xE0 ?_
       refine JB (Xk a0 a1 a2 r1 r2) (fun s=>[(0,.c (.pt 1 0)),(1,.c (.fm (EM Try.prog 52 (cvK a0)))),(2,.c (.d (.v (.int .i64 a1)))),(6,.c (.pt 2 0)),(9,.c (.d (.v (str r2)))),(10,.c (.pt 3 0)),(152,.c (.d (.v (.bool s))))]) (fun s=>[[.d (.sl 11 (List.map Jb a2)),.d (.v (.int .i64 r1.2.1)),.d (.v (.int .i64 r1.2.2.1)),.d (.v (.int .i64 r1.2.2.2.1)),.d (.v (.int .i64 r1.2.2.2.2))],[.d (.v (.int .i64 0)),.d (.v (.int .i64 0)),.sl 3 [] 0],[.d (.v (.int .i64 0)),.d (.v (.int .i64 0)),.sl 3 [] 0]]) [] r ?_ ?_
       ·rcases Jc H with⟨hp12,H⟩|⟨hp12,H⟩
        ·obtain⟨F,G,hq12⟩:=xH Y G hp12
         refine xR ?_
         exact Jd H (xK ⟨[1,2,3],[]⟩)
        ·obtain⟨F,G,hq12⟩:=xH Y G hp12
         obtain⟨r16,hr16,H⟩:=Je H
         have F:=F
         refine xQ ?_
         refine xs 6 ?_
         refine xc ⟨[1],[]⟩ (tabG 8 (JeF a0 a1 a2 r1.2.1 r1.2.2.1 r1.2.2.2.1 r1.2.2.2.2 r16 hr16)) ?_
         refine xs 2 ?_
         refine xl ?_
         refine xS ?_
         exact Jd H (xK ⟨[1,2,3],[]⟩)
       ·rintro x27 H
        rw[Xk]at H
        rcases Jc H with⟨hp10,H⟩|⟨hp10,H⟩
        ·obtain⟨F,G,hq10⟩:=xH Y G hp10
         refine xT ?_
         obtain⟨r13,hr13,H⟩:=Je H
         have F:=Y
         refine xQ ?_
         refine xs 3 ?_
         refine xc ⟨[1],[]⟩ (tabG 7 (JfA a0 a1 a2 r1.2.1 r1.2.2.1 r1.2.2.2.1 r1.2.2.2.2 r13 hr13)) ?_
         refine xs 7 ?_
         refine xl ?_
         refine xS ?_
         exact Jd H (xK ⟨[1,2,3],[5]⟩)
        ·obtain⟨F,G,hq10⟩:=xH Y G hp10
         refine xE ?_
         refine xr0 ?_
         refine Jn ?_
         refine JB (Jai a0 a2) (fun s=>[(0,.c (.pt 1 0)),(1,.c (.fm (EM Try.prog 52 (cvK a0)))),(2,.c (.d (.v (.int .i64 s.1)))),(6,.c (.pt 2 0)),(10,.c (.pt 3 0))]) (fun s=>[[.d (.sl 11 (List.map Jb a2)),.d (.v (.int .i64 s.2.1)),.d (.v (.int .i64 s.2.2.1)),.d (.v (.int .i64 s.2.2.2.1)),.d (.v (.int .i64 s.2.2.2.2.1))],[.d (.v (.int .i64 0)),.d (.v (.int .i64 0)),.sl 3 [] 0],[.d (.v (.int .i64 9)),.d (.v (.int .i64 (-1))),.sl 3 (List.map Jp s.2.2.2.2.2) 4]]) [26] r ?_ ?_
         ·refine xS ?_
          refine xr ?_
          rcases Jc H with⟨hp11,H⟩|⟨hp11,H⟩
          ·obtain⟨F,G,hq11⟩:=xH Y G hp11
           refine xT ?_
           obtain⟨r15,hr15,H⟩:=Je H
           have F:=Y
           refine xQ ?_
           refine xs 3 ?_
           refine xc ⟨[1],[]⟩ (tabG 4 (JaF a0 a1 0 a2 r1.2.1 r1.2.2.1 r1.2.2.2.1 r1.2.2.2.2 r15 hr15)) ?_
           refine xs 6 ?_
           refine xl ?_
           refine xS ?_
           obtain⟨hg4,H⟩:=Jg H
           have F:=xZ Y (XE Z6 [(⟨r15.1,r15.2.1,r15.2.2.1⟩:Node)])
           refine xR ?_
           refine xr ?_
           exact Jd H (xK ⟨[1,2,3],[7]⟩)
          ·obtain⟨F,G,hq11⟩:=xH Y G hp11
           refine xE ?_
           exact Jd H (xK ⟨[1,2,3],[0]⟩)
         ·rintro ⟨x28,x29,x30,x31,x32,x33⟩ H
          rw[Jai]at H
          obtain⟨r14,hr14,H⟩:=Je H
          have F:=Y
          refine xQ ?_
          refine xs 2 ?_
          refine xc ⟨[1],[]⟩ (tabG 3 (KM x28 [59] a2 x29 x30 x31 x32 r14 hr14)) ?_
          refine xs 1 ?_
          refine xl ?_
          refine xS ?_
          exact Jd H (xK ⟨[1,2,3],[4]⟩)
  ·rintro ⟨x1,x2,x3,x4,x5,x6,x7,x8,x9⟩ H
   rw[Kg]at H
   refine xS ?_
   refine xr ?_
   replace H:=Option.some.inj H
   refine xr ?_
   subst H
   refine xrD [] ?_
   exact xO ⟨[1],[4]⟩
noncomputable def KF:Nat→(EB→Int→(List Token)→Int→Int→Int→Int→Option ((List Node)×Int×Int×Int×Int×Int))×(EB→Int→(List Token)→Int→Int→Int→Int→Option (Int×Int×(List Node)×Int×EB×Int×Int×Int×Int))
 | 0=>(fun _ _ _ _ _ _ _=>none,fun _ _ _ _ _ _ _=>none)
 | n+1=>(Jao ((KF n).1) ((KF n).2),JaR ((KF n).1) ((KF n).2))
theorem JdJ:∀ n,Kok Try.prog 37 true (VV (KF n).1)∧Kok Try.prog 62 true (Xn (KF n).2)
 | 0=>⟨⟨JpR,(by rintro _ ⟨_,_,_,_,_,_,_,_,H,_⟩; cases H),fun _=>by rintro _ ⟨_,_,_,_,_,_,_,_,_,rfl⟩; exact⟨_,_,_,rfl⟩⟩,⟨JpA,(by rintro _ ⟨_,_,_,_,_,_,_,_,H,_⟩; cases H),fun _=>by rintro _ ⟨_,_,_,_,_,_,_,_,_,rfl⟩; exact⟨_,_,_,rfl⟩⟩⟩
 | n+1=>have h:=JdJ n; ⟨⟨JpR,Jhp _ _ h.1 h.2,fun _=>by rintro _ ⟨_,_,_,_,_,_,_,_,_,rfl⟩; exact⟨_,_,_,rfl⟩⟩,⟨JpA,Jip _ _ h.1 h.2,fun _=>by rintro _ ⟨_,_,_,_,_,_,_,_,_,rfl⟩; exact⟨_,_,_,rfl⟩⟩⟩
noncomputable def Jbm:EB→Int→(List Token)→Int→Int→Int→Int→Option ((List Node)×Int×Int×Int×Int×Int):=(KF bigF).1
def Jc5:GI→Prop:=VV Jbm
theorem Ji3(a0:EB)(a1:Int)(a2:List Token)(a3:Int)(a4:Int)(a5:Int)(a6:Int)(r:((List Node)×Int×Int×Int×Int×Int))(H:Jbm a0 a1 a2 a3 a4 a5 a6=some r):Jc5 (Xi a0 a1 a2 a3 a4 a5 a6 r):=JeL Jbm a0 a1 a2 a3 a4 a5 a6 r H
theorem Ji2:Kok Try.prog 37 true Jc5:=(JdJ bigF).1
noncomputable def Vw(a2:List Token)(r5:(Int×(List Node)×Int×EB×Int×Int×Int×Int)):(Int×EB×Int×Int×Int×Int×(List Node))→Option (Int×Int×(List Node)×Int×EB×Int×Int×Int×Int)
 | (x2,x3,x4,x5,x6,x7,x8)=>(JO a2 x4 x5 x6 x7).bind fun r7=>if(!r7)=true then some (3,(-1),x8,x2,r5.2.2.2.1,x4,x5,x6,x7) else(Jbm x3 (IntKind.i64.wrap (x2+1)) a2 x4 x5 x6 x7).bind fun r8=>if(x8.length + [(⟨5,(-1),r8.1⟩:Node)].length) * 40≤140737488355328 then some (3,(-1),x8++[(⟨5,(-1),r8.1⟩:Node)],r8.2.1,r5.2.2.2.1,r8.2.2.1,r8.2.2.2.1,r8.2.2.2.2.1,r8.2.2.2.2.2) else none
noncomputable def V3(a2:List Token)(r5:(Int×(List Node)×Int×EB×Int×Int×Int×Int))(x10:EB)(x14:Int)(x15:List Node):(Int×Int×Int×Int)→Option ((Int×EB×Int×Int×Int×Int×(List Node)) ⊕ (Int×Int×(List Node)×Int×EB×Int×Int×Int×Int))
 | (x17,x18,x19,x20)=>(JO a2 x18 x19 x20 x14).bind fun r9=>if(!r9)=true then inrO (Vw a2 r5 (x17,x10,x18,x19,x20,x14,x15)) else(Xd x10 x17 a2 x18 x19 x20 x14).bind fun r10=>(JO a2 r10.2.1 r10.2.2.1 r10.2.2.2 x14).bind fun r11=>if(!r11)=true then inrO (Vw a2 r5 (x17,x10,r10.2.1,r10.2.2.1,r10.2.2.2,x14,x15)) else(KI x10 r10.1 false a2 r10.2.1 r10.2.2.1 r10.2.2.2 x14).bind fun r12=>if(x15.length + [(⟨2,(-1),[(⟨16,x17,([]:List Node)⟩:Node),(⟨4,r12.1,r12.2.1⟩:Node)]⟩:Node)].length) * 40≤140737488355328 then some (.inl (r12.2.2.1,r12.2.2.2.1,r12.2.2.2.2.1,r12.2.2.2.2.2.1,r12.2.2.2.2.2.2.1,r12.2.2.2.2.2.2.2,x15++[(⟨2,(-1),[(⟨16,x17,([]:List Node)⟩:Node),(⟨4,r12.1,r12.2.1⟩:Node)]⟩:Node)])) else none
noncomputable def XA(a2:List Token)(r5:(Int×(List Node)×Int×EB×Int×Int×Int×Int))(x9:Int)(x10:EB)(x11:Int)(x12:Int)(x13:Int)(x14:Int)(x15:List Node):Bool→Option ((Int×EB×Int×Int×Int×Int×(List Node)) ⊕ (Int×Int×(List Node)×Int×EB×Int×Int×Int×Int))
 | x16=>if x16=true then if(ltI 2 (x15.length:Int))=true then(JL x9 [44] a2 x11 x12 x13 x14).bind fun r13=>V3 a2 r5 x10 x14 x15 (r13.1,r13.2.1,r13.2.2.1,r13.2.2.2) else V3 a2 r5 x10 x14 x15 (x9,x11,x12,x13) else inrO (Vw a2 r5 (x9,x10,x11,x12,x13,x14,x15))
noncomputable def Ja5(a2:List Token)(r5:(Int×(List Node)×Int×EB×Int×Int×Int×Int)):(Int×EB×Int×Int×Int×Int×(List Node))→Option ((Int×EB×Int×Int×Int×Int×(List Node)) ⊕ (Int×Int×(List Node)×Int×EB×Int×Int×Int×Int))
 | (x9,x10,x11,x12,x13,x14,x15)=>(JO a2 x11 x12 x13 x14).bind fun r14=>if r14=true then(Jz x9 a2 x11 x12 x13 x14).bind fun r15=>XA a2 r5 x9 x10 x11 x12 x13 x14 x15 (!eqS r15 [41]) else XA a2 r5 x9 x10 x11 x12 x13 x14 x15 false
noncomputable def Vt(a1:Int)(a2:List Token)(r5:(Int×(List Node)×Int×EB×Int×Int×Int×Int)):Bool→Option (Int×Int×(List Node)×Int×EB×Int×Int×Int×Int)
 | x1=>if x1=true then(JbP r5.2.2.2.1 r5.2.2.1 2 (-1) [(⟨16,a1,([]:List Node)⟩:Node)] 4 r5.1 r5.2.1 false a2 r5.2.2.2.2.1 r5.2.2.2.2.2.1 r5.2.2.2.2.2.2.1 r5.2.2.2.2.2.2.2).bind fun r6=>some (2,(-1),r6.1,r6.2.1,r6.2.2.1,r6.2.2.2.1,r6.2.2.2.2.1,r6.2.2.2.2.2.1,r6.2.2.2.2.2.2) else Ju (Ja5 a2 r5) (IntKind.i64.wrap (r5.2.2.1+1),r5.2.2.2.1,r5.2.2.2.2.1,r5.2.2.2.2.2.1,r5.2.2.2.2.2.2.1,r5.2.2.2.2.2.2.2,[(⟨16,a1,([]:List Node)⟩:Node),(⟨4,r5.1,r5.2.1⟩:Node)])
noncomputable def Z0(a0:EB)(a1:Int)(a2:List Token)(a3:Int)(a4:Int)(a5:Int)(a6:Int):Option (Int×Int×(List Node)×Int×EB×Int×Int×Int×Int) :=
 (Jz a1 a2 a3 a4 a5 a6).bind fun r1=>if(eqS r1 [116,121,112,101,100,101,102])=true then(Zu a0 a1 a2 a3 a4 a5 a6).bind fun r2=>some (r2.1,r2.2.1,r2.2.2.1,r2.2.2.2.1,r2.2.2.2.2.1,r2.2.2.2.2.2.1,r2.2.2.2.2.2.2.1,r2.2.2.2.2.2.2.2.1,r2.2.2.2.2.2.2.2.2) else(Xd a0 a1 a2 a3 a4 a5 a6).bind fun r3=>(JO a2 r3.2.1 r3.2.2.1 r3.2.2.2 a6).bind fun r4=>if(!r4)=true then some (16,a1,([]:List Node),r3.1,a0,r3.2.1,r3.2.2.1,r3.2.2.2,a6) else(KI a0 r3.1 false a2 r3.2.1 r3.2.2.1 r3.2.2.2 a6).bind fun r5=>(JO a2 r5.2.2.2.2.1 r5.2.2.2.2.2.1 r5.2.2.2.2.2.2.1 r5.2.2.2.2.2.2.2).bind fun r16=>if(!r16)=true then Vt a1 a2 r5 true else if(ltI 0 (r5.2.1.length:Int))=true then Vt a1 a2 r5 true else(Jz r5.2.2.1 a2 r5.2.2.2.2.1 r5.2.2.2.2.2.1 r5.2.2.2.2.2.2.1 r5.2.2.2.2.2.2.2).bind fun r17=>Vt a1 a2 r5 (!eqS r17 [40])
noncomputable def Jal(a0:EB)(a1:Int)(a2:List Token)(a3:Int)(a4:Int)(a5:Int)(a6:Int)(r:(Int×Int×(List Node)×Int×EB×Int×Int×Int×Int)):GI :=
 ⟨[.c (.pt 1 0),.c (.fm (EM Try.prog 52 (cvK a0))),.c (.d (.v (.int .i64 a1)))],[[.d (.sl 11 (List.map Jb a2)),.d (.v (.int .i64 a3)),.d (.v (.int .i64 a4)),.d (.v (.int .i64 a5)),.d (.v (.int .i64 a6))]],[],.ret (.tu [(true,[.d (.v (.int .i64 r.1)),.d (.v (.int .i64 r.2.1)),.sl 3 (List.map Jp r.2.2.1) 2]),(false,[.d (.v (.int .i64 r.2.2.2.1))]),(false,[.fm (EM Try.prog 52 (cvK r.2.2.2.2.1))])]) [[.d (.sl 11 (List.map Jb a2)),.d (.v (.int .i64 r.2.2.2.2.2.1)),.d (.v (.int .i64 r.2.2.2.2.2.2.1)),.d (.v (.int .i64 r.2.2.2.2.2.2.2.1)),.d (.v (.int .i64 r.2.2.2.2.2.2.2.2))]] [26]⟩
def Jam:GI→Prop:=fun g=>∃ (a0:EB) (a1:Int) (a2:List Token) (a3:Int) (a4:Int) (a5:Int) (a6:Int) (r:(Int×Int×(List Node)×Int×EB×Int×Int×Int×Int)),Z0 a0 a1 a2 a3 a4 a5 a6=some r∧g=Jal a0 a1 a2 a3 a4 a5 a6 r
theorem JiR(a0:EB)(a1:Int)(a2:List Token)(a3:Int)(a4:Int)(a5:Int)(a6:Int)(r:(Int×Int×(List Node)×Int×EB×Int×Int×Int×Int))(H:Z0 a0 a1 a2 a3 a4 a5 a6=some r):Jam (Jal a0 a1 a2 a3 a4 a5 a6 r):=⟨a0,a1,a2,a3,a4,a5,a6,r,H,rfl⟩
theorem Jih:∀ g,Jam g→Jx Try.prog 17 g:=by
 rintro _ ⟨a0,a1,a2,a3,a4,a5,a6,r,H,rfl⟩
 refine xGn mixed [] [(31,true,J6),(32,true,Zz),(33,true,Zp),(16,true,KA),(34,true,K8),(35,true,Zt),(37,true,Jc5),(36,true,Vd)] [] trivial ⟨Ks,Jfq,JfF,KE,ZI,JfJ,Ji2,V0,trivial⟩ trivial Try.func17 _ ?_
 have G:=True.intro
 have Y:=xZ y_3 <| xZ y_24 <| xZ y_26 <| xZ Try.results17 <| xZ J9.eq_1 <| xZ Jb.eq_1 <| xZ Vl <| xZ Kf.eq_1 <| xZ J5.eq_1 <| xZ Zs.eq_1 <| xZ ZF.eq_1 <| xZ KC.eq_1 <| xZ Va.eq_1 <| xZ Zx.eq_1 <| xZ Xi.eq_1 <| xZ K9.eq_1 <| Jal.eq_1
 dsimp only[Jal]
 simp only[Z0]at H
 refine xS ?_
 refine xr ?_
 obtain⟨r1,hr1,H⟩:=Je H
 have F:=Y
 refine xQ ?_
 refine xs 2 ?_
 refine xc ⟨[1],[]⟩ (tabG 0 (JC a1 a2 a3 a4 a5 a6 r1 hr1)) ?_
 refine xs 1 ?_
 refine xl ?_
 refine xS ?_
 rcases Jc H with⟨hp1,H⟩|⟨hp1,H⟩
 ·obtain⟨F,G,hq1⟩:=xH Y G hp1
  refine xT ?_
  obtain⟨r2,hr2,H⟩:=Je H
  have F:=Y
  refine xQ ?_
  refine xs 3 ?_
  refine xc ⟨[1],[]⟩ (tabG 1 (JfA a0 a1 a2 a3 a4 a5 a6 r2 hr2)) ?_
  refine xs 6 ?_
  refine xl ?_
  replace H:=Option.some.inj H
  refine xS ?_
  subst H
  refine xrD [] ?_
  exact xO ⟨[1],[5]⟩
 ·obtain⟨F,G,hq1⟩:=xH Y G hp1
  refine xE ?_
  obtain⟨r3,hr3,H⟩:=Je H
  have F:=Y
  refine xQ ?_
  refine xs 3 ?_
  refine xc ⟨[1],[]⟩ (tabG 2 (Jdp a0 a1 a2 a3 a4 a5 a6 r3 hr3)) ?_
  refine xs 6 ?_
  refine xl ?_
  refine xS ?_
  obtain⟨r4,hr4,H⟩:=Je H
  have F:=Y
  refine xQ ?_
  refine xs 1 ?_
  refine xc ⟨[1],[]⟩ (tabG 3 (JE a2 r3.2.1 r3.2.2.1 r3.2.2.2 a6 r4 hr4)) ?_
  refine xs 1 ?_
  refine xl ?_
  refine xS ?_
  rcases Jc H with⟨hp2,H⟩|⟨hp2,H⟩
  ·obtain⟨F,G,hq2⟩:=xH Y G hp2
   refine xT ?_
   replace H:=Option.some.inj H
   refine xr ?_
   subst H
   refine xrD [] ?_
   exact xO ⟨[1],[0]⟩
  ·obtain⟨F,G,hq2⟩:=xH Y G hp2
   refine xE ?_
   obtain⟨r5,hr5,H⟩:=Je H
   have F:=Y
   refine xQ ?_
   refine xs 3 ?_
   refine xc ⟨[1],[]⟩ (tabG 4 (ZH a0 r3.1 false a2 r3.2.1 r3.2.2.1 r3.2.2.2 a6 r5 hr5)) ?_
   refine xs 8 ?_
   refine xl ?_
   refine  ?_
   refine Jn ?_
   refine XV ?_
   refine JB (Vt a1 a2 r5) (fun s=>[(0,.c (.pt 1 0)),(1,.c (.fm (EM Try.prog 52 (cvK r5.2.2.2.1)))),(2,.c (.d (.v (.int .i64 r5.2.2.1)))),(6,.c (.pt 2 0)),(9,.c (.pt 3 0)),(10,.c (.pt 4 0)),(64,.c (.d (.v (.bool s))))]) (fun s=>[[.d (.sl 11 (List.map Jb a2)),.d (.v (.int .i64 r5.2.2.2.2.1)),.d (.v (.int .i64 r5.2.2.2.2.2.1)),.d (.v (.int .i64 r5.2.2.2.2.2.2.1)),.d (.v (.int .i64 r5.2.2.2.2.2.2.2))],[.d (.v (.int .i64 0)),.d (.v (.int .i64 0)),.sl 3 [] 0],[.d (.v (.int .i64 16)),.d (.v (.int .i64 a1)),.sl 3 [] 0],[.d (.v (.int .i64 4)),.d (.v (.int .i64 r5.1)),.sl 3 (List.map Jp r5.2.1) 5]]) [26] r ?_ ?_
   ·obtain⟨r16,hr16,H⟩:=Je H
    have F:=Y
    rcases Jc H with⟨hp10,H⟩|⟨hp10,H⟩
    ·obtain⟨F,G,hq10⟩:=xH F G hp10
     refine xQ ?_
     refine xs 1 ?_
     refine xc ⟨[1],[]⟩ (tabG 3 (JE a2 r5.2.2.2.2.1 r5.2.2.2.2.2.1 r5.2.2.2.2.2.2.1 r5.2.2.2.2.2.2.2 r16 hr16)) ?_
     refine xs 13 ?_
     refine xl ?_
     refine xS ?_
     exact Jd H (xK ⟨[1,2,5,9],[8]⟩)
    ·obtain⟨F,G,hq10⟩:=xH F G hp10
     rcases Jc H with⟨hp11,H⟩|⟨hp11,H⟩
     ·obtain⟨F,G,hq11⟩:=xH F G hp11
      refine xQ ?_
      refine xs 1 ?_
      refine xc ⟨[1],[]⟩ (tabG 3 (JE a2 r5.2.2.2.2.1 r5.2.2.2.2.2.1 r5.2.2.2.2.2.2.1 r5.2.2.2.2.2.2.2 r16 hr16)) ?_
      refine xs 13 ?_
      refine xl ?_
      refine xS ?_
      exact Jd H (xK ⟨[1,2,5,9],[8]⟩)
     ·obtain⟨F,G,hq11⟩:=xH F G hp11
      obtain⟨r17,hr17,H⟩:=Je H
      have F:=F
      refine xQ ?_
      refine xs 1 ?_
      refine xc ⟨[1],[]⟩ (tabG 3 (JE a2 r5.2.2.2.2.1 r5.2.2.2.2.2.1 r5.2.2.2.2.2.2.1 r5.2.2.2.2.2.2.2 r16 hr16)) ?_
      refine xs 10 ?_
      refine xc ⟨[1],[]⟩ (tabG 0 (JC r5.2.2.1 a2 r5.2.2.2.2.1 r5.2.2.2.2.2.1 r5.2.2.2.2.2.2.1 r5.2.2.2.2.2.2.2 r17 hr17)) ?_
      refine xs 2 ?_
      refine xl ?_
      refine xS ?_
      exact Jd H (xK ⟨[1,2,5,9],[8]⟩)
   ·rintro x1 H
    rw[Vt]at H
    rcases Jc H with⟨hp3,H⟩|⟨hp3,H⟩
    ·obtain⟨F,G,hq3⟩:=xH Y G hp3
     refine xT ?_
     obtain⟨r6,hr6,H⟩:=Je H
     have F:=Y
     refine xQ ?_
     refine xs 7 ?_
     refine xc ⟨[1],[0,5]⟩ (tabG 5 (JfE r5.2.2.2.1 r5.2.2.1 2 (-1) [(⟨16,a1,([]:List Node)⟩:Node)] 4 r5.1 r5.2.1 false a2 r5.2.2.2.2.1 r5.2.2.2.2.2.1 r5.2.2.2.2.2.2.1 r5.2.2.2.2.2.2.2 r6 hr6)) ?_
     refine xs 6 ?_
     refine xl ?_
     replace H:=Option.some.inj H
     refine xS ?_
     subst H
     refine xrD [] ?_
     exact xO ⟨[1],[7]⟩
    ·obtain⟨F,G,hq3⟩:=xH Y G hp3
     refine xE ?_
     refine xr ?_
     refine xr ?_
     refine xr0 ?_
     refine Jn ?_
     refine JB (Vw a2 r5) (fun s=>[(0,.c (.pt 1 0)),(1,.c (.fm (EM Try.prog 52 (cvK r5.2.2.2.1)))),(2,.c (.d (.v (.int .i64 s.1)))),(6,.c (.pt 2 0)),(11,.c (.pt 3 0)),(12,.c (.fm (EM Try.prog 52 (cvK s.2.1))))]) (fun s=>[[.d (.sl 11 (List.map Jb a2)),.d (.v (.int .i64 s.2.2.1)),.d (.v (.int .i64 s.2.2.2.1)),.d (.v (.int .i64 s.2.2.2.2.1)),.d (.v (.int .i64 s.2.2.2.2.2.1))],[.d (.v (.int .i64 0)),.d (.v (.int .i64 0)),.sl 3 [] 0],[.d (.v (.int .i64 3)),.d (.v (.int .i64 (-1))),.sl 3 (List.map Jp s.2.2.2.2.2.2) 4]]) [26] r ?_ ?_
     ·refine xS ?_
      refine KH (Ja5 a2 r5) (fun s=>[(0,.c (.pt 1 0)),(1,.c (.fm (EM Try.prog 52 (cvK r5.2.2.2.1)))),(2,.c (.d (.v (.int .i64 s.1)))),(6,.c (.pt 2 0)),(11,.c (.pt 3 0)),(12,.c (.fm (EM Try.prog 52 (cvK s.2.1))))]) (fun s=>[[.d (.sl 11 (List.map Jb a2)),.d (.v (.int .i64 s.2.2.1)),.d (.v (.int .i64 s.2.2.2.1)),.d (.v (.int .i64 s.2.2.2.2.1)),.d (.v (.int .i64 s.2.2.2.2.2.1))],[.d (.v (.int .i64 0)),.d (.v (.int .i64 0)),.sl 3 [] 0],[.d (.v (.int .i64 3)),.d (.v (.int .i64 (-1))),.sl 3 (List.map Jp s.2.2.2.2.2.2) 4]]) [26] H (xK ⟨[1,2,6],[0]⟩) ?_
      rintro n1 ⟨x9,x10,x11,x12,x13,x14,x15⟩ o1 H hF1
      rw[Ja5]at H
      refine XV ?_
      refine JB (XA a2 r5 x9 x10 x11 x12 x13 x14 x15) (fun s=>[(0,.c (.pt 1 0)),(1,.c (.fm (EM Try.prog 52 (cvK r5.2.2.2.1)))),(2,.c (.d (.v (.int .i64 x9)))),(6,.c (.pt 2 0)),(11,.c (.pt 3 0)),(12,.c (.fm (EM Try.prog 52 (cvK x10)))),(90,.c (.d (.v (.bool s))))]) (fun s=>[[.d (.sl 11 (List.map Jb a2)),.d (.v (.int .i64 x11)),.d (.v (.int .i64 x12)),.d (.v (.int .i64 x13)),.d (.v (.int .i64 x14))],[.d (.v (.int .i64 0)),.d (.v (.int .i64 0)),.sl 3 [] 0],[.d (.v (.int .i64 3)),.d (.v (.int .i64 (-1))),.sl 3 (List.map Jp x15) 4]]) [26] o1 ?_ ?_
      ·obtain⟨r14,hr14,H⟩:=Je H
       have F:=Y
       rcases Jc H with⟨hp9,H⟩|⟨hp9,H⟩
       ·obtain⟨F,G,hq9⟩:=xH F G hp9
        obtain⟨r15,hr15,H⟩:=Je H
        have F:=F
        refine xQ ?_
        refine xs 1 ?_
        refine xc ⟨[1],[]⟩ (tabG 3 (JE a2 x11 x12 x13 x14 r14 hr14)) ?_
        refine xs 3 ?_
        refine xc ⟨[1],[]⟩ (tabG 0 (JC x9 a2 x11 x12 x13 x14 r15 hr15)) ?_
        refine xs 2 ?_
        refine xl ?_
        refine xS ?_
        exact Jd H (xK ⟨[1,2,3],[4]⟩)
       ·obtain⟨F,G,hq9⟩:=xH F G hp9
        refine xQ ?_
        refine xs 1 ?_
        refine xc ⟨[1],[]⟩ (tabG 3 (JE a2 x11 x12 x13 x14 r14 hr14)) ?_
        refine xs 6 ?_
        refine xl ?_
        refine xS ?_
        exact Jd H (xK ⟨[1,2,3],[4]⟩)
      ·rintro x16 H
       rw[XA]at H
       rcases Jc H with⟨hp5,H⟩|⟨hp5,H⟩
       ·obtain⟨F,G,hq5⟩:=xH Y G hp5
        refine xT0 ?_
        refine JbD ?_
        refine Jn ?_
        refine Jff ?_
        refine JB (V3 a2 r5 x10 x14 x15) (fun s=>[(0,.c (.pt 1 0)),(1,.c (.fm (EM Try.prog 52 (cvK r5.2.2.2.1)))),(2,.c (.d (.v (.int .i64 s.1)))),(6,.c (.pt 2 0)),(11,.c (.pt 3 0)),(12,.c (.fm (EM Try.prog 52 (cvK x10))))]) (fun s=>[[.d (.sl 11 (List.map Jb a2)),.d (.v (.int .i64 s.2.1)),.d (.v (.int .i64 s.2.2.1)),.d (.v (.int .i64 s.2.2.2)),.d (.v (.int .i64 x14))],[.d (.v (.int .i64 0)),.d (.v (.int .i64 0)),.sl 3 [] 0],[.d (.v (.int .i64 3)),.d (.v (.int .i64 (-1))),.sl 3 (List.map Jp x15) 4]]) [26] o1 ?_ ?_
        ·refine xS ?_
         refine xr ?_
         rcases Jc H with⟨hp8,H⟩|⟨hp8,H⟩
         ·obtain⟨F,G,hq8⟩:=xH Y G hp8
          refine xT ?_
          obtain⟨r13,hr13,H⟩:=Je H
          have F:=Y
          refine xQ ?_
          refine xs 2 ?_
          refine xc ⟨[1],[]⟩ (tabG 7 (KM x9 [44] a2 x11 x12 x13 x14 r13 hr13)) ?_
          refine xs 1 ?_
          refine xl ?_
          refine xS ?_
          exact Jd H (xK ⟨[1,2,3],[4]⟩)
         ·obtain⟨F,G,hq8⟩:=xH Y G hp8
          refine xE ?_
          exact Jd H (xK ⟨[1,2,3],[4]⟩)
        ·rintro ⟨x17,x18,x19,x20⟩ H
         rw[V3]at H
         refine xS ?_
         obtain⟨r9,hr9,H⟩:=Je H
         have F:=Y
         refine xQ ?_
         refine xs 1 ?_
         refine xc ⟨[1],[]⟩ (tabG 3 (JE a2 x18 x19 x20 x14 r9 hr9)) ?_
         refine xs 1 ?_
         refine xl ?_
         refine xS ?_
         rcases Jc H with⟨hp6,H⟩|⟨hp6,H⟩
         ·obtain⟨F,G,hq6⟩:=xH Y G hp6
          replace H:=Jq H hF1
          refine xT ?_
          exact Jd H (xK ⟨[1,2,3],[4]⟩)
         ·obtain⟨F,G,hq6⟩:=xH Y G hp6
          refine xE ?_
          obtain⟨r10,hr10,H⟩:=Je H
          have F:=Y
          refine xQ ?_
          refine xs 3 ?_
          refine xc ⟨[1],[]⟩ (tabG 2 (Jdp x10 x17 a2 x18 x19 x20 x14 r10 hr10)) ?_
          refine xs 6 ?_
          refine xl ?_
          refine xS ?_
          obtain⟨r11,hr11,H⟩:=Je H
          have F:=Y
          refine xQ ?_
          refine xs 1 ?_
          refine xc ⟨[1],[]⟩ (tabG 3 (JE a2 r10.2.1 r10.2.2.1 r10.2.2.2 x14 r11 hr11)) ?_
          refine xs 1 ?_
          refine xl ?_
          refine xS ?_
          rcases Jc H with⟨hp7,H⟩|⟨hp7,H⟩
          ·obtain⟨F,G,hq7⟩:=xH Y G hp7
           replace H:=Jq H hF1
           refine xT ?_
           exact Jd H (xK ⟨[1,2,3],[4]⟩)
          ·obtain⟨F,G,hq7⟩:=xH Y G hp7
           refine xE ?_
           obtain⟨r12,hr12,H⟩:=Je H
           have F:=Y
           refine xQ ?_
           refine xs 3 ?_
           refine xc ⟨[1],[]⟩ (tabG 4 (ZH x10 r10.1 false a2 r10.2.1 r10.2.2.1 r10.2.2.2 x14 r12 hr12)) ?_
           refine xs 8 ?_
           refine xl ?_
           refine xS ?_
           obtain⟨hg2,H⟩:=Jg H
           have F:=xZ Y (XE Z6 [(⟨2,(-1),[(⟨16,x17,([]:List Node)⟩:Node),(⟨4,r12.1,r12.2.1⟩:Node)]⟩:Node)])
           refine xR ?_
           refine xr ?_
           exact JJ (J2 H hF1) (xK ⟨[1,2,3],[12]⟩)
       ·obtain⟨F,G,hq5⟩:=xH Y G hp5
        replace H:=Jq H hF1
        refine xE ?_
        exact Jd H (xK ⟨[1,2,3],[4]⟩)
     ·rintro ⟨x2,x3,x4,x5,x6,x7,x8⟩ H
      rw[Vw]at H
      refine xS ?_
      obtain⟨r7,hr7,H⟩:=Je H
      have F:=Y
      refine xQ ?_
      refine xs 1 ?_
      refine xc ⟨[1],[]⟩ (tabG 3 (JE a2 x4 x5 x6 x7 r7 hr7)) ?_
      refine xs 1 ?_
      refine xl ?_
      refine xS ?_
      rcases Jc H with⟨hp4,H⟩|⟨hp4,H⟩
      ·obtain⟨F,G,hq4⟩:=xH Y G hp4
       refine xT ?_
       replace H:=Option.some.inj H
       refine xr ?_
       subst H
       refine xrD [] ?_
       exact xO ⟨[1],[4]⟩
      ·obtain⟨F,G,hq4⟩:=xH Y G hp4
       refine xE ?_
       obtain⟨r8,hr8,H⟩:=Je H
       have F:=Y
       refine xQ ?_
       refine xs 4 ?_
       refine xc ⟨[1],[]⟩ (tabG 6 (Ji3 x3 (IntKind.i64.wrap (x2+1)) a2 x4 x5 x6 x7 r8 hr8)) ?_
       refine xs 6 ?_
       refine xl ?_
       refine xS ?_
       obtain⟨hg1,H⟩:=Jg H
       have F:=xZ Y (XE Z6 [(⟨5,(-1),r8.1⟩:Node)])
       refine xR ?_
       replace H:=Option.some.inj H
       refine xr ?_
       subst H
       refine xrD [] ?_
       exact xO ⟨[1],[9]⟩
theorem Jc1:Jf Try.prog 17∧(∀ g,Jam g→Jx Try.prog 17 g)∧(true=true→∀ g,Jam g→∃ val bs ts,g.out=.ret val bs ts) :=
 ⟨Ju3,Jih,fun _=>by rintro _ ⟨_,_,_,_,_,_,_,_,_,rfl⟩; exact⟨_,_,_,rfl⟩⟩
noncomputable def VU(a0:List Token)(x1:EB)(x2:Int)(x3:Int)(x4:Int)(x5:Int)(x6:Int)(x7:List Node):Bool→Option ((EB×Int×Int×Int×Int×Int×(List Node)) ⊕ (Node×Fault))
 | x8=>if x8=true then(Z0 x1 x2 a0 x3 x4 x5 x6).bind fun r1=>if(x7.length + [(⟨r1.1,r1.2.1,r1.2.2.1⟩:Node)].length) * 40≤140737488355328 then some (.inl (r1.2.2.2.2.1,r1.2.2.2.1,r1.2.2.2.2.2.1,r1.2.2.2.2.2.2.1,r1.2.2.2.2.2.2.2.1,r1.2.2.2.2.2.2.2.2,x7++[(⟨r1.1,r1.2.1,r1.2.2.1⟩:Node)])) else none else inrO ((JO a0 x3 x4 x5 x6).bind fun r2=>if(!r2)=true then some ((⟨0,0,([]:List Node)⟩:Node),(⟨x3,x4,x5⟩:Fault)) else some ((⟨1,(-1),x7⟩:Node),(⟨x3,x4,x5⟩:Fault)))
noncomputable def JbX(a0:List Token):(EB×Int×Int×Int×Int×Int×(List Node))→Option ((EB×Int×Int×Int×Int×Int×(List Node)) ⊕ (Node×Fault))
 | (x1,x2,x3,x4,x5,x6,x7)=>if(ltI x2 (a0.length:Int))=true then(JO a0 x3 x4 x5 x6).bind fun r3=>VU a0 x1 x2 x3 x4 x5 x6 x7 r3 else VU a0 x1 x2 x3 x4 x5 x6 x7 false
noncomputable def Z4(a0:List Token):Option (Node×Fault) :=
 Ju (JbX a0) (([]:EB),0,0,(-1),0,0,([]:List Node))
noncomputable def JbU:PF:=PF.of (E1 (dL 11 Jb)) (fun a=>Z4 a) (T2 Jp Kf)
theorem JfK:Kt Try.prog 7 JbU:=by
 refine xFl mixed [10,11] [] [(17,true,Jam),(16,true,KA)] trivial ⟨Jc1,KE,trivial⟩ Try.func7 ?_
 rintro a0 out H
 have G:=True.intro
 have Y:=xZ y_3 <| xZ y_22 <| xZ y_24 <| xZ y_26 <| xZ y_27 <| xZ y_29 <| xZ y_44 <| xZ y_50 <| xZ Try.results7 <| xZ J9.eq_1 <| xZ Jb.eq_1 <| xZ Vl <| xZ Kf.eq_1 <| xZ Jal.eq_1 <| xZ KC.eq_1 <| xZ JdH <| xZ Jcz <| xZ Jcy <| xZ JdG <| xZ JdD <| xZ JcG <| xZ JcA <| JdF
 simp only[Z4]at H
 refine xS ?_
 refine xr ?_
 refine xr ?_
 refine xr ?_
 refine xr ?_
 refine xr ?_
 refine KH (JbX a0) (fun s=>[(0,.c (.d (.sl 11 (List.map Jb a0)))),(2,.c (.pt 1 0)),(3,.c (.pt 2 0)),(4,.c (.pt 3 0)),(5,.c (.pt 4 0)),(6,.c (.fm (EM Try.prog 52 (cvK s.1)))),(7,.c (.d (.v (.int .i64 s.2.1))))]) (fun s=>[[.d (.v (.int .i64 0)),.d (.v (.int .i64 0)),.sl 3 [] 0],[.d (.v (.int .i64 0)),.d (.v (.int .i64 0)),.d (.v (.int .i64 0))],[.d (.sl 11 (List.map Jb a0)),.d (.v (.int .i64 s.2.2.1)),.d (.v (.int .i64 s.2.2.2.1)),.d (.v (.int .i64 s.2.2.2.2.1)),.d (.v (.int .i64 s.2.2.2.2.2.1))],[.d (.v (.int .i64 1)),.d (.v (.int .i64 (-1))),.sl 3 (List.map Jp s.2.2.2.2.2.2) 5]]) [26] H (xK ⟨[1,2,3,4],[0]⟩) ?_
 rintro n1 ⟨x1,x2,x3,x4,x5,x6,x7⟩ o1 H hF1
 rw[JbX]at H
 refine XV ?_
 refine JB (VU a0 x1 x2 x3 x4 x5 x6 x7) (fun s=>[(0,.c (.d (.sl 11 (List.map Jb a0)))),(2,.c (.pt 1 0)),(3,.c (.pt 2 0)),(4,.c (.pt 3 0)),(5,.c (.pt 4 0)),(6,.c (.fm (EM Try.prog 52 (cvK x1)))),(7,.c (.d (.v (.int .i64 x2)))),(24,.c (.d (.v (.bool s))))]) (fun s=>[[.d (.v (.int .i64 0)),.d (.v (.int .i64 0)),.sl 3 [] 0],[.d (.v (.int .i64 0)),.d (.v (.int .i64 0)),.d (.v (.int .i64 0))],[.d (.sl 11 (List.map Jb a0)),.d (.v (.int .i64 x3)),.d (.v (.int .i64 x4)),.d (.v (.int .i64 x5)),.d (.v (.int .i64 x6))],[.d (.v (.int .i64 1)),.d (.v (.int .i64 (-1))),.sl 3 (List.map Jp x7) 5]]) [26] o1 ?_ ?_
 ·rcases Jc H with⟨hp3,H⟩|⟨hp3,H⟩
  ·obtain⟨F,G,hq3⟩:=xH Y G hp3
   obtain⟨r3,hr3,H⟩:=Je H
   have F:=F
   refine xQ ?_
   refine xs 6 ?_
   refine xc ⟨[3],[]⟩ (tabG 1 (JE a0 x3 x4 x5 x6 r3 hr3)) ?_
   refine xs 1 ?_
   refine xl ?_
   refine xS ?_
   exact Jd H (xK ⟨[1,2,3,4],[5]⟩)
  ·obtain⟨F,G,hq3⟩:=xH Y G hp3
   refine xR ?_
   exact Jd H (xK ⟨[1,2,3,4],[5]⟩)
 ·rintro x8 H
  rw[VU]at H
  rcases Jc H with⟨hp1,H⟩|⟨hp1,H⟩
  ·obtain⟨F,G,hq1⟩:=xH Y G hp1
   refine xT ?_
   obtain⟨r1,hr1,H⟩:=Je H
   have F:=Y
   refine xQ ?_
   refine xs 3 ?_
   refine xc ⟨[3],[]⟩ (tabG 0 (JiR x1 x2 a0 x3 x4 x5 x6 r1 hr1)) ?_
   refine xs 8 ?_
   refine xl ?_
   refine xS ?_
   obtain⟨hg1,H⟩:=Jg H
   have F:=xZ Y (XE Z6 [(⟨r1.1,r1.2.1,r1.2.2.1⟩:Node)])
   refine xR ?_
   refine xr ?_
   exact JJ (J2 H hF1) (xK ⟨[1,2,3,4],[9]⟩)
  ·obtain⟨F,G,hq1⟩:=xH Y G hp1
   replace H:=Jq H hF1
   refine xE ?_
   obtain⟨r2,hr2,H⟩:=Je H
   have F:=Y
   refine xQ ?_
   refine xs 1 ?_
   refine xc ⟨[3],[]⟩ (tabG 1 (JE a0 x3 x4 x5 x6 r2 hr2)) ?_
   refine xs 1 ?_
   refine xl ?_
   refine xS ?_
   rcases Jc H with⟨hp2,H⟩|⟨hp2,H⟩
   ·obtain⟨F,G,hq2⟩:=xH Y G hp2
    refine xT ?_
    have F:=Y
    refine xP [0,1,2,3,4,5,6] [48] ⟨Jc1,KE,trivial⟩ ?_
    refine xsX 4 ?_
    refine xaX ?_
    refine xbX ?_
    refine xbX ?_
    refine xlX ?_
    replace H:=Option.some.inj H
    refine xS ?_
    subst H
    exact xN
   ·obtain⟨F,G,hq2⟩:=xH Y G hp2
    refine xE ?_
    have F:=Y
    refine xP [0,1,2,3,4,5,6] [53] ⟨Jc1,KE,trivial⟩ ?_
    refine xsX 4 ?_
    refine xaX ?_
    refine xbX ?_
    refine xbX ?_
    refine xlX ?_
    replace H:=Option.some.inj H
    refine xS ?_
    subst H
    exact xN
theorem Jf2(a0:List Token)(r:Node×Fault)(H:Z4 a0=some r):PC JbU [(dL 11 Jb) a0] (T2 Jp Kf r):=PF.c (a:=a0) H
end Go.Proofs.Ytaofbminodhcnaa
